/- Lemmas. No conditions. -/
import Derived.Test.YtjpcgmjaipfgdaaGreatDoorGdL
set_option linter.all false
namespace Go.Gd
open Go
section
variable {P:TO}{ops:Array Oper}{H:Hp}
variable{ty:TJ}{K:TB}
def uJ{ev ev':TK}(o:Op)(h:∀x∈o.operands.toList,ev x=ev' x):vc P ev H ty K o=vc P ev' H ty K o:=by
 have quiet:((vq P ev H o).1/\K (vq P ev H o).2 H)=((vq P ev' H o).1/\K (vq P ev' H o).2 H):=by rw[ut o h]
 have other:ju P o ty ev H K=ju P o ty ev' H K:=by
  unfold ju;apply propext;constructor<;>intro hh w ρ dst pos after guard h1 h2
  ·exact hh w ρ dst pos after guard h1 fun x hx=>by rw[h x hx];exact h2 x hx
  ·exact hh w ρ dst pos after guard h1 fun x hx=>by rw[<-h x hx];exact h2 x hx
 cases o
 case box t x=>simp only[vc];rw[h x (by simp[Op.operands])]
 case store t a x=>simp only[vc];rw[h x (by simp[Op.operands]),h a (by simp[Op.operands])]
 case buildSlice t n ps=> simp only[Op.operands]at h;simp only[vc];rw[List.map_congr_left (g:=fun p=>(p.1,ev' p.2)) (fun x hx=>by rw[h x.2 (by simp at hx ⊢;exact⟨_,hx⟩)])]
 case binOp op t x y t'=>
  cases op<;>first
   |(simp only[vc];rw[h x (by simp[Op.operands]),h y (by simp[Op.operands])];done)
   |exact quiet
 case call c=>
  obtain⟨callee,args,ts⟩:=c;cases callee
  case value f=> simp only[Op.operands,Call.operands]at h;simp only[vc];rw[h f jE,List.map_congr_left (fun x hx=>h x (by simp at hx ⊢;exact .inr hx))]
  case invoke f m=> simp only[Op.operands,Call.operands]at h;simp only[vc];rw[h f jE,List.map_congr_left (fun x hx=>h x (by simp at hx ⊢;exact .inr hx))]
  case builtin b=>
   have hm:args.toList.map ev=args.toList.map ev':=List.map_congr_left fun x hx=>h x (by simpa[Op.operands,Call.operands]using hx)
   cases b
   case append=>
    simp only[vc];split
    ·rename_i t t' a x ht ha;rw[h a (by simp[Op.operands,Call.operands];rw[<-Array.mem_toList_iff,ha];simp),h x (by simp[Op.operands,Call.operands];rw[<-Array.mem_toList_iff,ha];simp)]
    ·rfl
   case len=>exact quiet
   case cap=>exact quiet
   case max=>exact quiet
   case min=>exact quiet
   all_goals(simp only[vc,dp,Bool.false_eq_true,if_false];rw[hm])
  all_goals exact other
 all_goals first
  |rfl
  |exact quiet
  |exact other
variable{t:TJ}{K':TB}
def FU{n:Nat}{parts:List (Nat×AV)}(h:oy P H t n parts K)(hk:∀r H,K r H->K' r H):oy P H t n parts K':=by
 unfold oy at*;split at h
 ·rename_i e he;split at h
  ·refine⟨h.1,?_⟩;rcases h.2 with h2|⟨h2,i,h3,h4⟩
   ·exact .inl ⟨h2.1,hk _ _ h2.2⟩
   ·exact .inr ⟨h2,i,h3,hk _ _ h4⟩
  ·exact h.elim
 ·exact h.elim
def JA{ev:TK}(o:Op)(hk:∀r H',K r H'->K' r H')(h:vc P ev H ty K o):vc P ev H ty K' o:=by
 have quiet:((vq P ev H o).1/\K (vq P ev H o).2 H)->((vq P ev H o).1/\K' (vq P ev H o).2 H):=fun h=>⟨h.1,hk _ _ h.2⟩
 have other:ju P o ty ev H K->ju P o ty ev H K':=fun hh w ρ dst pos after guard h1 h2=>by obtain⟨w',H',r,g1,g2⟩:=hh w ρ dst pos after guard h1 h2;exact⟨w',H',r,hk _ _ g1,g2⟩
 cases o
 case box t x=>obtain⟨h1,i,h2,h3⟩:=h;exact⟨h1,i,h2,hk _ _ h3⟩
 case alloc t=>
  simp only[vc,nM]at h ⊢;split at h
  ·obtain⟨i,h2,h3⟩:=h;exact⟨i,h2,hk _ _ h3⟩
  ·exact h.elim
 case store t a x=>
  simp only[vc,vz]at h ⊢;split at h
  ·split at h
   ·exact⟨h.1,hk _ _ h.2⟩
   ·exact h.elim
  ·exact h.elim
 case buildSlice t n ps=>exact FU h hk
 case binOp op t x y t'=>
  have nileq:∀ne,qj P ne t (ev x) (ev y) H K->qj P ne t (ev x) (ev y) H K':=fun ne h=>by
   unfold qj at h ⊢;split at h
   ·exact⟨h.1,fun b hb=>hk _ _ (h.2 b hb)⟩
   ·exact⟨h.1,fun b hb=>hk _ _ (h.2 b hb)⟩
   ·rename_i TS;exact⟨h.1,hk _ _ h.2⟩
  cases op<;>first
   |exact nileq false h
   |exact nileq true h
   |exact quiet h
 case call c=>
  obtain⟨callee,args,ts⟩:=c;cases callee
  case value f=>exact xX h hk
  case invoke f m=>
   simp only[vc,qe]at h ⊢;split at h
   ·split at h
    ·exact xX h hk
    ·exact h.elim
   ·exact h.elim
  case builtin b=>
   have bvc:pU P b ts.toList (args.toList.map ev) H K->pU P b ts.toList (args.toList.map ev) H K':=fun hh w vs ty cs h1 h2=>by obtain⟨w',H',r,v,g1,g2,g3⟩:=hh w vs ty cs h1 h2;exact⟨w',H',r,v,g1,hk _ _ g2,g3⟩
   cases b
   case append=>
    simp only[vc]at h ⊢;split at h
    ·intro w va vx ty h1 h2 h3;obtain⟨w',H',r,v,g1,g2,g3⟩:=h w va vx ty h1 h2 h3;exact⟨w',H',r,v,g1,hk _ _ g2,g3⟩
    ·exact h.elim
   case len=>exact quiet h
   case cap=>exact quiet h
   case max=>exact quiet h
   case min=>exact quiet h
   all_goals exact bvc h
  all_goals exact other h
 all_goals first
  |exact quiet h
  |exact other h
-- what is quiet, what is an effect
def p7:Op->Bool
 |.buildSlice ..=>true
 |_=>false
abbrev AS:=TH×TH×TH
def tX(A:AS)(o:Oper):Bool:=match o.dst with
 |some t=>A.2.1.contains t
 |none=>false
def oN(A:AS)(o:Oper):Bool:=match o.dst with
 |some t=>A.2.2.contains t
 |none=>false
def oM(A:AS)(o:Oper):Bool:=o.guard.isSome && oN A o && iY o.op
def mW(A:AS)(o:Oper):Bool:=(o.guard.isNone && !dp o.op && !oK o.op && !(p7 o.op && !oN A o) && !tX A o) || oM A o
def Bk(P:TO)(ev:TK)(H:Hp)(K:AV->Prop):Op->Prop
 |.call { callee:=.value f,args,.. }=>∃r,(fa P (ev f) (args.toList.map ev) H fun r' H'=>r'=r/\H'=H)/\K r
 |.lookup t m k c=>∃r,ju P (.lookup t m k c) 0 ev H (fun r' H'=>r'=r/\H'=H)/\K r
 |_=>False
def oB(o:Oper):Bool:=match o.op with
 |.load ..=>true
 |.lookup ..=>true
 |.call { callee:=.value _,.. }=>true
 |.call { callee:=.invoke ..,.. }=>true
 |.call { callee:=.builtin .len,argTypes,.. }=>jV.contains (argTypes.toList.headD 0)
 |_=>false
def mS(A:AS)(o:Oper):Bool:=match o.op with
 |.alloc _=>true
 |.box ..=>true
 |.store ..=>!A.1.isEmpty && !A.2.2.contains 1000000
 |.call { callee:=.value _,.. }=>oN A o
 |.call { callee:=.builtin .append,.. }=>oN A o
 |.buildSlice ..=>oN A o
 |.makeSlice ..=>oN A o
 |_=>false
def oX(o:Oper):Bool:=match o.op with
 |.load ..=>o.guard.isNone
 |_=>false
def eJ(A:AS)(H H':Hp):Prop:=∀i r,A.1.contains i=false->H.get i=some r->H'.get i=some r\/(A.1.contains (i+16)=true/\∃t c c' cs,r=.var t (c::cs)/\H'.get i=some (.var t (c'::cs)))
def eJ.refl(A:AS)(H:Hp):eJ A H H:=fun _ _ _ h=>.inl h
def eJ.trans{L:AS}{A B C:Hp}(h:eJ L A B)(k:eJ L B C):eJ L A C:=fun i r ha e=>by
 rcases h i r ha e with h1|⟨h0,t,c,c',cs,rfl,h1⟩
 ·exact k i r ha h1
 ·rcases k i _ ha h1 with k1|⟨_,t',d,d',ds,e',k1⟩
  ·exact .inr ⟨h0,t,c,c',cs,rfl,k1⟩
  ·cases e';exact .inr ⟨h0,t,c,d',cs,rfl,k1⟩
theorem eJ.put{A:AS}{H:Hp}{i:Nat}{r:Row}(h:H.get i=none):eJ A H (H.put i r):=fun j s _ hj=>by
 left
 rw[Hp.bj,if_neg (by rintro rfl;rw[h]at hj;cases hj)];exact hj
variable{A:AS}{i:Nat}
def eJ.set{H:Hp}{r:Row}(h:A.1.contains i=true):eJ A H (H.put i r):=fun j s ha hj=>by
 left
 rw[Hp.bj,if_neg (by rintro rfl;rw[h]at ha;cases ha)];exact hj
def sP(A:AS):AV->Bool
 |.pt i _ _ j=>!A.1.contains i && (decide (1<=j) || !A.1.contains (i+16))
 |_=>true
def C8(A:AS):AV->Bool
 |.pt i _ _ _=>A.1.contains i
 |_=>false
def iX(A:AS)(ev:TK):Op->Bool
 |.load _ x=>sP A (ev x)
 |.store _ a _=>(A.1.isEmpty || A.2.2.contains 1000000) || C8 A (ev a)
 |_=>true
variable{H':Hp}
def Lx{H:Hp}(h:eJ A H H'){a:AV}(ha:sP A a=true){x:Prop×TE}(hc:pr H a=some x):pr H' a=some x:=by
 unfold pr at*;split at hc
 ·exact hc
 ·rename_i i m k j;have ha:A.1.contains i=false/\(1<=j\/A.1.contains (i+16)=false):=by
   simp only[sP,Bool.and_eq_true,Bool.or_eq_true,Bool.not_eq_true',decide_eq_true_eq]at ha;exact ha
  cases e:H.get i with
  |none=>rw[e]at hc;cases hc
  |some r=>
   rw[e]at hc;rcases h i r ha.1 e with h1|⟨h0,t,c,c',cs,rfl,h1⟩
   ·simp only[h1];exact hc
   ·rcases ha.2 with h2|h2
    ·obtain⟨j',rfl⟩:∃j',j=j'+1:=⟨j-1,jB⟩;simp only[h1,List.drop_succ_cons]at hc ⊢;exact hc
    ·rw[h0]at h2;cases h2
 ·cases hc
def KL{H:Hp}(h:eJ A H H'){a:AV}(ha:sP A a=true)(hq:(oY P H t a).1):oY P H' t a=oY P H t a:=by
 unfold oY at*;cases e:pr H a with
 |none=>rw[e]at hq;exact hq.elim
 |some x=>rw[Lx h ha e]
def fD(P:TO)(ev:TK)(H:Hp)(ty:TJ)(K:TB)(op:Op):Prop:=if oK op then(vq P ev H op).1/\K (vq P ev H op).2 H else match op with
 |.buildSlice t n parts=>o9 P t n (parts.toList.map fun p=>(p.1,ev p.2)) fun r=>K r H
 |op=>vc P ev H ty K op
def Kt{ev:TK}(t:TJ)(n:Nat)(parts:Array (Nat×Operand)):fD P ev H ty K (.buildSlice t n parts)=o9 P t n (parts.toList.map fun p=>(p.1,ev p.2)) fun r=>K r H:=rfl
def G9{ev:TK}{op:Op}(h1:¬oK op=true)(h2:¬p7 op=true):fD P ev H ty K op=vc P ev H ty K op:=by unfold fD;rw[if_neg h1];cases op<;>first|rfl|(exact(h2 rfl).elim)
def tE(P:TO)(A:AS)(ev:TK)(H:Hp)(K:TB):Op->Prop
 |.call { callee:=.value f,args,.. }=>fa P (ev f) (args.toList.map ev) H fun r H'=>eJ A H H'/\K r H'
 |.buildSlice t n parts=>oy P H t n (parts.toList.map fun p=>(p.1,ev p.2)) fun r H'=>eJ A H H'/\K r H'
 |.makeSlice t l c=>ju P (.makeSlice t l c) 0 ev H fun r H'=>eJ A H H'/\K r H'
 |.call { callee:=.builtin .append,args,argTypes }=>vc P ev H 0 (fun r H'=>eJ A H H'/\K r H') (.call ⟨.builtin .append,args,argTypes⟩)
 |_=>False
def fF(A:AS)(P:TO)(ops:Array Oper)(K:TA):List Oper->TA
 |[],F,H=>K F H
 |o::rest,F,H=>match o.guard with
  |none=>if tX A o=true then Bk P (cn F) H (fun r=>fF A P ops K rest (cL F o.dst r) H) o.op else if oN A o=true then tE P A (cn F) H (fun r H'=>fF A P ops K rest (cL F o.dst r) H') o.op else iX A (cn F) o.op=true/\fD P (cn F) H o.type (fun r H'=>fF A P ops K rest (cL F o.dst r) H') o.op
  |some (j,want)=>match lS ops F j want with
   |some b=>if oM A o=true then(b=true->gp F o.op=true/\tE P A (bM F) H (fun r H'=>fF A P ops K rest (cL F o.dst r) H') o.op)/\(b=false->fF A P ops K rest (cL F o.dst (.gd false (.raw (.bool false)))) H)
    else(iY o.op || iH o.op)=true/\eK P F H b (fun r=>fF A P ops K rest (cL F o.dst r) H) o.op
   |none=>False
def JO(ts:List TJ)(args:TE)(h:jV.contains (ts.headD 0)=false):mf P H .len ts args=mf P H' .len ts args:=by
 unfold mf;cases ts with
 |nil=>rfl
 |cons t ts=>
  cases args with
  |nil=>rfl
  |cons x l=>
   show tU P H t x=tU P H' t x;unfold tU;have h:jV.contains t=false:=h;have hn:¬(jV.contains t=true):=by rw[h];exact Bool.false_ne_true
   cases x with
   |raw v=>cases v<;>rfl
   |mr i=> show(if jV.contains t=true then _ else gZ)=(if jV.contains t=true then _ else gZ);rw[if_neg hn,if_neg hn]
   |_=>rfl
variable{o:Oper}
def xI{ev:TK}(h:oB o=false):vq P ev H o.op=vq P ev H' o.op:=by
 obtain⟨dst,op,ty,pos,after,guard⟩:=o;cases op<;>first
  |rfl
  |(simp[oB]at h;done)
  |skip
 rename_i c;obtain⟨callee,args,ts⟩:=c;cases callee
 case builtin b=>
  cases b
  case len=>exact JO _ _ h
  all_goals(simp only[vq];unfold mf;generalize ts.toList=a;generalize args.toList.map ev=b;cases a<;>cases b<;>rfl)
 all_goals rfl
variable{F:TE}
def QA{g:Bool}{K:AV->Prop}(h:oB o=false):eK P F H g K o.op=eK P F H' g K o.op:=by
 have hc:iY o.op=false:=by
  obtain⟨dst,op,ty,pos,after,guard⟩:=o;cases op<;>first
   |rfl
   |(rename_i c;obtain⟨callee,args,ts⟩:=c;cases callee<;>first|rfl|simp[oB]at h)
 by_cases hp:xl o.op=true
 ·obtain⟨dst,op,ty,pos,after,guard⟩:=o;cases op<;>first|(cases hp;done)|rfl|(rename_i c;obtain⟨callee,args,ts⟩:=c;cases callee<;>first|(cases hp;done)|simp[oB]at h)
 have hp:xl o.op=false:=by simpa using hp
 rw[zj _ hc hp,zj _ hc hp,xI h]
def Qq{ev:TK}{o:Op}(h:dp o=true):vc P ev H ty K o=((vq P ev H o).1/\K (vq P ev H o).2 H):=by
 cases o
 case binOp op t x y t'=>cases op<;>first|(simp[dp]at h;done)|simp[vc,dp]
 case call c=>
  obtain⟨callee,args,ts⟩:=c;cases callee
  case builtin b=>cases b<;>first|(simp[dp]at h;done)|simp[vc,dp]
  all_goals(simp[dp]at h;done)
 all_goals first
  |(simp[dp]at h;done)
  |simp[vc,dp]
def DL{K:TA}{rest:List Oper}(h:fF A P ops K (o::rest) F H) :
  (mW A o=true/\∀G,xk ops o F G->mM P ops o G H fun G' H'=>(mS A o=true->eJ A H H')/\∃r,G'=cL G o.dst r/\fF A P ops K rest (cL F o.dst r) H')\/
  (mW A o=false/\∃r,QV P ops o F H r/\(oB o=false->∀H',QV P ops o F H' r)/\(oX o=true->∀H',eJ A H H'->QV P ops o F H' r)/\fF A P ops K rest (cL F o.dst r) H):=by
 unfold fF at h;split at h
 ·rename_i hg;by_cases Wy:tX A o=true
  ·rw[if_pos Wy]at h;refine .inr ⟨by simp[mW,oM,hg,Wy],?_⟩;obtain⟨dst,op,ty,pos,after,guard⟩:=o;simp only at hg;subst hg;cases op<;>first|exact h.elim|skip
   case call=>
    rename_i c;obtain⟨callee,args,ts⟩:=c;cases callee<;>first|exact h.elim|skip
    obtain⟨r,h1,h2⟩:=h;exact⟨r,DK h1,fun hd=>by simp[oB]at hd,fun VE=>by simp[oX]at VE,h2⟩
   case lookup=>
    rename_i t m k c;obtain⟨r,h1,h2⟩:=h;refine⟨r,fun G hG=>?_,fun hd=>by simp[oB]at hd,fun VE=>by simp[oX]at VE,h2⟩;refine qc (K:=fun F' H'=>F'=cL G dst r/\H'=H) rfl ?_;rw[uJ _ hG.1];have e:∀K:TB,vc P (cn F) H ty K (.lookup t m k c)=ju P (.lookup t m k c) ty (cn F) H K:=fun K=>by simp[vc,dp]
    show vc P (cn F) H ty _ (.lookup t m k c);rw[e];intro w ρ dst' pos' after' guard' g1 g2;obtain⟨w',H',r',hk,g⟩:=h1 w ρ dst' pos' after' guard' g1 g2;exact⟨w',H',r',⟨by rw[hk.1],hk.2⟩,g⟩
  rw[if_neg Wy]at h;by_cases VJ:oN A o=true
  ·rw[if_pos VJ]at h;have Wy:tX A o=false:=by simpa using Wy
   obtain⟨dst,op,ty,pos,after,guard⟩:=o;simp only at hg;subst hg;cases op
   case call=>
    rename_i c _;obtain⟨callee,args,ts⟩:=c;cases callee
    case value f _=> refine .inl ⟨by simp[mW,dp,oK,p7,Wy],fun G hG=>?_⟩;refine qc rfl ?_;rw[uJ _ hG.1];exact xX (f:=cn F f) (args:=args.toList.map (cn F)) h fun r H' hk=>⟨fun _=>hk.1,r,rfl,hk.2⟩
    case builtin bi _=>
     cases bi
     case append=> refine .inl ⟨by simp[mW,dp,oK,p7,Wy],fun G hG=>?_⟩;refine qc rfl ?_;rw[uJ _ hG.1];exact JA (K:=fun r H'=>eJ A H H'/\fF A P ops K rest (cL F dst r) H') (.call ⟨.builtin .append,args,ts⟩) (fun r H' hk=>⟨fun _=>hk.1,r,rfl,hk.2⟩) h
     all_goals exact h.elim
    all_goals exact h.elim
   case buildSlice=> refine .inl ⟨by simp[mW,dp,oK,p7,Wy,VJ],fun G hG=>?_⟩;refine qc rfl ?_;rw[uJ _ hG.1];exact FU h fun r H' hk=>⟨fun _=>hk.1,r,rfl,hk.2⟩
   case makeSlice=>
    rename_i t l c _;refine .inl ⟨by simp[mW,dp,oK,p7,Wy],fun G hG=>?_⟩;refine qc rfl ?_;rw[uJ _ hG.1];have e:∀K:TB,vc P (cn F) H ty K (.makeSlice t l c)=ju P (.makeSlice t l c) ty (cn F) H K:=fun K=>by simp[vc,dp]
    show vc P (cn F) H ty _ (.makeSlice t l c);rw[e];intro w ρ dst' pos' after' guard' h1 h2;obtain⟨w',H',r,hk,g⟩:=h w ρ dst' pos' after' guard' h1 h2;exact⟨w',H',r,⟨fun _=>hk.1,r,rfl,hk.2⟩,g⟩
   all_goals exact h.elim
  rw[if_neg VJ]at h;obtain⟨hA,h⟩:=h;by_cases he:oK o.op=true
  ·unfold fD at h;rw[if_pos he]at h;exact .inr ⟨by simp[mW,oM,hg,he],_,vQ hg h.1,fun hd H'=>by rw[xI hd];exact vQ hg (by rw[<-xI (H:=H) hd];exact h.1),fun VE=>by obtain⟨dst,op,ty,pos,after,guard⟩:=o;cases op<;>first|(simp[oK]at he;done)|(simp[oX]at VE;done),h.2⟩
  ·by_cases hl:p7 o.op=true
   ·refine .inr ⟨by simp[mW,oM,hg,hl,VJ],?_⟩;obtain⟨dst,op,ty,pos,after,guard⟩:=o;simp only at hg;subst hg;cases op<;>first|(simp[p7]at hl;done)|skip
    rename_i t n parts;rw[Kt]at h;obtain⟨r,h1,h2⟩:=Cw h;exact⟨r,Ac (h2 _ rfl),fun _ H'=>Ac (h2 _ rfl),fun VE=>by simp[oX]at VE,h1⟩
   ·rw[G9 he hl]at h;by_cases hq:dp o.op=true
    ·have h':(vq P (cn F) H o.op).1/\fF A P ops K rest (cL F o.dst (vq P (cn F) H o.op).2) H:=by
      rw[Qq hq]at h;exact h
     refine .inr ⟨by simp[mW,oM,hg,hq],_,vQ hg h'.1,fun hd H'=>by rw[xI hd];exact vQ hg (by rw[<-xI (H:=H) hd];exact h'.1),fun VE H' T3=>?_,h'.2⟩;obtain⟨dst,op,ty,pos,after,guard⟩:=o;cases op<;>first|(simp[oX]at VE;done)|skip
     rename_i t a;have e:vq P (cn F) H' (.load t a)=vq P (cn F) H (.load t a):=KL T3 hA h'.1;have:=vQ (P:=P) (ops:=ops) (H:=H') (o:=⟨dst,.load t a,ty,pos,after,guard⟩) (F:=F) hg (by rw[e];exact h'.1);rw[e]at this;exact this
    ·refine .inl ⟨by simp[mW,oM,hg];simp at hq he hl Wy;exact⟨⟨⟨hq,he⟩,.inl hl⟩,Wy⟩,fun G hG=>?_⟩;refine qc hg ?_;rw[uJ o.op hG.1];by_cases W4:mS A o=true
     ·obtain⟨dst,op,ty,pos,after,guard⟩:=o;cases op<;>first|(simp[mS]at W4;done)|(exact(VJ W4).elim)|skip
      case call c=>
       obtain⟨callee,args,ts⟩:=c;cases callee
       case builtin bi=>cases bi<;>first|(exact(VJ W4).elim)|(simp[mS]at W4;done)
       all_goals first|(exact(VJ W4).elim)|(simp[mS]at W4;done)
      case alloc t=>
       simp only[vc,nM]at h ⊢;split at h
       ·obtain⟨i,h2,h3⟩:=h;exact⟨i,h2,fun _=>eJ.put h2,_,rfl,h3⟩
       ·exact h.elim
      case box t x=>obtain⟨h1,i,h2,h3⟩:=h;exact⟨h1,i,h2,fun _=>eJ.put h2,_,rfl,h3⟩
      case store t a x=>
       simp only[mS,Bool.and_eq_true,Bool.not_eq_true']at W4;simp only[iX,W4.1,W4.2,Bool.false_or]at hA;simp only[vc,vz]at h ⊢;split at h
       ·rename_i i m k j n ha hn;have hi:A.1.contains i=true:=by rw[ha]at hA;exact hA
        split at h
        ·rename_i r hr;obtain⟨h1,h2⟩:=h;exact⟨h1,fun _=>eJ.set hi,_,rfl,h2⟩
        ·exact h.elim
       ·exact h.elim
     ·exact JA o.op (fun r H' hk=>⟨fun haj=>(W4 haj).elim,r,rfl,hk⟩) h
 ·rename_i j want hg;split at h
  ·rename_i b hb;by_cases XB:oM A o=true
   ·rw[if_pos XB]at h;refine .inl ⟨by simp[mW,XB],fun G hG=>?_⟩;obtain⟨dst,op,ty,pos,after,guard⟩:=o;simp only at hg;subst hg;have hc:iY op=true:=by unfold oM at XB;simp only[Bool.and_eq_true]at XB;exact XB.2
    cases op<;>first|(cases hc;done)|skip
    rename_i c;obtain⟨callee,args,ts⟩:=c;cases callee<;>first|(cases hc;done)|skip
    rename_i f;have hev:∀x∈(Op.call ⟨.value f,args,ts⟩).operands.toList,cn G x=cn F x:=hG.1;have hbG:=hG.2 j want rfl;rw[hb]at hbG;have hGg:∀x∈(Op.call ⟨.value f,args,ts⟩).operands.toList,bM G x=bM F x:=fun x hx=>by unfold bM;rw[hev x hx]
    refine pe rfl hbG (fun Uk w tm Q next h1 h2 hn=>?_) (fun Uk=>⟨.gd false (.raw (.bool false)),p4 rfl,⟨fun _=>eJ.refl _ _,_,rfl,h.2 Uk⟩⟩);obtain⟨ok,Ui⟩:=h.1 Uk;have ok:gp G (.call ⟨.value f,args,ts⟩)=true:=by unfold gp at ok ⊢;rw[List.all_eq_true]at ok ⊢;exact fun x hx=>by rw[hev x hx];exact ok x hx
    have We:=qy ok;have e1:kn G f=bM F f:=(We f (by simp[Op.operands,Call.operands])).trans (hGg f (by simp[Op.operands,Call.operands]));have e2:args.toList.map (kn G)=args.toList.map (bM F):=List.map_congr_left fun x hx=>(We x (by simp[Op.operands,Call.operands]at hx ⊢;exact .inr hx)).trans (hGg x (by simp[Op.operands,Call.operands]at hx ⊢;exact .inr hx))
    refine wz (ev:=kn G) e1 e2 Ui h1 (sQ h2) fun v r' w' H' hR g1 g2 g3=>?_
    rw[Act.put_eq];exact hn _ w' _ H' ⟨fun _=>hR.1,r',rfl,hR.2⟩ g1 ((h2.ext g3).put dst g2 []) g3
   rw[if_neg XB]at h;obtain⟨hq,hv⟩:=h;obtain⟨r,h1,h2⟩:=C5 hv;have h3:=h2 F (fun r'=>r'=.gd b r) (fun _ _=>rfl) rfl;exact .inr ⟨by simp[mW,hg,XB],_,Bi hg hb hq h3,fun hd H'=>Bi hg hb hq (by rw[QA hd]at h3;exact h3),(fun VE=>by
    unfold oX at VE;split at VE
    ·rw[hg]at VE;cases VE
    ·cases VE),h1⟩
  ·exact h.elim
def dJ(l:List Oper)(i:Nat):Oper:=l.getD i default
def kT(A:AS)(l:List Oper)(i:Nat):Bool:=mW A (dJ l i)
def o6(A:AS)(E:TH)(l:List Oper)(ps:List TH):TH->TH->Bool
 |done,[]=>(List.range l.length).all fun i=>done.contains i
 |done,i::rest=>((ps.getD i []).all fun k=>done.contains k) && !done.contains i && decide (i<l.length) &&
   (!kT A l i || ((rest.all fun k=>(ps.getD k []).contains i || E.contains k) && done.all fun q=>kT A l q || !oB (dJ l q) || (ps.getD i []).contains q || (mS A (dJ l i) && oX (dJ l q)))) && o6 A E l ps (i::done) rest
def pQ(A:AS)(E:TH)(l:List Oper)(ord:TH):Bool:=uA l && o6 A E l (kD l) [] ord && E.all fun i=>!tX A (dJ l i) && !oN A (dJ l i)
def mem(done:TH)(i:Nat):Bool:=done.contains i
variable{l:List Oper}{done:TH}
def tZ{E:TH}{rest:TH}(h:o6 A E l (kD l) done (i::rest)=true) :
  (∀k∈(kD l).getD i [],k∈done)/\i ∉ done/\i<l.length/\(kT A l i=true->(∀k∈rest,i∈(kD l).getD k []\/k∈E)/\∀q∈done,kT A l q=true\/oB (dJ l q)=false\/q∈(kD l).getD i []\/(mS A (dJ l i)=true/\oX (dJ l q)=true))/\o6 A E l (kD l) (i::done) rest=true:=by
 simp only[o6,Bool.and_eq_true,List.all_eq_true,List.contains_iff_mem,Bool.not_eq_true',decide_eq_true_eq,Bool.or_eq_true]at h;obtain⟨⟨⟨⟨h1,h2⟩,h3⟩,h4⟩,h5⟩:=h;refine⟨h1,by simpa using h2,h3,fun he=>?_,h5⟩;rcases h4 with h4|h4
 ·rw[he]at h4;cases h4
 ·exact⟨h4.1,fun q hq=>by
   rcases h4.2 q hq with((h|h)|h)|h
   ·exact .inl h
   ·exact .inr (.inl h)
   ·exact .inr (.inr (.inl h))
   ·exact .inr (.inr (.inr h))⟩
theorem JV{A:AS}{E:TH}{l:List Oper}:∀{rest done:TH},o6 A E l (kD l) done rest=true->∀e∈rest,kT A l e=true->∀q∈done,kT A l q=true\/oB (dJ l q)=false\/q∈(kD l).getD e []\/(mS A (dJ l e)=true/\oX (dJ l q)=true)
 |[],_,_=>fun e he=>by simp at he
 |i::rest,done,h=>fun e he W9 q hq=>by
  obtain⟨_,_,_,h4,h5⟩:=tZ h;rcases List.mem_cons.1 he with rfl|he
  ·exact(h4 W9).2 q hq
  ·exact JV h5 e he W9 q (List.mem_cons_of_mem _ hq)
theorem Ak{A:AS}{E:TH}{l:List Oper}:∀{rest done:TH},o6 A E l (kD l) done rest=true->∀i,i<l.length->i∈done\/i∈rest
 |[],done,h=>fun i hi=>by simp only[o6,List.all_eq_true,List.mem_range,List.contains_iff_mem]at h;exact .inl (h i hi)
 |j::rest,done,h=>fun i hi=>by
  obtain⟨_,_,_,_,h5⟩:=tZ h;rcases Ak h5 i hi with h|h
  ·rcases List.mem_cons.1 h with rfl|h
   ·exact .inr jE
   ·exact .inl h
  ·exact .inr (List.mem_cons_of_mem _ h)
def lR:mem done i=true<->i∈done:=by simp[mem]
def BU(done:TH)(i:Nat):(fun k=>mem (i::done) k)=fun k=>mem done k || k == i:=by
 funext k
 rw[Bool.eq_iff_iff];simp[mem,or_comm]
def yy(ho:l[i]?=some o){e:Edge}(he:e∈o.after.toList)(hb:Region.binds .any e=true):e.on∈(kD l).getD i []:=by rw[Iq ho,CL];exact List.mem_flatMap.2 ⟨e,List.mem_filter.2 ⟨he,hb⟩,jE⟩
theorem Fy{os:List Oper}{rs F:TE}{L L':TN}{s:Nat}(h:∀k o,os[k]?=some o->o.dst=some s->L k=L' k):∀m,ll os rs L F s m=ll os rs L' F s m
 |0=>rfl
 |m+1=>by
  unfold ll;rw[Fy h m];cases ho:os[m]? with
  |none=>simp
  |some o=>
   simp only[Option.bind_some];by_cases hd:o.dst=some s
   ·rw[h m o ho hd]
   ·simp[hd]
theorem rn{os:List Oper}{rs F:TE}{L:TN}{i:Nat}{r:AV}(hL:L i=false):∀m,FL os (rs.set i r) L F m=FL os rs L F m
 |0=>rfl
 |m+1=>by
  unfold FL;rw[rn hL m];by_cases hm:m=i
  ·subst hm;simp[hL]
  ·have:(rs.set i r).getD m .any=rs.getD m .any:=by simp[List.getElem?_set,Ne.symm hm]
   rw[this]
section
variable {l:List Oper}(O':∀j o,l[j]?=some o->∀e∈o.after.toList,Region.binds .any e=true->e.on<j)
 (Tx:∀i j a b,i<j->l[i]?=some a->l[j]?=some b->uz l a b=true->i∈(kD l).getD j [])
include O' Tx
variable{L:TN}
theorem Av(V6:nY l L){i:Nat}{o:Oper}(ho:l[i]?=some o)(W8:L i=false)(UY:∀e∈o.after.toList,Region.binds .any e=true->L e.on=true) :
  ∀k o' s,l[k]?=some o'->o'.dst=some s->(s∈looks l o\/o.dst=some s)->L k=decide (k<i):=by
 intro k o' s hk hs Ur;have Uj:=uE V6 O' (i+1) i jB o ho UY;rcases Nat.lt_trichotomy k i with h|h|h
 ·rw[decide_eq_true h];refine Uj k (Tx k i o' o h hk ho ?_);unfold uz;rw[hs];rcases Ur with h5|h5
  ·simp[h5]
  ·simp[h5]
 ·subst h;simpa using W8
 ·rw[decide_eq_false jB];cases hv:L k with
  |false=>rfl
  |true=>
   have Vl:i∈(kD l).getD k []:=Tx i k o o' h ho hk (by
    unfold uz;rw[hs];rcases Ur with h5|h5
    ·simp[h5]
    ·simp[h5])
   have:=uE V6 O' (k+1) k jB o' hk (fun e he hb=>V6 k o' hk hv e he hb) i Vl;rw[W8]at this;cases this
theorem FJ{rs F:TE}{L':TN}(hL:nY l L)(VR:nY l L'){i:Nat}{o:Oper}(ho:l[i]?=some o)(h1:L i=false)(h2:L' i=false)
  (h3:∀e∈o.after.toList,Region.binds .any e=true->L e.on=true) (h4:∀e∈o.after.toList,Region.binds .any e=true->L' e.on=true):xk l.toArray o (FL l rs L F l.length) (FL l rs L' F l.length):=by
 refine HE (by rw[lj,lj]) fun s hs I'=>?_
 rw[lj]at I';rw[sF _ _ _ _ I',sF _ _ _ _ I'];exact(Fy (fun k o' hk hd=>by rw[Av O' Tx hL ho h1 h3 k o' s hk hd (.inl hs),Av O' Tx VR ho h2 h4 k o' s hk hd (.inl hs)]) _).symm
theorem vg{rs F:TE}{L2:TN}(hL:nY l L){i:Nat}{o:Oper}(ho:l[i]?=some o)(h1:L i=false)(h3:∀e∈o.after.toList,Region.binds .any e=true->L e.on=true){r:AV}(hr:rs.getD i .any=r)(VZ:∀k,L2 k=(L k || k == i)) :
  cL (FL l rs L F l.length) o.dst r=FL l rs L2 F l.length:=by
 have Vh:=(List.getElem?_eq_some_iff.1 ho).1;refine Eu (m':=0) (L':=fun _=>true) (by cases o.dst<;>simp[cL,lj]) fun s hs=>?_
 by_cases hd:o.dst=some s
 ·rw[AU (L:=L) ho VZ (fun k o' hk YX=>Av O' Tx hL ho h1 h3 k o' s hk YX (.inr hd)) hd _ Vh,hd,hr];simp[cL,lj,hs]
 ·rw[BH (L:=L) ho VZ hd,<-sF _ _ _ _ hs];cases YX:o.dst with
  |none=>rfl
  |some d=>
   have:d≠s:=fun e=>hd (by rw[YX,e])
   simp[cL,List.getElem?_set,this]
end
structure Inv(A:AS)(E:List Nat)(P:Program)(l:List Oper)(K:List AV->Hp->Prop)(F:List AV)(L:Nat->Bool)(done rest:List Nat)(rs:List AV)(H:Hp):Prop where
 len:rs.length=l.length
 sub:∀i,L i=true->i∈done\/i∈E
 dP:nY l L
 kM:nY l (mem done)
 ord:o6 A E l (kD l) done rest=true
 walk:fF A P l.toArray K (rest.map (dJ l)) (FL l rs (mem done) F l.length) H
 wait:∀i∈done,L i=false->kT A l i=false/\i<l.length/\∃D,nY l D/\D i=false/\(∀k,D k=true->k∈done)/\(∀e∈(dJ l i).after.toList,Region.binds .any e=true->D e.on=true)/\
  QV P l.toArray (dJ l i) (FL l rs D F l.length) H (rs.getD i .any)/\(oB (dJ l i)=false->∀H',QV P l.toArray (dJ l i) (FL l rs D F l.length) H' (rs.getD i .any))/\(oX (dJ l i)=true->∀H',eJ A H H'->QV P l.toArray (dJ l i) (FL l rs D F l.length) H' (rs.getD i .any))
def yB(hi:i<l.length):l[i]?=some (dJ l i):=by simp[dJ,hi]
def ru(P:TO)(l:List Oper):TH->Prop
 |[]=>True
 |i::E=>(match (dJ l i).op with|.alloc t=>(dN P t).isSome=true|_=>False)/\(dJ l i).guard=none/\ru P l E
theorem yh{P:TO}{l:List Oper}:∀{E:TH},ru P l E->∀i∈E,∃t zs,(dJ l i).op=.alloc t/\dN P t=some zs/\(dJ l i).guard=none
 |[],_,i,hi=>by simp at hi
 |j::E,h,i,hi=>by
  obtain⟨h1,h2,h3⟩:=h;rcases List.mem_cons.1 hi with rfl|hi
  ·split at h1
   ·rename_i t e;obtain⟨zs,hz⟩:=Option.isSome_iff_exists.1 h1;exact⟨t,zs,e,hz,h2⟩
   ·exact h1.elim
  ·exact yh h3 i hi
def BZ(A:AS)(P:TO)(l:List Oper)(E:TH):Prop:=ru P l E/\∀i∈E,tX A (dJ l i)=false/\oN A (dJ l i)=false
def S8{P:TO}{E:TH}(h:BZ A P l E)(hi:i∈E):kT A l i=true/\mS A (dJ l i)=true:=by obtain⟨t,zs,e,_,hg⟩:=yh h.1 i hi;simp[kT,mW,mS,e,hg,dp,oK,p7,(h.2 i hi).1]
def Hid(P:TO)(l:List Oper)(L:TN)(done:TH)(rs:TE)(w0 w:NW)(β:Nat->Nat):Prop:=∀i,L i=true->i ∉ done->
 (∃t cur,(dJ l i).op=.alloc t/\dN P t=some cur.toList/\rs.getD i .any=.raw (.pointer (some ⟨β i,0,none⟩))/\w.heap[β i]?=some (.cells cur t (0,0))/\w.O (β i)/\w0.heap.size<=β i/\β i<w.heap.size/\∀j m t s,w.nm j m≠some (.at (β i) t s))/\∀j,L j=true->j ∉ done->β i=β j->i=j
def Hid.ext{P:TO}{L:TN}{rs:TE}{w0 w w':NW}{β:Nat->Nat}{H:Hp}(h:Hid P l L done rs w0 w β)(e:Ext w H w' H'):Hid P l L done rs w0 w' β:=fun i h1 h2=>by obtain⟨⟨t,cur,a1,a2,a3,a4,a5,a6,a7,a8⟩,b⟩:=h i h1 h2;obtain⟨e1,e2,e3⟩:=e.rest (β i) a7 a5 a8;exact⟨⟨t,cur,a1,a2,a3,e1.trans a4,e2,a6,Nat.lt_of_lt_of_le a7 e.size,e3⟩,b⟩
def Pz{w:NW}{H:Hp}(r:aJ w H){b:Nat}{cur:TL}(hi:H.get i=none)(hb:w.heap[b]?=some (.cells cur t (0,0)))(hO:w.O b)(O':b<w.heap.size)(TS:∀j m t s,w.nm j m≠some (.at b t s)) :
  aJ (w.name i 0 (.at b cur.size 0)) (H.put i (.var t (cur.toList.map .raw)))/\Keep rM w (w.name i 0 (.at b cur.size 0))/\ax (w.name i 0 (.at b cur.size 0)) (.pt i 0 0 0) (.pointer (some ⟨b,0,none⟩)):=by
 have Uu:∀j n,(w.name i 0 (.at b cur.size 0)).nm j n=if j=i/\n=0 then some (Rz.at b cur.size 0)else w.nm j n:=fun _ _=>rfl
 have kp:Keep rM w (w.name i 0 (.at b cur.size 0)):=⟨Nat.le_refl _,fun _ _ h=>⟨rfl,h⟩,fun j n z _ h=>by
  rw[Uu,if_neg]
  ·exact h
  ·rintro⟨rfl,rfl⟩;rw[r.none hi]at h;cases h⟩
 refine⟨{ rows:=fun j s hj=>?_,df:=fun j n z hz=>?_,inj:=fun j n j' n' b' t1 s1 t2 s2 h1 h2=>?_,own:=fun j n b' t1 s1 h=>?_,fin:=r.fin,bX:=r.bX.aZ kp },kp,?_⟩
 ·rw[Hp.bj]at hj;split at hj
  ·rename_i e;subst e;cases hj;refine⟨trivial,.at b cur.size 0,by rw[Uu];exact if_pos ⟨rfl,rfl⟩,rfl,cur,hb,⟨rfl,by show(cur.toList.map AV.raw).length<=_;simp⟩,fun k a v ha hv=>?_⟩;have ha:(cur.toList.map AV.raw)[k]?=some a:=ha;simp only[List.getElem?_map,Array.getElem?_toList,hv,Option.map_some,Option.some.injEq]at ha;subst ha;exact .raw _
  ·rename_i e;obtain⟨h1,z,h2,h3⟩:=r.rows j s hj;refine⟨h1,z,by rw[Uu,if_neg (fun h=>e h.1)];exact h2,?_⟩;cases z with
   |nil=>exact h3
   |«at» b' t' st=> obtain⟨g1,Vi,g2,g3,g5⟩:=h3;exact⟨g1,Vi,g2,g3,fun k a v ha hv=>(g5 k a v ha hv).aZ kp (ny a)⟩
 ·rw[Uu]at hz;rw[Hp.bj];split at hz
  ·rename_i e;exact⟨_,by rw[if_pos e.1],by rw[e.2];exact Nat.zero_le _⟩
  ·obtain⟨r',h1,h2⟩:=r.df j n z hz;have e:j≠i:=fun e=>by subst e;rw[hi]at h1;cases h1
   exact⟨r',by rw[if_neg e];exact h1,h2⟩
 ·rw[Uu]at h1 h2;split at h1<;>split at h2
  ·rename_i e1 e2;rw[e1.1,e2.1]
  ·cases h1;exact(TS _ _ _ _ h2).elim
  ·cases h2;exact(TS _ _ _ _ h1).elim
  ·exact r.inj _ _ _ _ _ _ _ _ _ h1 h2
 ·rw[Uu]at h;split at h
  ·cases h;exact hO
  ·exact r.own _ _ _ _ _ h
 ·have:=ax.pt (w:=w.name i 0 (.at b cur.size 0)) i 0 0 0 b cur.size 0 (NW.cw _ _ _ _);simpa using this
def JM{w0 w:NW}{H0 H:Hp}(e:Ext w0 H0 w H)(r:aJ w H){b sz:Nat}(hi:H.get i=none)(hb:w0.heap.size<=b)(hB:H'.B=H.B):Ext w0 H0 (w.name i 0 (.at b sz 0)) H':={
 size:=e.size,free:=e.free
 names:=fun j n z hq h=>by
  have:=e.names j n z hq h;show(if j=i/\n=0 then _ else _)=_;rw[if_neg]
  ·exact this
  ·rintro⟨rfl,rfl⟩;rw[r.none hi]at this;cases this
 os:=e.os,tape:=e.tape,output:=e.output
 rest:=fun c hc hO TS=>by
  obtain⟨e1,e2,e3⟩:=e.rest c hc hO TS;refine⟨e1,e2,fun j n t s h=>?_⟩;have h:(if j=i/\n=0 then some (Rz.at b sz 0)else w.nm j n)=some (.at c t s):=h;split at h
  ·cases h;omega
  ·exact e3 _ _ _ _ h
 base:=hB.trans e.base }
theorem F5{os:List Oper}{rs F:TE}{L:TN}{i:Nat}{r:AV}:∀(m:Nat) (s:Nat) (a:AV),(FL os (rs.set i r) L F m)[s]?=some a->(FL os rs L F m)[s]?=some a\/(a=r/\(FL os rs L F m)[s]?=some (rs.getD i .any)/\i<rs.length)
 |0=>fun s a h=>.inl h
 |m+1=>fun s a h=>by
  have ih:=F5 (os:=os) (rs:=rs) (F:=F) (L:=L) (i:=i) (r:=r) m;have hl:(FL os (rs.set i r) L F m).length=(FL os rs L F m).length:=by rw[lj,lj]
  unfold FL at h ⊢;cases hL:L m with
  |false=>simp only[hL,Bool.false_eq_true,if_false]at h ⊢;exact ih s a h
  |true=>
   simp only[hL,if_true]at h ⊢;cases hd:(os[m]?).bind (·.dst)with
   |none=>rw[hd]at h;exact ih s a h
   |some d=>
    rw[hd]at h;simp only[cL]at h ⊢;rw[List.getElem?_set]at h ⊢;by_cases e:d=s
    ·subst e;simp only[if_true]at h ⊢;rw[hl]at h;split at h
     ·rename_i O';rw[if_pos O'];simp only[Option.some.injEq]at h;by_cases hm:i=m
      ·subst hm;by_cases hi:i<rs.length
       ·refine .inr ⟨?_,rfl,hi⟩;rw[<-h];simp[hi]
       ·refine .inl ?_;rw[<-h];simp[hi,List.getElem?_set]
      ·refine .inl ?_;rw[<-h];simp[List.getElem?_set,hm]
     ·cases h
    ·simp only[if_neg e]at h ⊢;exact ih s a h
section
variable {A:AS}{E:TH}{l:List Oper}{K:TA}{F:TE}(hok:uA l=true)(hE:BZ A P l E)
include hok
variable{done:TH}{i:Nat}
theorem A0(hi:i<l.length)(hd:nY l (mem done))(hp:∀k∈(kD l).getD i [],k∈done):nY l (mem (i::done)):=fun j o ho hj e he hb=>by
 rw[lR]at hj ⊢;rcases List.mem_cons.1 hj with rfl|hj
 ·exact List.mem_cons_of_mem _ (hp _ (yy ho he hb))
 ·exact List.mem_cons_of_mem _ (lR.1 (hd j o ho (lR.2 hj) e he hb))
include hE
theorem Cs:∀(rest:TH) {L:TN} {done:TH} {rs:TE},Inv A E P l K F L done rest rs H->
  ∃done' U3 UH,Inv A E P l K F L done' U3 UH H/\(∀i r,U3=i::r->kT A l i=true)/\FL l UH L F l.length=FL l rs L F l.length/\U3.length<=rest.length/\(∀w0 w β,Hid P l L done rs w0 w β->Hid P l L done' UH w0 w β)
 |[],L,done,rs,h=>⟨done,[],rs,h,(fun i r e=>by cases e),rfl,Nat.le_refl _,fun _ _ _ h=>h⟩
 |i::rest,L,done,rs,h=>by
  obtain⟨O',Tx⟩:=vO hok;cases he:kT A l i with
  |true=>exact⟨done,i::rest,rs,h,fun j r e=>by cases e;exact he,rfl,Nat.le_refl _,fun _ _ _ h=>h⟩
  |false=>
   obtain⟨hp,ZN,Vh,_,h5⟩:=tZ h.ord;have ho:=yB Vh;have hw:=h.walk;rw[List.map_cons]at hw;rcases DL hw with⟨hx,_⟩|⟨_,r,q1,q2,q2',q3⟩
   ·unfold kT at he;rw[he]at hx;cases hx
   have X8:mem done i=false:=by rw[<-Bool.not_eq_true,lR];exact ZN
   have YY:L i=false:=by
    cases e:L i with
    |false=>rfl
    |true=>
     rcases h.sub i e with h6|h6
     ·exact(ZN h6).elim
     ·rw[(S8 (A:=A) hE h6).1]at he;cases he
   have UY:∀e∈(dJ l i).after.toList,Region.binds .any e=true->mem done e.on=true:=fun e he hb=>lR.2 (hp _ (yy ho he hb))
   have Ty:∀D:TN,(∀k,D k=true->k∈done)->FL l (rs.set i r) D F l.length=FL l rs D F l.length:=fun D hD=>rn (by
    cases e:D i with
    |false=>rfl
    |true=>exact(ZN (hD i e)).elim) _
   have Uw:(rs.set i r).getD i .any=r:=by simp[h.len,Vh]
   have UK:∀j,j≠i->(rs.set i r).getD j .any=rs.getD j .any:=fun j hj=>by simp[List.getElem?_set,Ne.symm hj]
   have WL:=vg (rs:=rs.set i r) (F:=F) O' Tx h.kM ho X8 UY Uw (L2:=mem (i::done)) (fun k=>by rw[show mem (i::done) k=(fun k=>mem (i::done) k) k from rfl,BU]);rw[Ty _ (fun k hk=>lR.1 hk)]at WL;have hinv:Inv A E P l K F L (i::done) rest (rs.set i r) H:=by
    refine⟨by simpa using h.len,fun k hk=>(h.sub k hk).imp_left (List.mem_cons_of_mem _),h.dP,A0 hok Vh h.kM hp,h5,by rw[<-WL];exact q3,fun j hj VD=>?_⟩;rcases List.mem_cons.1 hj with rfl|hj
    ·exact⟨he,Vh,mem done,h.kM,X8,fun k hk=>List.mem_cons_of_mem _ (lR.1 hk),UY,by rw[Ty _ (fun k hk=>lR.1 hk),Uw];exact q1,fun hd H'=>by rw[Ty _ (fun k hk=>lR.1 hk),Uw];exact q2 hd H',fun hd H' T3=>by rw[Ty _ (fun k hk=>lR.1 hk),Uw];exact q2' hd H' T3⟩
    ·obtain⟨w1,w2,D,w3,w4,w5,w6,w7,w8,w9⟩:=h.wait j hj VD;have Vz:j≠i:=fun e=>ZN (e ▸ hj)
     exact⟨w1,w2,D,w3,w4,fun k hk=>List.mem_cons_of_mem _ (w5 k hk),w6,by rw[Ty _ w5,UK j Vz];exact w7,fun hd H'=>by rw[Ty _ w5,UK j Vz];exact w8 hd H',fun hd H' T3=>by rw[Ty _ w5,UK j Vz];exact w9 hd H' T3⟩
   obtain⟨d',r',UH,g1,g2,g3,g4,g5⟩:=Cs rest hinv;refine⟨d',r',UH,g1,g2,by rw[g3,rn YY],by simp;omega,fun w0 w β hh=>g5 w0 w β fun k Ue TY=>?_⟩;have Vl:k≠i:=fun e=>TY (by simp[e])
   obtain⟨a,b⟩:=hh k Ue fun WM=>TY (List.mem_cons_of_mem _ WM)
   rw[UK k Vl];exact⟨a,fun j Xn Wf=>b j Xn fun hj3=>Wf (List.mem_cons_of_mem _ hj3)⟩
variable{L:TN}{rest:TH}
theorem Hl{L2:TN}{rs:TE}{r:AV}{H':Hp}(h:Inv A E P l K F L done (i::rest) rs H)(W9:kT A l i=true)(VZ:∀k,L2 k=(L k || k == i))(WN:mS A (dJ l i)=true->eJ A H H')
  (Uj:∀k∈(kD l).getD i [],L k=true):∀j∈i::done,L2 j=false->kT A l j=false/\j<l.length/\∃D,nY l D/\D j=false/\(∀k,D k=true->k∈i::done)/\(∀e∈(dJ l j).after.toList,Region.binds .any e=true->D e.on=true)/\
  QV P l.toArray (dJ l j) (FL l (rs.set i r) D F l.length) H' ((rs.set i r).getD j .any)/\(oB (dJ l j)=false->∀UC,QV P l.toArray (dJ l j) (FL l (rs.set i r) D F l.length) UC ((rs.set i r).getD j .any))/\(oX (dJ l j)=true->∀UC,eJ A H' UC->QV P l.toArray (dJ l j) (FL l (rs.set i r) D F l.length) UC ((rs.set i r).getD j .any)):=by
 intro j hj VD;obtain⟨hp,UK,VF,h4,h5⟩:=tZ h.ord;have Ty:∀D:TN,(∀k,D k=true->k∈done)->FL l (rs.set i r) D F l.length=FL l rs D F l.length:=fun D hD=>rn (by
  cases e:D i with
  |false=>rfl
  |true=>exact(UK (hD i e)).elim) _
 have ZO:∀j,j≠i->(rs.set i r).getD j .any=rs.getD j .any:=fun j hj=>by simp[List.getElem?_set,Ne.symm hj]
 rw[VZ]at VD;obtain⟨VD,Vz⟩:=Bool.or_eq_false_iff.1 VD;have Vz:j≠i:=by simpa using Vz
 have hj:j∈done:=by rcases List.mem_cons.1 hj with e|h;exact(Vz e).elim;exact h
 obtain⟨w1,w2,D,w3,w4,w5,w6,w7,w8,w9⟩:=h.wait j hj VD;have hak:QV P l.toArray (dJ l j) (FL l rs D F l.length) H' (rs.getD j .any):=by
  rcases(h4 W9).2 j hj with h6|h6|h6|h6
  ·rw[w1]at h6;cases h6
  ·exact w8 h6 H'
  ·have:=Uj j h6;rw[VD]at this;cases this
  ·exact w9 h6.2 H' (WN h6.1)
 refine⟨w1,w2,D,w3,w4,fun k hk=>List.mem_cons_of_mem _ (w5 k hk),w6,by rw[Ty _ w5,ZO j Vz];exact hak,fun hd UC=>by rw[Ty _ w5,ZO j Vz];exact w8 hd UC,fun hd UC T3=>?_⟩;rw[Ty _ w5,ZO j Vz];rcases(h4 W9).2 j hj with h6|h6|h6|h6
 ·rw[w1]at h6;cases h6
 ·exact w8 h6 UC
 ·have:=Uj j h6;rw[VD]at this;cases this
 ·exact w9 h6.2 UC ((WN h6.1).trans T3)
theorem Gi{w0:NW}{H0:Hp}:∀(n:Nat) {L:TN} {done rest:TH} {rs:TE} {H:Hp} {w:NW} {tm:TL} {β:Nat->Nat},rest.length<=n->Inv A E P l K F L done rest rs H->aJ w H->bs w (FL l rs L F l.length) tm->Ext w0 H0 w H->Hid P l L done rs w0 w β->
  ∃done' U3 UH H' w',NW.toWorld w'=w.toWorld/\Inv A E P l K F L done' U3 UH H'/\(∀i r,U3=i::r->kT A l i=true/\L i=false)/\aJ w' H'/\bs w' (FL l UH L F l.length) tm/\Ext w0 H0 w' H'/\Hid P l L done' UH w0 w' β
 |n,L,done,rest,rs,H,w,tm,β,hn,h,h1,h2,h3,h4=>by
  obtain⟨O',Tx⟩:=vO hok;obtain⟨d',r',UH,g1,g2,g3,g4,g5⟩:=Cs hok hE rest h;have g5:=g5 _ _ _ h4;rw[<-g3]at h2;cases r' with
  |nil=>exact⟨d',[],UH,H,w,rfl,g1,(fun i r e=>by cases e),h1,h2,h3,g5⟩
  |cons i r=>
   have W9:=g2 i r rfl;cases YY:L i with
   |false=>exact⟨d',i::r,UH,H,w,rfl,g1,(fun j q e=>by cases e;exact⟨W9,YY⟩),h1,h2,h3,g5⟩
   |true=>
    obtain⟨hp,UK,VF,c4,c5⟩:=tZ g1.ord;obtain⟨⟨t,cur,a1,a2,a3,a4,a5,a6,a7,a8⟩,a9⟩:=g5 i YY UK;have Zq:i∈E:=(g1.sub i YY).resolve_left UK;have XB:(dJ l i).guard=none:=by obtain⟨_,_,_,_,hg⟩:=yh hE.1 i Zq;exact hg
    have hw:=g1.walk;rw[List.map_cons]at hw;unfold fF at hw;rw[XB]at hw;simp only at hw;rw[if_neg (by rw[(hE.2 i Zq).1];exact Bool.false_ne_true),if_neg (by rw[(hE.2 i Zq).2];exact Bool.false_ne_true)]at hw;obtain⟨_,hw⟩:=hw;rw[a1,G9 (by simp[oK]) (by simp[p7])]at hw;simp only[vc,nM,a2]at hw;obtain⟨id,hid,hv⟩:=hw;have ho:=yB VF;obtain⟨k1,k2,k3⟩:=Pz h1 hid a4 a5 a7 a8;have X8:mem d' i=false:=by rw[<-Bool.not_eq_true,lR];exact UK
    have Va:∀e∈(dJ l i).after.toList,Region.binds .any e=true->mem d' e.on=true:=fun e he hb=>lR.2 (hp _ (yy ho he hb))
    have Uw:(UH.set i (.pt id 0 0 0)).getD i .any=.pt id 0 0 0:=by simp[g1.len,VF]
    have Ty:∀D:TN,(∀k,D k=true->k∈d')->FL l (UH.set i (.pt id 0 0 0)) D F l.length=FL l UH D F l.length:=fun D hD=>rn (by
     cases e:D i with
     |false=>rfl
     |true=>exact(UK (hD i e)).elim) _
    have UB:=vg (rs:=UH.set i (.pt id 0 0 0)) (F:=F) O' Tx g1.kM ho X8 Va Uw (L2:=mem (i::d')) (fun k=>by rw[show mem (i::d') k=(fun k=>mem (i::d') k) k from rfl,BU]);rw[Ty _ (fun k hk=>lR.1 hk)]at UB;have Uj:∀k∈(kD l).getD i [],L k=true:=uE g1.dP O' (i+1) i jB _ ho fun e he hb=>g1.dP i _ ho YY e he hb
    have hinv:Inv A E P l K F L (i::d') r (UH.set i (.pt id 0 0 0)) (H.put id (.var t (cur.toList.map .raw))):=
     ⟨by simpa using g1.len,fun k hk=>(g1.sub k hk).imp_left (List.mem_cons_of_mem _),g1.dP,A0 hok VF g1.kM hp,c5,by rw[<-UB];exact hv,
      Hl hok hE g1 W9 (fun k=>by
       by_cases e:k=i
       ·subst e;simp[YY]
       ·simp[e]) (fun _=>eJ.put hid) Uj⟩
    have T8:bs (w.name id 0 (.at (β i) cur.size 0)) (FL l (UH.set i (.pt id 0 0 0)) L F l.length) tm:=by
     refine⟨by rw[lj];have:=h2.1;rw[lj]at this;exact this,fun s a v ha T'=>?_⟩;rcases F5 l.length s a ha with h6|⟨rfl,h6,_⟩
     ·exact(h2.2 s a v h6 T').aZ k2 (ny a)
     ·have:=h2.2 s _ v h6 T';rw[a3]at this;have:=dc this;subst this;exact k3
    have X9:Hid P l L (i::d') (UH.set i (.pt id 0 0 0)) w0 (w.name id 0 (.at (β i) cur.size 0)) β:=fun k Ue TY=>by
     have Vl:k≠i:=fun e=>TY (by simp[e])
     have WM:k ∉ d':=fun e=>TY (List.mem_cons_of_mem _ e)
     obtain⟨⟨t',Vi,b1,b2,b3,b4,b5,b6,b7,b8⟩,b9⟩:=g5 k Ue WM;refine⟨⟨t',Vi,b1,b2,by rw[<-b3];simp[List.getElem?_set,Ne.symm Vl],b4,b5,b6,b7,fun j m t1 s1 hh=>?_⟩,fun j Xn Wf=>b9 j Xn fun e=>Wf (List.mem_cons_of_mem _ e)⟩;have hh:(if j=id/\m=0 then some (Rz.at (β i) cur.size 0)else w.nm j m)=some (.at (β k) t1 s1):=hh;split at hh
     ·simp only[Option.some.injEq,Rz.at.injEq]at hh;exact Vl (a9 k Ue WM hh.1).symm
     ·exact b8 _ _ _ _ hh
    simp only[List.length_cons]at g4;obtain⟨n,rfl⟩:∃k,n=k+1:=⟨n-1,jB⟩;obtain⟨d2,r2,rs2,H2,w2,x1,x2,x3,x4,x5,x6,x7⟩:=Gi n jB hinv k1 T8 (JM h3 h1 hid a6 rfl) X9;exact⟨d2,r2,rs2,H2,w2,x1,x2,x3,x4,x5,x6,x7⟩
theorem OZ{rs:TE}(h:Inv A E P l K F L done rest rs H)(hs:∀i r,rest=i::r->kT A l i=true/\L i=false){o:Oper}(ho:l[i]?=some o)(hi:L i=false)(UY:∀e∈o.after.toList,Region.binds .any e=true->L e.on=true)
  {L2:TN} (VZ:∀k,L2 k=(L k || k == i)) (hnE:i∈done\/i ∉ E\/∃r,rest=i::r) :
  mM P l.toArray o (FL l rs L F l.length) H fun G' H'=>∃done' U3 UH,Inv A E P l K F L2 done' U3 UH H'/\G'=FL l UH L2 F l.length/\∀w0 w β,Hid P l L done rs w0 w β->Hid P l L2 done' UH w0 w β:=by
 obtain⟨O',Tx⟩:=vO hok;have Vh:=(List.getElem?_eq_some_iff.1 ho).1;obtain rfl:o=dJ l i:=by have:=(yB Vh).symm.trans ho;cases this;rfl
 have WO:nY l L2:=fun j o' hj VD e he hb=>by
  rw[VZ]at VD ⊢;rcases Bool.or_eq_true_iff.1 VD with h6|h6
  ·rw[h.dP j o' hj h6 e he hb];rfl
  ·obtain rfl:j=i:=by simpa using h6
   rw[ho]at hj;cases hj;rw[UY e he hb];rfl
 by_cases hd:i∈done
 ·obtain⟨w1,w2,D,w3,w4,w5,w6,w7,w8,w9⟩:=h.wait i hd hi;refine(w7 _ (FJ O' Tx w3 h.dP ho w4 hi w6 UY)).mono ?_;rintro G' H' ⟨rfl,rfl⟩;refine⟨done,rest,rs,⟨h.len,fun k hk=>?_,WO,h.kM,h.ord,h.walk,fun j hj VD=>h.wait j hj ?_⟩,vg O' Tx h.dP ho hi UY rfl VZ,fun w0 w β hh k Ue TY=>?_⟩
  ·rw[VZ]at hk;rcases Bool.or_eq_true_iff.1 hk with h6|h6
   ·exact h.sub k h6
   ·obtain rfl:k=i:=by simpa using h6
    exact .inl hd
  ·rw[VZ]at VD;exact(Bool.or_eq_false_iff.1 VD).1
  ·have XZ:∀k,L2 k=true->k ∉ done->L k=true:=fun k h1 h2=>by
    rw[VZ]at h1;rcases Bool.or_eq_true_iff.1 h1 with h6|h6
    ·exact h6
    ·obtain rfl:k=i:=by simpa using h6
     exact(h2 hd).elim
   obtain⟨a,b⟩:=hh k (XZ k Ue TY) TY;exact⟨a,fun j Xn Wf=>b j (XZ j Xn Wf) Wf⟩
 ·-- the next effect
  have T5:i∈rest:=(Ak h.ord i Vh).resolve_left hd;obtain⟨e,U3,rfl⟩:∃e r,rest=e::r:=by cases rest with|nil=>simp at T5|cons e r=>exact⟨e,r,rfl⟩
  obtain⟨W9,hLe⟩:=hs e U3 rfl;obtain⟨hp,UK,VF,h4,h5⟩:=tZ h.ord;have Uj:=uE h.dP O' (i+1) i jB _ ho UY;obtain rfl:i=e:=by
   rcases List.mem_cons.1 T5 with h|hr
   ·exact h
   ·rcases(h4 W9).1 i hr with h6|h6
    ·have:=Uj e h6;rw[hLe]at this;cases this
    ·rcases hnE with h7|h7|⟨r,h7⟩
     ·exact(hd h7).elim
     ·exact(h7 h6).elim
     ·cases h7;rfl
  have X8:mem done i=false:=by rw[<-Bool.not_eq_true,lR];exact UK
  have Va:∀e∈(dJ l i).after.toList,Region.binds .any e=true->mem done e.on=true:=fun e he hb=>lR.2 (hp _ (yy ho he hb))
  have hw:=h.walk;rw[List.map_cons]at hw;obtain⟨_,hx⟩:=(DL hw).resolve_right fun⟨hx,_⟩=>by unfold kT at W9;rw[W9]at hx;cases hx
  refine(hx _ (FJ O' Tx h.kM h.dP ho X8 hi Va UY)).mono ?_;rintro G' H' ⟨WN,r,rfl,hv⟩;have Ty:∀D:TN,(∀k,D k=true->k∈done)->FL l (rs.set i r) D F l.length=FL l rs D F l.length:=fun D hD=>rn (by
   cases e:D i with
   |false=>rfl
   |true=>exact(UK (hD i e)).elim) _
  have Uw:(rs.set i r).getD i .any=r:=by simp[h.len,Vh]
  have UB:=vg (rs:=rs.set i r) (F:=F) O' Tx h.kM ho X8 Va Uw (L2:=mem (i::done)) (fun k=>by rw[show mem (i::done) k=(fun k=>mem (i::done) k) k from rfl,BU]);rw[Ty _ (fun k hk=>lR.1 hk)]at UB;have VM:=vg (rs:=rs.set i r) (F:=F) O' Tx h.dP ho hi UY Uw VZ;rw[rn hi]at VM;refine⟨i::done,U3,rs.set i r,⟨by simpa using h.len,fun k hk=>?_,WO,A0 hok Vh h.kM hp,h5,by rw[<-UB];exact hv,Hl hok hE h W9 VZ WN Uj⟩,VM,fun w0 w β hh k Ue TY=>?_⟩
  ·rw[VZ]at hk;rcases Bool.or_eq_true_iff.1 hk with h6|h6
   ·exact(h.sub k h6).imp_left (List.mem_cons_of_mem _)
   ·obtain rfl:k=i:=by simpa using h6
    simp
  ·have XZ:∀k,L2 k=true->k ∉ i::done->L k=true/\k ∉ done/\k≠i:=fun k h1 h2=>by
    rw[VZ]at h1;simp only[List.mem_cons,not_or]at h2;rcases Bool.or_eq_true_iff.1 h1 with h6|h6
    ·exact⟨h6,h2.2,h2.1⟩
    ·exact(h2.1 (by simpa using h6)).elim
   obtain⟨y1,y2,y3⟩:=XZ k Ue TY;obtain⟨⟨t,cur,b1,b2,b3,b4⟩,b⟩:=hh k y1 y2;exact⟨⟨t,cur,b1,b2,by rw[<-b3];simp[List.getElem?_set,Ne.symm y3],b4⟩,fun j Xn Wf=>b j (XZ j Xn Wf).1 (XZ j Xn Wf).2.1⟩
theorem Rb{rs:TE}(h:Inv A E P l K F L done rest rs H){o:Oper}(ho:l[i]?=some o)(hi:L i=false)(hd:i ∉ done)(Zq:i∈E)(UY:∀e∈o.after.toList,Region.binds .any e=true->L e.on=true)
  {L2:TN} (VZ:∀k,L2 k=(L k || k == i)) {w0 w:NW} {H0:Hp} {tm:TL} {β:Nat->Nat} (h1:aJ w H) (h2:bs w (FL l rs L F l.length) tm) (h3:Ext w0 H0 w H) (h4:Hid P l L done rs w0 w β) {Q:Exit->Act->World->Prop} {next:Act->World->Prop}
  (hn:∀Us w' UH β',Inv A E P l K F L2 done rest UH H->aJ w' H->bs w' (FL l UH L2 F l.length) Us->Ext w0 H0 w' H->Hid P l L2 done UH w0 w' β'->next ⟨Us,[]⟩ w'.toWorld):th P l.toArray Q o next ⟨tm,[]⟩ w.toWorld:=by
 obtain⟨O',Tx⟩:=vO hok;have Vh:=(List.getElem?_eq_some_iff.1 ho).1;obtain rfl:o=dJ l i:=by have:=(yB Vh).symm.trans ho;cases this;rfl
 obtain⟨t,zs,e1,e2,e3⟩:=yh hE.1 i Zq;obtain⟨z,B',rfl⟩:=zF (w:=w.toWorld) e2;have WO:nY l L2:=fun j o' hj VD e he hb=>by
  rw[VZ]at VD ⊢;rcases Bool.or_eq_true_iff.1 VD with h6|h6
  ·rw[h.dP j o' hj h6 e he hb];rfl
  ·obtain rfl:j=i:=by simpa using h6
   rw[ho]at hj;cases hj;rw[UY e he hb];rfl
 have Uw:(rs.set i (.raw (.pointer (some ⟨w.heap.size,0,none⟩)))).getD i .any=.raw (.pointer (some ⟨w.heap.size,0,none⟩)):=by simp[h.len,Vh]
 have UK:∀j,j≠i->∀r:AV,(rs.set i r).getD j .any=rs.getD j .any:=fun j hj r=>by simp[List.getElem?_set,Ne.symm hj]
 have Ty:∀(r:AV) (D:TN),(∀k,D k=true->k∈done)->FL l (rs.set i r) D F l.length=FL l rs D F l.length:=fun r D hD=>rn (by
  cases e:D i with
  |false=>rfl
  |true=>exact(hd (hD i e)).elim) _
 have VM:=vg (rs:=rs.set i (.raw (.pointer (some ⟨w.heap.size,0,none⟩)))) (F:=F) O' Tx h.dP ho hi UY Uw VZ;rw[rn hi]at VM;have ex:Ext w H ((w.to (w.alloc (.cells z.cells t))).ga w.heap.size) H:={
  size:=by show w.heap.size<=(w.alloc _).heap.size;simp
  free:=fun b hb hn=>⟨RowKit.Below.heap_alloc w.toWorld _ b hb,fun h=>by
   rcases h with h|h
   ·omega
   ·exact hn h⟩
  names:=fun _ _ _ _ h=>h
  os:=rfl,tape:=rfl,output:=rfl
  rest:=fun b hb hO TS=>⟨RowKit.Below.heap_alloc w.toWorld _ b hb,.inr hO,TS⟩
  base:=rfl }
 have hW:aJ ((w.to (w.alloc (.cells z.cells t))).ga w.heap.size) H:={
  rows:=fun j row hj=>by obtain⟨g1,y,g2,g3⟩:=h1.rows j row hj;refine⟨g1,y,g2,g3.ext ex fun b t' s e=>?_⟩;subst e;exact RowKit.Below.heap_alloc w.toWorld _ b (h1.lt g2)
  df:=h1.df,inj:=h1.inj,bX:=h1.bX.aZ ex.toKeep
  own:=fun j n b t' s hh=>.inr (h1.own j n b t' s hh)
  fin:=fun b hb=>by
   show b<(w.alloc _).heap.size;rcases hb with hh|hh
   ·subst hh;simp
   ·have:=h1.fin b hh;simp;omega }
 have XZ:∀k,L2 k=true->k≠i->L k=true:=fun k h1 h2=>by rw[VZ]at h1;exact(Bool.or_eq_true_iff.1 h1).resolve_right (by simpa using h2)
 unfold th;rw[if_pos (by simp[Region.wanted,e3])];refine .inl ?_;have hex:(execOp (Act.mk tm []).eval (dJ l i)).run P w.toWorld=.ok (.value (.pointer (some ⟨w.heap.size,0,none⟩))) (w.alloc (.cells z.cells t)):=by
  have:∀(o:Oper),o.op=.alloc t->(execOp (Act.mk tm []).eval o).run P w.toWorld=.ok (.value (.pointer (some ⟨w.heap.size,0,none⟩))) (w.alloc (.cells z.cells t)):=fun o ho=>by obtain⟨dst,op,ty,pos,after,guard⟩:=o;simp only at ho;subst ho;simp only[execOp,Sem.run_bind,Instr.alloc,B',Result.andThen_ok,newVar,newRow];simp
  exact this _ e1
 simp only[Oper.wp,hex,Oper.upon];rw[Act.put_eq];refine hn _ ((w.to (w.alloc (.cells z.cells t))).ga w.heap.size) (rs.set i (.raw (.pointer (some ⟨w.heap.size,0,none⟩)))) (fun k=>if k=i then w.heap.size else β k) ⟨by simpa using h.len,fun k hk=>?_,WO,h.kM,h.ord,by rw[Ty _ _ (fun k hk=>lR.1 hk)];exact h.walk,fun j hj VD=>?_⟩ hW ?_ (h3.trans ex) ?_
 ·rw[VZ]at hk;rcases Bool.or_eq_true_iff.1 hk with h6|h6
  ·exact h.sub k h6
  ·obtain rfl:k=i:=by simpa using h6
   exact .inr Zq
 ·rw[VZ]at VD;obtain⟨w1,w2,D,w3,w4,w5,w6,w7,w8,w9⟩:=h.wait j hj (Bool.or_eq_false_iff.1 VD).1;have Vz:j≠i:=fun e=>hd (e ▸ hj)
  exact⟨w1,w2,D,w3,w4,w5,w6,by rw[Ty _ _ w5,UK j Vz];exact w7,fun hd H'=>by rw[Ty _ _ w5,UK j Vz];exact w8 hd H',fun hd H' T3=>by rw[Ty _ _ w5,UK j Vz];exact w9 hd H' T3⟩
 ·rw[<-VM];exact(h2.ext ex).put _ (.raw _) []
 ·intro k Ue TY;by_cases Vl:k=i
  ·subst Vl;refine⟨⟨t,z.cells,e1,e2,by simp only[if_true];exact Uw,by simp only[if_true];exact heap_alloc_new w.toWorld _,by simp only[if_true];exact .inl rfl,by simp only[if_true];exact h3.size,by simp only[if_true];show w.heap.size<(w.alloc _).heap.size;simp,fun j m t' s hh=>?_⟩,fun j Xn Wf e=>?_⟩
   ·simp only[if_true]at hh;have hh:w.nm j m=some (.at w.heap.size t' s):=hh;have:=h1.lt hh;omega
   ·by_cases YZ:j=k
    ·exact YZ.symm
    ·exfalso;obtain⟨⟨_,_,_,_,_,_,_,_,b7,_⟩,_⟩:=h4 j (XZ j Xn YZ) Wf;simp only[if_true,if_neg YZ]at e;omega
  ·obtain⟨⟨t',cur,b1,b2,b3,b4,b5,b6,b7,b8⟩,b9⟩:=h4 k (XZ k Ue Vl) TY;simp only[if_neg Vl];refine⟨⟨t',cur,b1,b2,by rw[UK k Vl];exact b3,(RowKit.Below.heap_alloc w.toWorld _ _ b7).trans b4,.inr b5,b6,Nat.lt_of_lt_of_le b7 ex.size,b8⟩,fun j Xn Wf e=>?_⟩;by_cases Vz:j=i
   ·subst Vz;simp only[if_true]at e;omega
   ·simp only[if_neg Vz]at e;exact b9 j (XZ j Xn Vz) Wf e
theorem O2{Q:Exit->TA}(hQ:∀F H,K F H->Q .normal F H){H0:Hp}(w0:NW) :
  ∀(fuel:Nat) (listed:Array Bool),listed.size=l.length->(List.range l.length).countP (fun i=>!listed.getD i false)=fuel->
   ∀H done rest rs (w:NW) tm β,Inv A E P l K F (fun i=>listed.getD i false) done rest rs H->(∀i r,rest=i::r->kT A l i=true/\listed.getD i false=false)->
    aJ w H->bs w (FL l rs (fun i=>listed.getD i false) F l.length) tm->Ext w0 H0 w H->Hid P l (fun i=>listed.getD i false) done rs w0 w β->wpAny P .any l.toArray (gS Q w0 H0) fuel listed ⟨tm,[]⟩ w.toWorld:=by
 obtain⟨O',Tx⟩:=vO hok;have fin:∀(listed:Array Bool) H done rest rs,Inv A E P l K F (fun i=>listed.getD i false) done rest rs H->(∀i r,rest=i::r->kT A l i=true/\listed.getD i false=false)->(∀i,i<l.length->listed.getD i false=true)->∀(w:NW) tm,aJ w H->bs w (FL l rs (fun i=>listed.getD i false) F l.length) tm->Ext w0 H0 w H->gS Q w0 H0 .normal ⟨tm,[]⟩ w.toWorld:=by
  intro listed H done rest rs h hs T7 w tm h1 h2 h3;obtain rfl:rest=[]:=by
   cases rest with
   |nil=>rfl
   |cons i r=> obtain⟨_,ZN,Vh,_⟩:=tZ h.ord;have h6:=(hs i r rfl).2;rw[T7 i Vh]at h6;cases h6
  have e:FL l rs (fun i=>listed.getD i false) F l.length=FL l rs (mem done) F l.length:=by
   have gen:∀m,m<=l.length->FL l rs (fun i=>listed.getD i false) F m=FL l rs (mem done) F m:=by
    intro m;induction m with
    |zero=>intro _;rfl
    |succ m ih=> intro hm;have h4:=T7 m jB;have h5:mem done m=true:=lR.2 ((Ak h.ord m jB).resolve_right jE);rw[FL,FL,ih jB,h4,h5]
   exact gen _ jl
  rw[e]at h2;exact⟨tm,_,H,w,rfl,rfl,hQ _ _ h.walk,h1,h2,h3.pG⟩
 intro fuel;induction fuel with
 |zero=>
  intro listed TU Xz H done rest rs w tm β h hs h1 h2 h3 _;have T7:∀i,i<l.length->listed.getD i false=true:=fun i hi=>by have:=(List.countP_eq_zero.1 Xz) i (List.mem_range.2 hi);simpa using this
  refine⟨?_,fin listed H done rest rs h hs T7 w tm h1 h2 h3⟩;rw[List.eq_nil_iff_forall_not_mem];intro j hj;obtain⟨YV,o,ho,_⟩:=mem_ready.1 hj;have XA:j<l.length:=by have:=(Array.getElem?_eq_some_iff.1 ho).1;simpa using this
  have:=T7 j XA;simp[TU,XA]at this YV;rw[this]at YV;cases YV
 |succ fuel ih=>
  intro listed TU Xz H done rest rs w tm β h hs h1 h2 h3 X9;refine⟨fun YW=>?_,fun i hi=>?_⟩
  ·exfalso;have hex:∃i,i<l.length/\listed.getD i false=false:=by
    have U2:0<(List.range l.length).countP (fun i=>!listed.getD i false):=jB;obtain⟨i,hi,hp⟩:=List.countP_pos_iff.1 U2;exact⟨i,List.mem_range.1 hi,by simpa using hp⟩
   obtain⟨i,⟨hi,hf⟩,Wx⟩:=exists_least hex;have ho:l[i]?=some l[i]:=List.getElem?_eq_getElem hi;have:i∈Region.ready .any l.toArray listed:=mem_ready.2 ⟨by simp[TU,hi]at hf ⊢;exact hf,l[i],by simp[hi],fun e he hb=>by
    have h4:=O' i _ ho e (by simpa using he) hb;cases hv:listed.getD e.on false with
    |true=>rfl
    |false=>have:=Wx e.on ⟨jB,hv⟩;omega⟩
   rw[YW]at this;cases this
  ·obtain⟨VY,o,ho,UY⟩:=mem_ready.1 hi;have VQ:l[i]?=some o:=by simpa using ho
   have Vh:=(List.getElem?_eq_some_iff.1 VQ).1;have W8:listed.getD i false=false:=by simp[TU,Vh]at VY ⊢;exact VY
   have Va:∀e∈o.after.toList,Region.binds .any e=true->listed.getD e.on false=true:=fun e he hb=>UY e (by simpa using he) hb
   have VR:∀k,(listed.setIfInBounds i true).getD k false=(listed.getD k false || k == i):=fun k=>by
    by_cases hk:k=i
    ·subst hk;simp[TU,Vh]
    ·simp[Array.getElem?_setIfInBounds_ne (Ne.symm hk),hk]
   have ZP:(List.range l.length).countP (fun k=>!(listed.setIfInBounds i true).getD k false)=fuel:=by
    have:∀(n:Nat),i<n->(List.range n).countP (fun k=>!(listed.setIfInBounds i true).getD k false)+1=(List.range n).countP (fun k=>!listed.getD k false):=by
     intro n;induction n with
     |zero=>intro h;omega
     |succ n ihn=>
      intro h;rw[List.range_succ,List.countP_append,List.countP_append];by_cases hn:n=i
      ·subst hn;have:(List.range n).countP (fun k=>!(listed.setIfInBounds n true).getD k false)=(List.range n).countP (fun k=>!listed.getD k false):=by
        refine List.countP_congr fun k hk=>?_
        rw[VR];have:k≠n:=by have:=List.mem_range.1 hk;omega
        simp[this]
       rw[this];simp only[List.countP_singleton,VR,W8];simp
      ·rw[<-ihn jB];simp only[List.countP_singleton,VR];have:(n == i)=false:=by simpa using hn
       rw[this,Bool.or_false];omega
    have:=this l.length Vh;omega
   have go:∀{d' r' UH H'} {w':NW} {Us} {β'},Inv A E P l K F (fun k=>(listed.setIfInBounds i true).getD k false) d' r' UH H'->aJ w' H'->bs w' (FL l UH (fun k=>(listed.setIfInBounds i true).getD k false) F l.length) Us->Ext w0 H0 w' H'->Hid P l (fun k=>(listed.setIfInBounds i true).getD k false) d' UH w0 w' β'->
     wpAny P .any l.toArray (gS Q w0 H0) fuel (listed.setIfInBounds i true) ⟨Us,[]⟩ w'.toWorld:=fun{d' r' UH H' w' Us β'} k1 k2 k3 k4 k5=>by
    obtain⟨d2,r2,rs2,H2,w2,x1,x2,x3,x4,x5,x6,x7⟩:=Gi hok hE r'.length jl k1 k2 k3 k4 k5;rw[<-x1];exact ih (listed.setIfInBounds i true) (by simpa using TU) ZP H2 d2 r2 rs2 w2 Us β' x2 x3 x4 x5 x6 x7
   unfold wpOp;rw[ho];by_cases Wz:i ∉ done/\i∈E/\¬ ∃r,rest=i::r
   ·have:=Rb hok hE h VQ W8 Wz.1 Wz.2.1 Va (L2:=fun k=>(listed.setIfInBounds i true).getD k false) VR h1 h2 h3 X9 (Q:=gS Q w0 H0) (next:=wpAny P .any l.toArray (gS Q w0 H0) fuel (listed.setIfInBounds i true)) fun Us w' UH β' k1 k2 k3 k4 k5=>go k1 k2 k3 k4 k5
    exact this
   ·have hnE:i∈done\/i ∉ E\/∃r,rest=i::r:=by
     by_cases a:i∈done
     ·exact .inl a
     ·by_cases b:i∈E
      ·exact .inr (.inr (Classical.byContradiction fun c=>Wz ⟨a,b,c⟩))
      ·exact .inr (.inl b)
    have VL:=OZ hok hE h hs VQ W8 Va (L2:=fun k=>(listed.setIfInBounds i true).getD k false) VR hnE;have:=VL w tm (gS Q w0 H0) (wpAny P .any l.toArray (gS Q w0 H0) fuel (listed.setIfInBounds i true)) h1 h2 (by rintro Us w' F' H' ⟨d',r',UH,k1,rfl,k2⟩ g1 g2 g3;exact go k1 g1 g2 (h3.trans g3) (k2 _ _ _ (X9.ext g3)))
    exact this
end
def CH(A:AS)(E:TH){id:Nat}(ord:TH){Q:Exit->TA}(hm:P.follows .mixedOrders=true)(hok:pQ A E l ord=true)(hE:ru P l E)(h:fF A P l.toArray (Q .normal) (ord.map (dJ l)) F H):dF P (.region id l.toArray true) Q F H:=fun w tm h1 h2=>by
 simp only[pQ,Bool.and_eq_true,List.all_eq_true,Bool.not_eq_true']at hok;obtain⟨⟨XC,ham⟩,hqE⟩:=hok;have hE:BZ A P l E:=⟨hE,hqE⟩;have hz:∀i,(Array.replicate l.toArray.size false).getD i false=false:=fun i=>by by_cases hi:i<l.length<;>simp[Array.getElem?_replicate,hi]
 refine wp_region_any hm ?_;have e0:∀(rs:TE) (L:TN),(∀i,L i=false)->FL l rs L F l.length=F:=fun rs L hL=>by
  have gen:∀m,FL l rs L F m=F:=by
   intro m;induction m with
   |zero=>rfl
   |succ m ih=>rw[FL,hL,if_neg jE,ih]
  exact gen _
 have hinv:Inv A E P l (Q .normal) F (fun i=>(Array.replicate l.toArray.size false).getD i false) [] ord (List.replicate l.length .any) H:=
  ⟨jE,(fun i hi=>by have:=(hz i).symm.trans hi;cases this),(fun j o _ hj=>by have:=(hz j).symm.trans hj;cases this),(fun j o _ hj=>by simp[mem]at hj),ham,
   (by rw[e0 _ _ (fun i=>by simp[mem])];exact h),(fun i hi=>by simp at hi)⟩
 obtain⟨d',r',UH,k1,k2,k3,_⟩:=Cs XC hE ord hinv;refine O2 XC hE (fun _ _ h=>h) w l.toArray.size (Array.replicate l.toArray.size false) jE (by rw[List.countP_eq_length.2 (fun i _=>by rw[hz];rfl)];simp) H d' r' UH (w.to w.drew) tm (fun _=>0) k1 (fun i r e=>⟨k2 i r e,hz i⟩) h1.drew (by rw[e0 _ _ hz];exact h2.ext (Ext.drew w H)) (Ext.drew w H) (fun i hi _=>by have:=(hz i).symm.trans hi;cases this)
end
variable{P:TO}{H:Hp}{id:Nat}{F:TE}{Q:Exit->TA}
def Jb(A:AS){l:List Oper}(ord:TH)(hm:P.follows .mixedOrders=true)(hok:pQ A [] l ord=true)(h:fF A P l.toArray (Q .normal) (ord.map (dJ l)) F H):dF P (.region id l.toArray true) Q F H:=CH A [] ord hm hok trivial h
def NV{l:List Oper}(ord:TH)(hm:P.follows .mixedOrders=true)(hok:pQ ([],[],[]) [] l ord=true)(h:fF ([],[],[]) P l.toArray (Q .normal) (ord.map (dJ l)) F H):dF P (.region id l.toArray true) Q F H:=Jb ([],[],[]) ord hm hok h
section
variable {P:TO}{ev:TK}{H:Hp}{ty:TJ}{K:TB}
@[go_sem] def j6l:(∀(x:Operand),fD P ev H ty K (.move x)=vc P ev H ty K (.move x))/\(∀(x:Operand),fD P ev H ty K (.assign x)=vc P ev H ty K (.assign x))/\(∀(c a b:Operand),fD P ev H ty K (.pick c a b)=vc P ev H ty K (.pick c a b))/\(∀(x:Operand),fD P ev H ty K (.nilCheck x)=vc P ev H ty K (.nilCheck x))/\(∀(op:UnOp) (t:TJ) (x:Operand),fD P ev H ty K (.unOp op t x)=vc P ev H ty K (.unOp op t x))/\(∀(t:TJ) (x:Operand),fD P ev H ty K (.load t x)=vc P ev H ty K (.load t x))/\(∀(t:TJ) (x:Operand) (f:Nat),fD P ev H ty K (.fieldAddr t x f)=vc P ev H ty K (.fieldAddr t x f))/\(∀(t:TJ) (x:Operand) (f:Nat),fD P ev H ty K (.field t x f)=vc P ev H ty K (.field t x f))/\(∀(t:TJ) (x i:Operand),fD P ev H ty K (.indexAddr t x i)=vc P ev H ty K (.indexAddr t x i))/\(∀(t:TJ) (x i:Operand),fD P ev H ty K (.index t x i)=vc P ev H ty K (.index t x i))/\(∀(x:Operand) (i:Nat),fD P ev H ty K (.extract x i)=vc P ev H ty K (.extract x i))/\(∀(t:TJ) (a:Operand) (lo hi mx:Option Operand),fD P ev H ty K (.slice t a lo hi mx)=vc P ev H ty K (.slice t a lo hi mx))/\(∀(fn:Fn) (a b:Array Operand),fD P ev H ty K (.makeFunc fn a b)=vc P ev H ty K (.makeFunc fn a b))/\(∀(t:TJ) (ps:Array (Nat×Operand)),fD P ev H ty K (.build t ps)=vc P ev H ty K (.build t ps))/\(∀(as:Array Operand) (ts:Array TJ),fD P ev H ty K (.call ⟨.builtin .len,as,ts⟩)=vc P ev H ty K (.call ⟨.builtin .len,as,ts⟩))/\(∀(as:Array Operand) (ts:Array TJ),fD P ev H ty K (.call ⟨.builtin .min,as,ts⟩)=vc P ev H ty K (.call ⟨.builtin .min,as,ts⟩)):=by and_intros<;>(intros;rfl)
@[go_sem] def j7S:(∀(t:TJ) (x y:Operand) (t':TJ),fD P ev H ty K (.binOp .add t x y t')=vc P ev H ty K (.binOp .add t x y t'))/\(∀(t:TJ) (x y:Operand) (t':TJ),fD P ev H ty K (.binOp .sub t x y t')=vc P ev H ty K (.binOp .sub t x y t'))/\(∀(t:TJ) (x y:Operand) (t':TJ),fD P ev H ty K (.binOp .lss t x y t')=vc P ev H ty K (.binOp .lss t x y t'))/\(∀(t:TJ) (x y:Operand) (t':TJ),fD P ev H ty K (.binOp .gtr t x y t')=vc P ev H ty K (.binOp .gtr t x y t'))/\(∀(t:TJ) (x y:Operand) (t':TJ),fD P ev H ty K (.binOp .geq t x y t')=vc P ev H ty K (.binOp .geq t x y t')):=by and_intros<;>(intros;rfl)
@[go_sem] def j7U(t:TJ)(x y:Operand)(t':TJ):fD P ev H ty K (.binOp .eql t x y t')=((fC P .eql t (ev x) (ev y)).1/\K (fC P .eql t (ev x) (ev y)).2 H):=by simp[fD,oK,vq]
@[go_sem] def j70(t:TJ)(x y:Operand)(t':TJ):fD P ev H ty K (.binOp .neq t x y t')=((fC P .neq t (ev x) (ev y)).1/\K (fC P .neq t (ev x) (ev y)).2 H):=by simp[fD,oK,vq]
@[go_sem] def j7T:(∀(t:TJ) (x:Operand),fD P ev H ty K (.box t x)=vc P ev H ty K (.box t x))/\(∀(t:TJ),fD P ev H ty K (.alloc t)=vc P ev H ty K (.alloc t))/\(∀(t:TJ) (a x:Operand),fD P ev H ty K (.store t a x)=vc P ev H ty K (.store t a x))/\(∀(t:TJ) (n:Nat) (ps:Array (Nat×Operand)),fD P ev H ty K (.buildSlice t n ps)=o9 P t n (ps.toList.map fun p=>(p.1,ev p.2)) fun r=>K r H)/\(∀(f:Operand) (as:Array Operand) (ts:Array TJ),fD P ev H ty K (.call ⟨.value f,as,ts⟩)=vc P ev H ty K (.call ⟨.value f,as,ts⟩))/\(∀(f:Operand) (m:String) (as:Array Operand) (ts:Array TJ),fD P ev H ty K (.call ⟨.invoke f m,as,ts⟩)=vc P ev H ty K (.call ⟨.invoke f m,as,ts⟩))/\(∀(t:TJ) (a x:Operand),fD P ev H ty K (.call ⟨.builtin .append,#[a,x],#[t,t]⟩)=vc P ev H ty K (.call ⟨.builtin .append,#[a,x],#[t,t]⟩))/\(∀(as:Array Operand) (ts:Array TJ),fD P ev H ty K (.call ⟨.builtin .copy,as,ts⟩)=vc P ev H ty K (.call ⟨.builtin .copy,as,ts⟩)):=by and_intros<;>(intros;rfl)
end
variable{C D:TH}
@[go_sem] def j54{ev:TK}(op:Op):iX ([],C,D) ev op=true:=by cases op<;>first|rfl|(rename_i t x;simp only[iX];generalize ev x=a;cases a<;>first|rfl|simp[sP])
variable{A:AS}
@[go_sem] def j3y{ev:TK}(t:TJ)(x:Operand):iX A ev (.load t x)=sP A (ev x):=(rfl)
@[go_sem] def j1t{ev:TK}(t:TJ)(a x:Operand):iX A ev (.store t a x)=((A.1.isEmpty || A.2.2.contains 1000000) || C8 A (ev a)):=(rfl)
@[go_sem] def j1Y(A:AS)(i m k j:Nat):sP A (.pt i m k j)=(!A.1.contains i && (decide (1<=j) || !A.1.contains (i+16))):=(rfl)
@[go_sem] def j1X:(∀(A:AS) (cs:TE),sP A (.ip cs)=true)/\(∀(A:AS) (i m k j:Nat),C8 A (.pt i m k j)=A.1.contains i)/\(∀{A:AS} {ev:TK} (x:Operand),iX A ev (.move x)=true)/\(∀{A:AS} {ev:TK} (x:Operand),iX A ev (.assign x)=true)/\(∀{A:AS} {ev:TK} (c a b:Operand),iX A ev (.pick c a b)=true)/\(∀{A:AS} {ev:TK} (x:Operand),iX A ev (.nilCheck x)=true)/\(∀{A:AS} {ev:TK} (op:UnOp) (t:TJ) (x:Operand),iX A ev (.unOp op t x)=true)/\(∀{A:AS} {ev:TK} (op:BinOp) (t:TJ) (x y:Operand) (t':TJ),iX A ev (.binOp op t x y t')=true)/\(∀{A:AS} {ev:TK} (t:TJ) (x:Operand) (f:Nat),iX A ev (.fieldAddr t x f)=true)/\(∀{A:AS} {ev:TK} (t:TJ) (x:Operand) (f:Nat),iX A ev (.field t x f)=true)/\(∀{A:AS} {ev:TK} (t:TJ) (x i:Operand),iX A ev (.indexAddr t x i)=true)/\(∀{A:AS} {ev:TK} (t:TJ) (x i:Operand),iX A ev (.index t x i)=true)/\(∀{A:AS} {ev:TK} (x:Operand) (i:Nat),iX A ev (.extract x i)=true)/\(∀{A:AS} {ev:TK} (t:TJ) (ps:Array (Nat×Operand)),iX A ev (.build t ps)=true)/\(∀{A:AS} {ev:TK} (c:Call),iX A ev (.call c)=true)/\(∀{A:AS} {ev:TK} (t:TJ),iX A ev (.alloc t)=true):=by and_intros<;>(intros;rfl)
@[go_sem] def j53:(∀{A:AS} {ev:TK} (t:TJ) (x:Operand),iX A ev (.box t x)=true)/\(∀{A:AS} {ev:TK} (t:TJ) (n:Nat) (ps:Array (Nat×Operand)),iX A ev (.buildSlice t n ps)=true)/\(∀{A:AS} {P:TO} {ops:Array Oper} {K:TA} (F:TE) (H:Hp),fF A P ops K [] F H=K F H):=by and_intros<;>(intros;rfl)
variable{L:TH}{ops:Array Oper}{K:TA}
@[go_sem] def j4C(dst:Option Tmp)(op:Op)(ty:TJ)(pos:String)(after:Array Edge)(rest:List Oper)(F:TE)(H:Hp) :
  fF (L,[],[]) P ops K (⟨dst,op,ty,pos,after,none⟩::rest) F H=(iX (L,[],[]) (cn F) op=true/\fD P (cn F) H ty (AP (fun r H'=>fF (L,[],[]) P ops K rest (cL F dst r) H') .mk) op):=by
 have e:tX (L,[],[]) ⟨dst,op,ty,pos,after,none⟩=false:=by cases dst<;>rfl
 have e':oN (L,[],[]) ⟨dst,op,ty,pos,after,none⟩=false:=by cases dst<;>rfl
 unfold fF;rw[show(⟨dst,op,ty,pos,after,none⟩:Oper).guard=none from rfl];simp only[e,e'];rfl
@[go_sem] def j1M(op:Op)(ty:TJ)(pos:String)(after:Array Edge)(rest:List Oper)(F:TE)(H:Hp) :
  fF (L,C,D) P ops K (⟨none,op,ty,pos,after,none⟩::rest) F H=(iX (L,C,D) (cn F) op=true/\fD P (cn F) H ty (AP (fun r H'=>fF (L,C,D) P ops K rest (cL F none r) H') .mk) op):=(rfl)
variable{t:Nat}
@[go_sem] def j1K{c:Nat}(op:Op)(ty:TJ)(pos:String)(after:Array Edge)(rest:List Oper)(F:TE)(H:Hp) :
  fF (L,c::C,D) P ops K (⟨some t,op,ty,pos,after,none⟩::rest) F H=oV ((c::C).contains t) (Bk P (cn F) H (vM (fun r=>fF (L,c::C,D) P ops K rest (cL F (some t) r) H) .mk) op)
   (oV (D.contains t) (tE P (L,c::C,D) (cn F) H (AP (fun r H'=>fF (L,c::C,D) P ops K rest (cL F (some t) r) H') .mk) op) (iX (L,c::C,D) (cn F) op=true/\fD P (cn F) H ty (AP (fun r H'=>fF (L,c::C,D) P ops K rest (cL F (some t) r) H') .mk) op) .mk .mk) .mk .mk:=(rfl)
@[go_sem] def j1L{c:Nat}(op:Op)(ty:TJ)(pos:String)(after:Array Edge)(rest:List Oper)(F:TE)(H:Hp) :
  fF (L,[],c::D) P ops K (⟨some t,op,ty,pos,after,none⟩::rest) F H=oV ((c::D).contains t) (tE P (L,[],c::D) (cn F) H (AP (fun r H'=>fF (L,[],c::D) P ops K rest (cL F (some t) r) H') .mk) op)
   (iX (L,[],c::D) (cn F) op=true/\fD P (cn F) H ty (AP (fun r H'=>fF (L,[],c::D) P ops K rest (cL F (some t) r) H') .mk) op) .mk .mk:=(rfl)
@[go_sem] def j6o:(∀{P:TO} {A:AS} {ev:TK} {H:Hp} {K:TB} (f:Operand) (as:Array Operand) (ts:Array TJ),tE P A ev H K (.call ⟨.value f,as,ts⟩)=fa P (ev f) (as.toList.map ev) H (AP (fun r H'=>eJ A H H'/\K r H') .mk))/\(∀{P:TO} {ev:TK} {H:Hp} {K:AV->Prop} (f:Operand) (as:Array Operand) (ts:Array TJ),Bk P ev H K (.call ⟨.value f,as,ts⟩)=∃r,(fa P (ev f) (as.toList.map ev) H fun r' H'=>r'=r/\H'=H)/\K r):=by and_intros<;>(intros;rfl)
def rD(b:Bool)(X Y:Prop)(_:im X)(_:im Y):Prop:=(b=true->X)/\(b=false->Y)
@[go_sem] def j6g(X Y:Prop)(d:im X)(e:im Y):rD true X Y d e=X:=by unfold rD;simp
@[go_sem] def j4n(X Y:Prop)(d:im X)(e:im Y):rD false X Y d e=Y:=by unfold rD;simp
@[go_sem] def j1N(dst:Option Tmp)(op:Op)(ty:TJ)(pos:String)(after:Array Edge)(j:Nat)(want:Bool)(rest:List Oper)(F:TE)(H:Hp) :
  fF (L,C,[]) P ops K (⟨dst,op,ty,pos,after,some (j,want)⟩::rest) F H=qO (lS ops F j want) (fun b=>(iY op || iH op)=true/\eK P F H b (vM (fun r=>fF (L,C,[]) P ops K rest (cL F dst r) H) .mk) op) .mk:=by
 have e:oM (L,C,[]) ⟨dst,op,ty,pos,after,some (j,want)⟩=false:=by unfold oM oN;cases dst<;>simp
 unfold qO;conv=>lhs;unfold fF
 simp only[e];rfl
def qn(F:TE):List Operand->Prop
 |[]=>True
 |x::l=>(jh (cn F x)).1=true/\qn F l
theorem Dr(F:TE):∀l:List Operand,((l.all fun x=>(jh (cn F x)).1)=true)=qn F l
 |[]=>by simp[qn]
 |x::l=>by have:=Dr F l;simp only[List.all_cons,Bool.and_eq_true,qn,this]
def F4(F:TE)(f:Operand)(as:Array Operand)(ts:Array TJ):(gp F (.call ⟨.value f,as,ts⟩)=true)=((jh (cn F f)).1=true/\qn F as.toList):=by rw[<-Dr];unfold gp;simp[Op.operands,Call.operands]
def B5(P:TO)(A:AS)(F:TE)(H:Hp)(K:TB):Op->Prop
 |.call { callee:=.value f,args,.. }=>((jh (cn F f)).1=true/\qn F args.toList)/\fa P (bM F f) (args.toList.map (bM F)) H (AP (fun r H'=>eJ A H H'/\K r H') .mk)
 |_=>False
variable{K:TB}
@[go_sem] def j4v(f:Operand)(as:Array Operand)(ts:Array TJ):B5 P A F H K (.call ⟨.value f,as,ts⟩)=(((jh (cn F f)).1=true/\qn F as.toList)/\fa P (bM F f) (as.toList.map (bM F)) H (AP (fun r H'=>eJ A H H'/\K r H') .mk)):=(rfl)
def Ry{op:Op}(h:iY op=true):(gp F op=true/\tE P A (bM F) H K op)=B5 P A F H K op:=by
 cases op<;>first|(cases h;done)|skip
 rename_i c;obtain⟨callee,args,ts⟩:=c;cases callee<;>first|(cases h;done)|skip
 rename_i f;rw[F4];rfl
@[go_sem] def j0F{c:Nat}{K:TA}(op:Op)(ty:TJ)(pos:String)(after:Array Edge)(j:Nat)(want:Bool)(rest:List Oper)(F:TE)(H:Hp) :
  fF (L,C,c::D) P ops K (⟨some t,op,ty,pos,after,some (j,want)⟩::rest) F H=qO (lS ops F j want) (fun b=>oV ((c::D).contains t && iY op)
   (rD b (B5 P (L,C,c::D) F H (AP (fun r H'=>fF (L,C,c::D) P ops K rest (cL F (some t) r) H') .mk) op) (fF (L,C,c::D) P ops K rest (cL F (some t) (.gd false (.raw (.bool false)))) H) .mk .mk)
   ((iY op || iH op)=true/\eK P F H b (vM (fun r=>fF (L,C,c::D) P ops K rest (cL F (some t) r) H) .mk) op) .mk .mk) .mk:=by
 conv=>lhs;unfold fF
 simp only;unfold qO oV rD;have XB:oM (L,C,c::D) ⟨some t,op,ty,pos,after,some (j,want)⟩=((c::D).contains t && iY op):=by unfold oM oN;simp
 cases lS ops F j want with
 |none=>rfl
 |some b=>
  simp only;rw[XB];by_cases hc:((c::D).contains t && iY op)=true
  ·rw[if_pos hc,if_pos hc];have hv:iY op=true:=by simp only[Bool.and_eq_true]at hc;exact hc.2
   rw[<-Ry hv];rfl
  ·rw[if_neg hc,if_neg hc];rfl
attribute [go_sem] qn
attribute [go_sem] dJ o9 ru
universe u
def aW:Nat->Nat->TH
 |_,0=>[]
 |k,n+1=>k::aW (k+1) n
variable{q:Prop}
def dv(e:q:=by first|(simp(disch:=first|omega|assumption|fail) only[go_sem,sH,W,↓reduceIte,Int.reduceEq,Int.reduceLE,Int.reduceLT,Int.reduceNe,Int.reduceToNat,Nat.reduceMul,Nat.reduceAdd,Nat.reduceLeDiff,Nat.reduceSub,Nat.reduceEqDiff,Nat.reduceBEq,List.nodup_cons,List.nodup_nil,List.mem_cons,List.not_mem_nil,List.mem_nil_iff];done)|(simp(disch:=first|omega|assumption|fail) only[go_sem,sH,↓reduceIte,Int.reduceEq,Int.reduceLE,Int.reduceLT,Int.reduceNe,Int.reduceToNat,Nat.reduceMul,Nat.reduceAdd,Nat.reduceLeDiff,Nat.reduceSub,Nat.reduceEqDiff,Nat.reduceBEq,List.nodup_cons,List.nodup_nil,List.mem_cons,List.not_mem_nil,List.mem_nil_iff];done)|fail):q:=e
def fm(e:q:=by first|(simp(disch:=first|omega|assumption|fail) only[go_sem,sH,W,↓reduceIte,Int.reduceEq,Int.reduceLE,Int.reduceLT,Int.reduceNe,Int.reduceToNat,Nat.reduceMul,Nat.reduceAdd,Nat.reduceLeDiff,Nat.reduceSub,Nat.reduceEqDiff,Nat.reduceBEq,List.nodup_cons,List.nodup_nil,List.mem_cons,List.not_mem_nil,List.mem_nil_iff];rfl)|(simp(disch:=first|omega|assumption|fail) only[go_sem,sH,↓reduceIte,Int.reduceEq,Int.reduceLE,Int.reduceLT,Int.reduceNe,Int.reduceToNat,Nat.reduceMul,Nat.reduceAdd,Nat.reduceLeDiff,Nat.reduceSub,Nat.reduceEqDiff,Nat.reduceBEq,List.nodup_cons,List.nodup_nil,List.mem_cons,List.not_mem_nil,List.mem_nil_iff];rfl)|rfl|fail):q:=e
def OT(e:q:=by first|(simp(disch:=first|omega|assumption|fail) only[go_sem,sH,W,↓reduceIte,Int.reduceEq,Int.reduceLE,Int.reduceLT,Int.reduceNe,Int.reduceToNat,Nat.reduceMul,Nat.reduceAdd,Nat.reduceLeDiff,Nat.reduceSub,Nat.reduceEqDiff,Nat.reduceBEq,List.nodup_cons,List.nodup_nil,List.mem_cons,List.not_mem_nil,List.mem_nil_iff];rfl)|(simp(disch:=first|omega|assumption|fail) only[go_sem,sH,↓reduceIte,Int.reduceEq,Int.reduceLE,Int.reduceLT,Int.reduceNe,Int.reduceToNat,Nat.reduceMul,Nat.reduceAdd,Nat.reduceLeDiff,Nat.reduceSub,Nat.reduceEqDiff,Nat.reduceBEq,List.nodup_cons,List.nodup_nil,List.mem_cons,List.not_mem_nil,List.mem_nil_iff];rfl)|fail):q:=e
def Cq(e:q:=by first|(exact uc)|rfl|fail):q:=e
variable{α:Type}
@[go_sem] def jxa[Inhabited α](f:α->TE)(a:List α)(b:TC)(k:Nat)(h:k<a.length):(a.map f++b).getD k []=f (nth a k):=by rw[fP h,List.getD_eq_getElem?_getD,List.getElem?_append_left (by simpa using h)];simp[h]
attribute [go_sem] List.isEmpty_nil
@[congr] theorem j13{c:Code}{F':TE}{H':Hp}(h1:F=F')(h2:H=H'):dF P c Q F H=dF P c Q F' H':=by rw[h1,h2]
def nw(p q:Prop):Prop:=q->p
section
variable {P:TO}{Q:Exit->TA}{F:TE}{H:Hp}
variable{id:Nat}{q:Prop}
def K8{l:List Oper}(e:k7 P l.toArray (Q .normal) l F H=q):nw (dF P (.region id l.toArray false) Q F H) q:=fun h=>Qj (e ▸ h)
def Kh{c:Code}:nw (dF P (.block id c) Q F H) (dF P c (sL id Q) F H):=OS
def Sa(e:Q .normal F H=q):nw (dF P .skip Q F H) q:=fun h=>Qb (e ▸ h)
def LX(e:Q (.exit id) F H=q):nw (dF P (.exit id) Q F H) q:=fun h=>NR (e ▸ h)
def KH(e:Q .ret F H=q):nw (dF P .ret Q F H) q:=fun h=>Ro (e ▸ h)
end
section
variable {P:TO}{H:Hp}{K:TB}
variable{t:TJ}{q:Prop}
def J0{zs:TM}(hz:dN P t=some zs)(e:K (.pt (nx H.l) 0 0 0) (H.put (nx H.l) (.var t (zs.map .raw)))=q):nw (nM P H t K) q:=fun h=>Oo hz (e ▸ h)
def R7{x:AV}(ho:cI x.cells=true)(e:K (.pt (nx H.l) 0 0 0) (H.put (nx H.l) (.var t x.cells))=q):nw (ry H t x K) q:=fun h=>Q4 ho (e ▸ h)
def JF{A:Nat->Prop}{d:im A}(e:A (nx H.l)=q):nw (u5 H A d) q:=fun h=>Kz (e ▸ h)
def Rg{sz:Nat}(h0:0<sz)(e:K (.rs (nx H.l) 0 sz 0) (H.put (nx H.l) (.aG t sz []))=q):nw (sO t sz [] H K) q:=fun h=>QS h0 (e ▸ h)
def Lf{sz:Nat}{css:TC}(h1:aX eo css.flatten=true)(e:K (.sl true sz css []) H=q):nw (sO t sz css H K) q:=fun h=>KW h1 (e ▸ h)
def Ph{a x:AV}(e:yl P t a x H K=q):nw (qx P t t a x H K) q:=fun h=>PQ (e ▸ h)
def MO{d:im K}{r:AV}(e:K r H=q):nw (AP K d r H) q:=fun h=>Sn (e ▸ h)
def Oi{a b:Prop}(h:a):nw (a/\b) b:=fun k=>⟨h,k⟩
end
variable{p:Prop}
def ap(h:q)(e:nw p q:=by first
 |((with_reducible apply K8);exact fm)
 |with_reducible exact Kh
 |((with_reducible apply LX);exact Cq)
 |((with_reducible apply KH);exact Cq)
 |((with_reducible apply Sa);exact Cq)
 |fail):p:=e h
def ar(h:q)(e:nw p q:=by first
 |((with_reducible apply Ph);exact fm)
 |((with_reducible apply MO);exact fm)
 |((with_reducible apply Rg);(focus (exact dv));exact fm)
 |((with_reducible apply Lf);(focus (simp only[go_sem]));exact fm)
 |((with_reducible apply J0);(focus (simp only[go_sem];rfl));exact fm)
 |((with_reducible apply R7);(focus (simp only[go_sem]));exact fm)
 |((with_reducible apply JF);exact fm)
 |((with_reducible apply Oi);first|omega|(simp +contextual;done)|(simp +contextual;intros;omega)|fail)
 |fail):p:=e h
def S(h:q)(e:p=q:=by exact OT):p:=e ▸ h
def Sd(e:p=True:=by exact dv):p:=of_eq_true e
def ao{c:Operand}{x y:Code}{b:Bool}{pt pf:Prop}(ht:pt->dF P x Q F H)(hf:pf->dF P y Q F H)(hc:cn F c=.raw (.bool b):=by rfl)
 (et:(b=true)=pt:=by first|(simp only[Int.reduceEq,Int.reduceLE,Int.reduceLT,Int.reduceNe,false_and,and_false,true_and,and_true,or_false,false_or,true_or,or_true,Bool.false_eq_true,Bool.true_eq_false,eq_self,reduceCtorEq,Bool.not_true,Bool.not_false,Bool.and_eq_true,Bool.or_eq_true,Bool.and_eq_false_iff,Bool.or_eq_false_iff,decide_eq_true_eq,decide_eq_false_iff_not,Bool.not_eq_true',Bool.not_eq_false',Int.not_lt,Int.not_le];rfl)|rfl) (ef:(b=false)=pf:=by first|(simp only[Int.reduceEq,Int.reduceLE,Int.reduceLT,Int.reduceNe,false_and,and_false,true_and,and_true,or_false,false_or,true_or,or_true,Bool.false_eq_true,Bool.true_eq_false,eq_self,reduceCtorEq,Bool.not_true,Bool.not_false,Bool.and_eq_true,Bool.or_eq_true,Bool.and_eq_false_iff,Bool.or_eq_false_iff,decide_eq_true_eq,decide_eq_false_iff_not,Bool.not_eq_true',Bool.not_eq_false',Int.not_lt,Int.not_le];rfl)|rfl):dF P (.cond c x y) Q F H:=NG hc (fun h=>ht (et ▸ h)) (fun h=>hf (ef ▸ h))
section
variable {P:TO}{f:FuncId}{args:TE}{H:Hp}{K:TB}{q:Prop}
variable{r0:AV}
def cm{l l0:TD}(hc:ab P f args l fun r l'=>r=r0/\l'=l0)(k:q)(h1:ra l H:=by exact dv)(h0:aU P f=true:=by exact dv)(h2:aX (fun i=>(ids l).contains i) args=true:=by exact dv)(h3:rK (fun i=>(ids l).contains i) l:=by exact dv)
 (h4:oC (ids l) H l0:=by exact dv) (h5:(ids l0).Nodup:=by exact dv) (e:K r0 ⟨H.B,gx H.l l0⟩=q:=by exact fm):fa P (.raw (.func (.func f) #[] #[])) args H K:=nQ h0 (vW hc h1 h2 h3 h4 h5 (e ▸ k))
def cp(hc:aB P f args r0)(k:q)(h0:aU P f=true:=by exact dv)(h2:aX eo args=true:=by exact dv)(e:K r0 H=q:=by exact fm):fa P (.raw (.func (.func f) #[] #[])) args H K:=nQ h0 (za hc h2 (e ▸ k))
def cg{g:Prop}{R:AV->Prop}{A:Prop}(hc:aB P f args r0)(k:q)(h0:aU P f=true:=by exact dv)(h2:aX eo args=true:=by exact dv)(hA:g->A:=by first|exact id|(intro _;exact jI)|fail)(e:R r0=q:=by exact fm) :
  ∃r,(g->A/\fa P (.raw (.func (.func f) #[] #[])) args H fun r' H'=>r'=r/\H'=H)/\R r:=⟨r0,fun hg=>⟨hA hg,nQ h0 (za hc h2 ⟨rfl,rfl⟩)⟩,e ▸ k⟩
def ug{g:Prop}{R:AV->Prop}(hc:aB P f args r0)(k:q)(h0:aU P f=true:=by exact dv)(h2:aX eo args=true:=by exact dv)(e:R r0=q:=by exact fm) :
  ∃r,(g->fa P (.raw (.func (.func f) #[] #[])) args H fun r' H'=>r'=r/\H'=H)/\R r:=⟨r0,fun _=>nQ h0 (za hc h2 ⟨rfl,rfl⟩),e ▸ k⟩
end
def dL.perm{B:TH}{l:TD}(l':TD)(h:∀i,aA l i=aA l' i):dL F ⟨B,l⟩ F ⟨B,l'⟩:=fun w tm h1 h2=>by
 have hg:∀i,(Hp.mk B l').get i=(Hp.mk B l).get i:=fun i=>(h i).symm
 exact⟨w,rfl,{ rows:=fun i r hi=>h1.rows i r ((hg i) ▸ hi),df:=fun i m z hz=>by rw[hg];exact h1.df i m z hz,inj:=h1.inj,own:=h1.own,fin:=h1.fin,bX:=h1.bX },h2,{ ExtQ.refl _ w with base:=rfl }⟩
variable{t:TJ}
def al(i:Nat){zs:TM}(k:q)(hi:H.get i=none:=by rfl)(hz:dN P t=some zs:=by(simp only[go_sem];rfl))(e:K (.pt i 0 0 0) (H.put i (.var t (zs.map .raw)))=q:=by exact fm):nM P H t K:=xR i hz hi (e ▸ k)
def bx(i:Nat){x:AV}(k:q)(hi:H.get i=none:=by rfl)(ho:cI x.cells=true:=by simp only[go_sem])(e:K (.pt i 0 0 0) (H.put i (.var t x.cells))=q:=by exact fm):ry H t x K:=yX i ho hi (e ▸ k)
def qG{enc:α->TE}(vars more ys:List α){i:Nat}{m sz n:Nat}{css yss:TC}(k:q)(hm:m=vars.length+more.length:=by first|rfl|(simp only[go_sem];done)|omega)(hn:n=vars.length:=by rfl)(hc:css=(vars++more).map enc:=by first|rfl|exact List.map_append.symm|(simp only[go_sem,List.map_append];done))(hy:yss=ys.map enc:=by rfl)
 (e:K (.rs i (vars.length+ys.length+(more.drop ys.length).length) sz (vars.length+ys.length)) (H.put i (.aG t sz ((vars++ys++more.drop ys.length).map enc)))=q:=by exact fm):tL i t m sz n css yss H K:=Rw vars more ys hm hn hc hy (e ▸ k)
section
variable {P:TO}{Q:Exit->TA}{F:TE}{H:Hp}
def gR{P:TO}{Q:Exit->TA}{F:TE}{H:Hp}(id:Nat){l:Array Oper}{b:Bool}(h:dF P (.region id l b) Q F H):dF P (.region id l b) Q F H:=h
variable{l:List Oper}{q:Prop}
def dE(id:Nat)(ord:TH)(hm:P.follows .mixedOrders=true)(h:q)(hok:pQ ([],[],[]) [] l ord=true:=by decide +kernel)(e:fF ([],[],[]) P l.toArray (Q .normal) (ord.map (dJ l)) F H=q:=by(simp only[aW,List.map_cons,List.map_nil,dJ,List.getD_cons_zero,List.getD_cons_succ];exact fm)):dF P (.region id l.toArray true) Q F H:=NV ord hm hok (e ▸ h)
def dA(id:Nat)(A ord:TH)(hm:P.follows .mixedOrders=true)(h:q)(hok:pQ (A,[],[]) [] l ord=true:=by decide +kernel)(e:fF (A,[],[]) P l.toArray (Q .normal) (ord.map (dJ l)) F H=q:=by(simp only[aW,List.map_cons,List.map_nil,dJ,List.getD_cons_zero,List.getD_cons_succ];exact fm)):dF P (.region id l.toArray true) Q F H:=Jb (A,[],[]) ord hm hok (e ▸ h)
def dC(id:Nat)(A:AS)(E ord:TH)(hm:P.follows .mixedOrders=true)(h:q)(hok:pQ A E l ord=true:=by decide +kernel)(hE:ru P l E:=by simp only[ru,dJ,List.getD_cons_zero,List.getD_cons_succ,go_sem])(e:fF A P l.toArray (Q .normal) (ord.map (dJ l)) F H=q:=by(simp only[aW,List.map_cons,List.map_nil,dJ,List.getD_cons_zero,List.getD_cons_succ];exact fm)):dF P (.region id l.toArray true) Q F H:=CH A E ord hm hok hE (e ▸ h)
def dQ(id:Nat)(hm:P.follows .mixedOrders=true)(h:q)(hok:uA l=true:=by decide +kernel)(e:pY P l.toArray H (fun F'=>Q .normal F' H) l F=q:=by exact fm):dF P (.region id l.toArray true) Q F H:=JT hm hok (e ▸ h)
def Ho{c:Code}(L:TH)(slot:Nat)(a:AV)(hB:H.B.all (gV fun i=>L.contains i)=true)(hl:stay (fun i=>L.contains i) H.l)(hv:bu (fun i=>L.contains i) H F (F.set slot a))(h:dF P c Q (F.set slot a) ⟨H.B,fv (fun i=>L.contains i) H.l⟩):dF P c Q F H:=jq (dL.free _ hB hl hv) h
def PW{c:Code}(L:TH)(W:List (Nat×Nat))(J:List (Nat×AV))(h0:(L.any fun i=>(H.get i).isSome)=true)(hB:H.B.all (gV fun i=>L.contains i)=true)(hl:stay (fun i=>L.contains i) H.l)(hv:bu (fun i=>L.contains i) H F (mC J (nj W F)))(h:dF P c Q (mC J (nj W F)) ⟨H.B,fv (fun i=>L.contains i) H.l⟩):dF P c Q F H:=jq (dL.free _ hB hl hv) h
end
def jy{H':Hp}(e:H=H':=by first|(simp only[go_sem];done)|(simp only[go_sem];rfl)|rfl|fail):H=H':=e
def cv{F':TE}(e:lb F F':=by(simp only[go_sem,lb,Nat.reduceAdd,AV.raw.injEq,Value.int.injEq,Value.slice.injEq,Value.pointer.injEq,AV.rs.injEq];try omega)):lb F F':=e
def iF{D:TN}{l m:TE}(e:bu D H l m:=by(simp only[go_sem,↓reduceIte,Int.reduceEq,Int.reduceLE,Int.reduceLT,Int.reduceNe,Int.reduceToNat,Nat.reduceMul,Nat.reduceAdd,Nat.reduceLeDiff,Nat.reduceSub,Nat.reduceEqDiff,Nat.reduceBEq,List.nodup_cons,List.nodup_nil,List.mem_cons,List.not_mem_nil,List.mem_nil_iff];repeat' (first|exact jI|exact Ts _|exact cW.nil _ _|exact cW.lit _ _ _ _ _|exact cW.same _ rfl|(exact cW.same _ (by exact vH))|(exact cW.row _ (by first|rfl|(exact vH)) (by first|(exact vH)|rfl|(exact uc)) (by first|rfl|(simp only[go_sem];done)|omega))|refine jA ?_ ?_|fail))):bu D H l m:=e
def GY{l:List Oper}{b:Bool}(L:TH)(W:List (Nat×Nat))(J:List (Nat×AV))(h:q)(h0:(L.any fun i=>(H.get i).isSome)=true:=by rfl)(hB:H.B.all (gV fun i=>L.contains i)=true:=by exact dv)(hl:stay (fun i=>L.contains i) H.l:=by exact dv)
 (hv:bu (fun i=>L.contains i) H F (mC J (nj W F)):=by exact iF) (e:dF P (.region id l.toArray b) Q (mC J (nj W F)) ⟨H.B,fv (fun i=>L.contains i) H.l⟩=q:=by exact fm):dF P (.region id l.toArray b) Q F H:=PW L W J h0 hB hl hv (e ▸ h)
def bG{f:FuncId}{fn:Func}{c:Code}{args:TE}{r:AV}{k:Nat}(hf:P.funcs[f]?=some fn)(hn:fn.ntmps=k)(h:dF P c (lu P fn fun r' l'=>r'=r/\l'=[]) F ⟨[],[]⟩)(hb:fn.body=some c:=by rfl)
 (hF:args++List.replicate (k-args.length) .any=F:=by(simp only[List.length_cons,List.length_nil,Nat.reduceAdd,Nat.reduceSub,List.replicate,List.cons_append,List.nil_append];rfl)):aB P f args r:=QC hf hb (by rw[hn];exact hF) h
def aM{f:FuncId}{fn:Func}{c:Code}{args:TE}{l:TD}{R:AV->List TQ->Prop}{k:Nat}(hf:P.funcs[f]?=some fn)(hn:fn.ntmps=k)(h:dF P c (lu P fn R) F ⟨L,l⟩)(hb:fn.body=some c:=by rfl)(hL:ids l=L:=by rfl)
 (hF:args++List.replicate (k-args.length) .any=F:=by(simp only[List.length_cons,List.length_nil,Nat.reduceAdd,Nat.reduceSub,List.replicate,List.cons_append,List.nil_append];rfl)):ab P f args l R:=Md hf hb (by rw[hn];exact hF) hL h
section
variable {P:TO}{fn:Func}{F:TE}{H:Hp}{out:TE}{e:Exit}{r:AV}{l:TD}
def bV(rs:List ResultVar)(h1:kG out=r)(h2:H.l=l)(V5:fn.results.toList=rs:=by rfl)(he:e=.normal\/e=.ret:=by first|exact Or.inr rfl|exact Or.inl rfl|fail)(ho:jo P H F rs=some out:=by(exact uc))(hok:km P H F rs:=by exact vH) :
  lu P fn (fun r' l'=>r'=r/\l'=l) e F H:=Q9 rs V5 he ho hok h1 h2
def aY(rs:List ResultVar)(hv:kG out=r)(V5:fn.results.toList=rs:=by rfl)(he:e=.normal\/e=.ret:=by first|exact Or.inr rfl|exact Or.inl rfl|fail)(ho:jo P H F rs=some out:=by(exact uc))(hok:km P H F rs:=by exact vH)(hl:stay (mD H.B) H.l:=by exact dv)
 (hq:(kG out).all (gV (mD H.B))=true:=by exact dv) (h2:fv (mD H.B) H.l=l:=by first|rfl|(exact dv)|(exact uc)|fail):lu P fn (fun r' l'=>r'=r/\l'=l) e F H:=Dp rs V5 he ho hok hl (yr hv hq) h2
def fA(rs:List ResultVar)(hv:cW (mD H.B) H (kG out) r)(V5:fn.results.toList=rs:=by rfl)(he:e=.normal\/e=.ret:=by first|exact Or.inr rfl|exact Or.inl rfl|fail)(ho:jo P H F rs=some out:=by(exact uc))(hok:km P H F rs:=by exact vH)(hl:stay (mD H.B) H.l:=by exact dv)
 (h2:fv (mD H.B) H.l=l:=by first|rfl|(exact dv)|(exact uc)|fail):lu P fn (fun r' l'=>r'=r/\l'=l) e F H:=Dp rs V5 he ho hok hl hv h2
end
@[go_sem] def jzD(enc:α->TE)(l:List α)(k:Nat)(x:α):(l.map enc).set k (enc x)=(l.set k x).map enc:=List.map_set.symm
attribute [go_sem] List.length_set
def eI(x:Int):TE:=[.raw (.int .i64 x)]
instance:bC eI 1:=⟨fun _=>rfl,fun _=>rfl,fun _=>rfl⟩
@[go_sem] def qaO:(∀(x:Int),(eI x).length=1)/\(∀(x:Int),(eI x).getD 0 .any=.raw (.int .i64 x))/\(∀(x:Int),(eI x).drop 1=[]):=by and_intros<;>(intros;rfl)
@[go_sem] def qaP(l:TG)(k:Nat)(x:Int):(l.map eI).set k [.raw (.int .i64 x)]=(l.set k x).map eI:=(List.map_set (f:=eI)).symm
def eS(x:TI):TE:=[.raw (.string x)]
instance:bC eS 1:=⟨fun _=>rfl,fun _=>rfl,fun _=>rfl⟩
@[go_sem] def qaQ:(∀(x:TI),(eS x).length=1)/\(∀(x:TI),(eS x).getD 0 .any=.raw (.string x)):=by and_intros<;>(intros;rfl)
def eB(x:Bool):TE:=[.raw (.bool x)]
instance:bC eB 1:=⟨fun _=>rfl,fun _=>rfl,fun _=>rfl⟩
def eU(x:Int):TE:=[.raw (.int .u8 x)]
instance:bC eU 1:=⟨fun _=>rfl,fun _=>rfl,fun _=>rfl⟩
def sj(x:TG):TE:=[aO eI 1 x]
instance:bC sj 1:=⟨fun _=>rfl,fun _=>rfl,fun _=>rfl⟩
structure cz where
 kind:Int
 text:ByteArray
 at_:Int
 deriving Inhabited,DecidableEq
def ma(x:cz):TE:=[.raw (.int .i64 x.kind),.raw (.string x.text),.raw (.int .i64 x.at_)]
section
variable (x y:cz)
@[go_sem] def jyP:((ma x).length=3)/\((ma x).all AV.one=true):=by and_intros<;>(intros;rfl)
@[go_sem] def KB(q:TN):aX q (ma x)=true:=by simp[ma,aX,AV.all]
instance:bC ma 3:=⟨fun _=>rfl,fun _=>rfl,fun x=>KB x _⟩
@[go_sem] def jw0:((ma x).take 3=ma x)/\((ma x).getD 0 .any=.raw (.int .i64 x.kind))/\((ma x).getD 1 .any=.raw (.string x.text))/\((ma x).getD 2 .any=.raw (.int .i64 x.at_)):=by and_intros<;>(intros;rfl)
end
structure br where
 kind:Int
 cM:Int
 n:Int
 name:ByteArray
 l:List Int
 deriving Inhabited,DecidableEq
def eF(x:br):TE:=[.raw (.int .i64 x.kind),.raw (.int .i64 x.cM),.raw (.int .i64 x.n),.raw (.string x.name),aO eI 1 x.l]
section
variable (x y:br)
@[go_sem] def j00:((eF x).length=5)/\((eF x).all AV.one=true):=by and_intros<;>(intros;rfl)
@[go_sem] def RZ(q:TN):aX q (eF x)=true:=by simp[eF,aX,AV.all]
instance:bC eF 5:=⟨fun _=>rfl,fun _=>rfl,fun x=>RZ x _⟩
@[go_sem] def jyK:((eF x).take 5=eF x)/\((eF x).getD 0 .any=.raw (.int .i64 x.kind))/\((eF x).getD 1 .any=.raw (.int .i64 x.cM))/\((eF x).getD 2 .any=.raw (.int .i64 x.n))/\((eF x).getD 3 .any=.raw (.string x.name))/\((eF x).getD 4 .any=aO eI 1 x.l):=by and_intros<;>(intros;rfl)
end
structure aj where
 ty:Int
 n:Int
 s:ByteArray
 deriving Inhabited,DecidableEq
def bS(x:aj):TE:=[.raw (.int .i64 x.ty),.raw (.int .i64 x.n),.raw (.string x.s)]
section
variable (x y:aj)
@[go_sem] def jyS:((bS x).length=3)/\((bS x).all AV.one=true):=by and_intros<;>(intros;rfl)
@[go_sem] def KN(q:TN):aX q (bS x)=true:=by simp[bS,aX,AV.all]
instance:bC bS 3:=⟨fun _=>rfl,fun _=>rfl,fun x=>KN x _⟩
@[go_sem] def jw2:((bS x).take 3=bS x)/\((bS x).getD 0 .any=.raw (.int .i64 x.ty))/\((bS x).getD 1 .any=.raw (.int .i64 x.n))/\(∀(v:Int),List.take 1 (bS x)++[.raw (.int .i64 v)]++List.drop 2 (bS x)=bS { x with n:=v })/\((bS x).getD 2 .any=.raw (.string x.s)):=by and_intros<;>(intros;rfl)
end
structure bK where
 name:ByteArray
 ty:Int
 deriving Inhabited,DecidableEq
def mG(x:bK):TE:=[.raw (.string x.name),.raw (.int .i64 x.ty)]
section
variable (x y:bK)
@[go_sem] def jyL:((mG x).length=2)/\((mG x).all AV.one=true):=by and_intros<;>(intros;rfl)
@[go_sem] def Lt(q:TN):aX q (mG x)=true:=by simp[mG,aX,AV.all]
instance:bC mG 2:=⟨fun _=>rfl,fun _=>rfl,fun x=>Lt x _⟩
@[go_sem] def jwY:((mG x).take 2=mG x)/\((mG x).getD 0 .any=.raw (.string x.name))/\((mG x).getD 1 .any=.raw (.int .i64 x.ty)):=by and_intros<;>(intros;rfl)
end
structure bg where
 name:ByteArray
 cM:Int
 params:List bK
 ret:Int
 body:Int
 deriving Inhabited,DecidableEq
def fV(x:bg):TE:=[.raw (.string x.name),.raw (.int .i64 x.cM),aO mG 2 x.params,.raw (.int .i64 x.ret),.raw (.int .i64 x.body)]
section
variable (x y:bg)
@[go_sem] def j0U:((fV x).length=5)/\((fV x).all AV.one=true):=by and_intros<;>(intros;rfl)
@[go_sem] def Kx(q:TN):aX q (fV x)=true:=by simp[fV,aX,AV.all]
instance:bC fV 5:=⟨fun _=>rfl,fun _=>rfl,fun x=>Kx x _⟩
@[go_sem] def jyG:((fV x).take 5=fV x)/\((fV x).getD 0 .any=.raw (.string x.name))/\((fV x).getD 2 .any=aO mG 2 x.params)/\((fV x).getD 3 .any=.raw (.int .i64 x.ret))/\((fV x).getD 4 .any=.raw (.int .i64 x.body)):=by and_intros<;>(intros;rfl)
end
structure aH where
 nodes:List br
 aw:List bg
 deriving Inhabited,DecidableEq
def lz(x:aH):TE:=[aO eF 5 x.nodes,aO fV 5 x.aw]
section
variable (x y:aH)
@[go_sem] def j1b:((lz x).length=2)/\((lz x).all AV.one=true):=by and_intros<;>(intros;rfl)
@[go_sem] def S7(q:TN):aX q (lz x)=true:=by simp[lz,aX,AV.all]
instance:bC lz 2:=⟨fun _=>rfl,fun _=>rfl,fun x=>S7 x _⟩
@[go_sem] def jyR:((lz x).take 2=lz x)/\((lz x).getD 0 .any=aO eF 5 x.nodes)/\((lz x).getD 1 .any=aO fV 5 x.aw):=by and_intros<;>(intros;rfl)
end
structure bD where
 name:ByteArray
 ty:Int
 slot:Int
 deriving Inhabited,DecidableEq
def lh(x:bD):TE:=[.raw (.string x.name),.raw (.int .i64 x.ty),.raw (.int .i64 x.slot)]
section
variable (x y:bD)
@[go_sem] def j2O:((lh x).length=3)/\((lh x).all AV.one=true):=by and_intros<;>(intros;rfl)
@[go_sem] def LB(q:TN):aX q (lh x)=true:=by simp[lh,aX,AV.all]
instance:bC lh 3:=⟨fun _=>rfl,fun _=>rfl,fun x=>LB x _⟩
@[go_sem] def j1h:((lh x).take 3=lh x)/\((lh x).getD 0 .any=.raw (.string x.name))/\((lh x).getD 1 .any=.raw (.int .i64 x.ty))/\((lh x).getD 2 .any=.raw (.int .i64 x.slot)):=by and_intros<;>(intros;rfl)
end
structure af where
 aa:aH
 types:List Int
 slots:List Int
 fn:List Int
 size:List Int
 deriving Inhabited,DecidableEq
def cd(x:af):TE:=[aO eF 5 x.aa.nodes,aO fV 5 x.aa.aw,aO eI 1 x.types,aO eI 1 x.slots,aO eI 1 x.fn,aO eI 1 x.size]
section
variable (x y:af)
@[go_sem] def j04:((cd x).length=6)/\((cd x).all AV.one=true):=by and_intros<;>(intros;rfl)
@[go_sem] def Li(q:TN):aX q (cd x)=true:=by simp[cd,aX,AV.all]
instance:bC cd 6:=⟨fun _=>rfl,fun _=>rfl,fun x=>Li x _⟩
@[go_sem] def jyN:((cd x).take 6=cd x)/\((cd x).getD 0 .any=aO eF 5 x.aa.nodes)/\((cd x).getD 1 .any=aO fV 5 x.aa.aw)/\((cd x).getD 2 .any=aO eI 1 x.types)/\((cd x).getD 3 .any=aO eI 1 x.slots)/\((cd x).getD 4 .any=aO eI 1 x.fn):=by and_intros<;>(intros;rfl)
end
structure mj where
 fn:Int
 node:Int
 slots:List aj
 deriving Inhabited,DecidableEq
def qL(x:mj):TE:=[.raw (.int .i64 x.fn),.raw (.int .i64 x.node),aO bS 3 x.slots]
section
variable (x y:mj)
@[go_sem] def j06:(qL x).length=3:=(rfl)
@[go_sem] def NE(q:TN):aX q (qL x)=true:=by simp[qL,aX,AV.all]
instance:bC qL 3:=⟨fun _=>rfl,fun _=>rfl,fun x=>NE x _⟩
@[go_sem] def j2L:(qL x).getD 1 .any=.raw (.int .i64 x.node):=(rfl)
end
structure kV where
 calls:List mj
 heap:List (List Int)
 in_:Int
 bA:List ByteArray
 status:Int
 cX:Int
 time:Int
 deriving Inhabited,DecidableEq
def lI(x:kV):TE:=[aO qL 3 x.calls,aO sj 1 x.heap,.raw (.int .i64 x.in_),aO eS 1 x.bA,.raw (.int .i64 x.status),.raw (.int .i64 x.cX),.raw (.int .i64 x.time)]
section
variable (x y:kV)
@[go_sem] def j05:((lI x).length=7)/\((lI x).all AV.one=true):=by and_intros<;>(intros;rfl)
@[go_sem] def PJ(q:TN):aX q (lI x)=true:=by simp[lI,aX,AV.all]
instance:bC lI 7:=⟨fun _=>rfl,fun _=>rfl,fun x=>PJ x _⟩
@[go_sem] def j2H:((lI x).getD 0 .any=aO qL 3 x.calls)/\((lI x).getD 2 .any=.raw (.int .i64 x.in_))/\((lI x).getD 4 .any=.raw (.int .i64 x.status))/\((lI x).getD 6 .any=.raw (.int .i64 x.time)):=by and_intros<;>(intros;rfl)
end
structure ay where
 op:Int
 a:Int
 b:Int
 s:ByteArray
 deriving Inhabited,DecidableEq
def dn(x:ay):TE:=[.raw (.int .i64 x.op),.raw (.int .i64 x.a),.raw (.int .i64 x.b),.raw (.string x.s)]
section
variable (x y:ay)
@[go_sem] def jyH:((dn x).length=4)/\((dn x).all AV.one=true):=by and_intros<;>(intros;rfl)
@[go_sem] def Ru(q:TN):aX q (dn x)=true:=by simp[dn,aX,AV.all]
instance:bC dn 4:=⟨fun _=>rfl,fun _=>rfl,fun x=>Ru x _⟩
@[go_sem] def jwW:((dn x).take 4=dn x)/\((dn x).getD 0 .any=.raw (.int .i64 x.op))/\((dn x).getD 1 .any=.raw (.int .i64 x.a))/\(∀(v:Int),List.take 1 (dn x)++[.raw (.int .i64 v)]++List.drop 2 (dn x)=dn { x with a:=v })/\((dn x).getD 2 .any=.raw (.int .i64 x.b))/\((dn x).getD 3 .any=.raw (.string x.s)):=by and_intros<;>(intros;rfl)
end
structure aI where
 ins:List ay
 entry:List Int
 deriving Inhabited,DecidableEq
def wO(x:aI):TE:=[aO dn 4 x.ins,aO eI 1 x.entry]
section
variable (x y:aI)
@[go_sem] def Og(q:TN):aX q (wO x)=true:=by simp[wO,aX,AV.all]
instance:bC wO 2:=⟨fun _=>rfl,fun _=>rfl,fun x=>Og x _⟩
end
structure aD where
 at_:Int
 name:ByteArray
 v:aj
 deriving Inhabited,DecidableEq
def bw(x:aD):TE:=[.raw (.int .i64 x.at_),.raw (.string x.name),.raw (.int .i64 x.v.ty),.raw (.int .i64 x.v.n),.raw (.string x.v.s)]
section
variable (x y:aD)
@[go_sem] def j0T:((bw x).length=5)/\((bw x).all AV.one=true):=by and_intros<;>(intros;rfl)
@[go_sem] def IN(q:TN):aX q (bw x)=true:=by simp[bw,aX,AV.all]
instance:bC bw 5:=⟨fun _=>rfl,fun _=>rfl,fun x=>IN x _⟩
@[go_sem] def jyE:((bw x).take 5=bw x)/\((bw x).getD 0 .any=.raw (.int .i64 x.at_))/\((bw x).getD 1 .any=.raw (.string x.name))/\((bw x).getD 2 .any=.raw (.int .i64 x.v.ty))/\(((bw x).drop 2).take 3=bS x.v)/\((bw x).map jQ=[some (.int .i64),some .str,some (.int .i64),some (.int .i64),some .str]):=by and_intros<;>(intros;rfl)
@[go_sem] def j2m:iK (bw x) (bw y)=decide (x=y):=by rw[Bool.eq_iff_iff];obtain⟨a31,a32,⟨a33,a34,a35⟩⟩:=x;obtain⟨b36,b37,⟨b38,b39,b40⟩⟩:=y;simp[bw,iK]
end
structure nB where
 name:ByteArray
 text:ByteArray
 deriving Inhabited,DecidableEq
def zq(x:nB):TE:=[.raw (.string x.name),.raw (.string x.text)]
section
variable (x y:nB)
@[go_sem] def Rl(q:TN):aX q (zq x)=true:=by simp[zq,aX,AV.all]
instance:bC zq 2:=⟨fun _=>rfl,fun _=>rfl,fun x=>Rl x _⟩
end
structure pu where
 name:ByteArray
 cM:Int
 vars:List nB
 deriving Inhabited,DecidableEq
def zd(x:pu):TE:=[.raw (.string x.name),.raw (.int .i64 x.cM),aO zq 2 x.vars]
section
variable (x y:pu)
@[go_sem] def MR(q:TN):aX q (zd x)=true:=by simp[zd,aX,AV.all]
instance:bC zd 3:=⟨fun _=>rfl,fun _=>rfl,fun x=>MR x _⟩
end
structure sM where
 calls:List pu
 bA:List ByteArray
 in_:Int
 status:Int
 cX:Int
 deriving Inhabited,DecidableEq
def BS(x:sM):TE:=[aO zd 3 x.calls,aO eS 1 x.bA,.raw (.int .i64 x.in_),.raw (.int .i64 x.status),.raw (.int .i64 x.cX)]
section
variable (x y:sM)
@[go_sem] def N7(q:TN):aX q (BS x)=true:=by simp[BS,aX,AV.all]
instance:bC BS 5:=⟨fun _=>rfl,fun _=>rfl,fun x=>N7 x _⟩
end
structure ak where
 name:ByteArray
 aC:List Int
 base:List aD
 own:List aD
 deriving Inhabited,DecidableEq
def bq(x:ak):TE:=[.raw (.string x.name),aO eI 1 x.aC,aO bw 5 x.base,aO bw 5 x.own]
section
variable (x y:ak)
@[go_sem] def jwT:((bq x).length=4)/\((bq x).all AV.one=true):=by and_intros<;>(intros;rfl)
@[go_sem] def IC(q:TN):aX q (bq x)=true:=by simp[bq,aX,AV.all]
instance:bC bq 4:=⟨fun _=>rfl,fun _=>rfl,fun x=>IC x _⟩
@[go_sem] def ju6:((bq x).take 4=bq x)/\((bq x).getD 0 .any=.raw (.string x.name))/\(∀(v:TI),.raw (.string v)::List.drop 1 (bq x)=bq { x with name:=v })/\((bq x).getD 1 .any=aO eI 1 x.aC)/\((bq x).getD 2 .any=aO bw 5 x.base)/\((bq x).getD 3 .any=aO bw 5 x.own):=by and_intros<;>(intros;rfl)
end
structure aV where
 l:List ak
 cur:Int
 time:Int
 deriving Inhabited,DecidableEq
def cS(x:aV):TE:=[aO bq 4 x.l,.raw (.int .i64 x.cur),.raw (.int .i64 x.time)]
section
variable (x y:aV)
@[go_sem] def j1i:((cS x).length=3)/\((cS x).all AV.one=true):=by and_intros<;>(intros;rfl)
@[go_sem] def SC(q:TN):aX q (cS x)=true:=by simp[cS,aX,AV.all]
instance:bC cS 3:=⟨fun _=>rfl,fun _=>rfl,fun x=>SC x _⟩
@[go_sem] def jyU:((cS x).take 3=cS x)/\((cS x).getD 0 .any=aO bq 4 x.l)/\((cS x).getD 1 .any=.raw (.int .i64 x.cur))/\(∀(v:Int),List.take 1 (cS x)++[.raw (.int .i64 v)]++List.drop 2 (cS x)=cS { x with cur:=v })/\((cS x).getD 2 .any=.raw (.int .i64 x.time))/\(∀(v:Int),List.take 2 (cS x)++[.raw (.int .i64 v)]++List.drop 3 (cS x)=cS { x with time:=v }):=by and_intros<;>(intros;rfl)
end
structure fT where
 block:Int
 at_:Int
 deriving Inhabited,DecidableEq
def uB(x:fT):TE:=[.raw (.int .i64 x.block),.raw (.int .i64 x.at_)]
section
variable (x y:fT)
@[go_sem] def RL(q:TN):aX q (uB x)=true:=by simp[uB,aX,AV.all]
instance:bC uB 2:=⟨fun _=>rfl,fun _=>rfl,fun x=>RL x _⟩
end
structure fB where
 fn:Int
 slots:List aj
 path:List fT
 deriving Inhabited,DecidableEq
def yE(x:fB):TE:=[.raw (.int .i64 x.fn),aO bS 3 x.slots,aO uB 2 x.path]
section
variable (x y:fB)
@[go_sem] def KT(q:TN):aX q (yE x)=true:=by simp[yE,aX,AV.all]
instance:bC yE 3:=⟨fun _=>rfl,fun _=>rfl,fun x=>KT x _⟩
end
structure gr where
 ka:List fB
 heap:List (List Int)
 in_:Int
 bA:List ByteArray
 status:Int
 cX:Int
 time:Int
 deriving Inhabited,DecidableEq
def CN(x:gr):TE:=[aO yE 3 x.ka,aO sj 1 x.heap,.raw (.int .i64 x.in_),aO eS 1 x.bA,.raw (.int .i64 x.status),.raw (.int .i64 x.cX),.raw (.int .i64 x.time)]
section
variable (x y:gr)
@[go_sem] def LR(q:TN):aX q (CN x)=true:=by simp[CN,aX,AV.all]
instance:bC CN 7:=⟨fun _=>rfl,fun _=>rfl,fun x=>LR x _⟩
end
end Go.Gd