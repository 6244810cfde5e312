/- Lemmas. No conditions. -/
import Derived.Test.YtjpcgmjaipfgdaaGreatDoorGdL
set_option linter.all false
namespace Go.Gd
open Go
section
variable {P:U6}{ops:Array Oper}{H:Hp}
variable{ty:U1}{K:UR}
def wg{ev ev':U2}(o:Op)(h:∀x∈o.operands.toList,ev x=ev' x):vc P ev H ty K o=vc P ev' H ty K o:=by
 have quiet:((vq P ev H o).1/\K (vq P ev H o).2 H)=((vq P ev' H o).1/\K (vq P ev' H o).2 H):=by rw[uk o h]
 have other:jo P o ty ev H K=jo P o ty ev' H K:=by
  unfold jo;apply propext;constructor<;>intro hh w ρ dst pos after guard h1 h2
  ·exact hh w ρ dst pos after guard h1 fun x hx=>by rw[h x hx];exact h2 x hx
  ·exact hh w ρ dst pos after guard h1 fun x hx=>by rw[<-h x hx];exact h2 x hx
 cases o
 case box t x=>simp only[vc];rw[h x (by simp[Op.operands])]
 case store t a x=>simp only[vc];rw[h x (by simp[Op.operands]),h a (by simp[Op.operands])]
 case buildSlice t n ps=> simp only[Op.operands]at h;simp only[vc];rw[List.map_congr_left (g:=fun p=>(p.1,ev' p.2)) (fun x hx=>by rw[h x.2 (by simp at hx ⊢;exact⟨_,hx⟩)])]
 case binOp op t x y t'=>
  cases op<;>first
   |(simp only[vc];rw[h x (by simp[Op.operands]),h y (by simp[Op.operands])];done)
   |exact quiet
 case call c=>
  obtain⟨callee,args,ts⟩:=c;cases callee
  case value f=> simp only[Op.operands,Call.operands]at h;simp only[vc];rw[h f jE,List.map_congr_left (fun x hx=>h x (by simp at hx ⊢;exact .inr hx))]
  case invoke f m=> simp only[Op.operands,Call.operands]at h;simp only[vc];rw[h f jE,List.map_congr_left (fun x hx=>h x (by simp at hx ⊢;exact .inr hx))]
  case builtin b=>
   have hm:args.toList.map ev=args.toList.map ev':=List.map_congr_left fun x hx=>h x (by simpa[Op.operands,Call.operands]using hx)
   cases b
   case append=>
    simp only[vc];split
    ·rename_i t t' a x ht ha;rw[h a (by simp[Op.operands,Call.operands];rw[<-Array.mem_toList_iff,ha];simp),h x (by simp[Op.operands,Call.operands];rw[<-Array.mem_toList_iff,ha];simp)]
    ·rfl
   case len=>exact quiet
   case cap=>exact quiet
   case max=>exact quiet
   case min=>exact quiet
   all_goals(simp only[vc,du,Bool.false_eq_true,if_false];rw[hm])
  all_goals exact other
 all_goals first
  |rfl
  |exact quiet
  |exact other
variable{t:U1}{K':UR}
def EG{n:Nat}{parts:List (Nat×AV)}(h:oI P H t n parts K)(hk:∀r H,K r H->K' r H):oI P H t n parts K':=by
 unfold oI at*;split at h
 ·rename_i e he;split at h
  ·refine⟨h.1,?_⟩;rcases h.2 with h2|⟨h2,i,h3,h4⟩
   ·exact .inl ⟨h2.1,hk _ _ h2.2⟩
   ·exact .inr ⟨h2,i,h3,hk _ _ h4⟩
  ·exact h.elim
 ·exact h.elim
def ER{ev:U2}(o:Op)(hk:∀r H',K r H'->K' r H')(h:vc P ev H ty K o):vc P ev H ty K' o:=by
 have quiet:((vq P ev H o).1/\K (vq P ev H o).2 H)->((vq P ev H o).1/\K' (vq P ev H o).2 H):=fun h=>⟨h.1,hk _ _ h.2⟩
 have other:jo P o ty ev H K->jo P o ty ev H K':=fun hh w ρ dst pos after guard h1 h2=>by obtain⟨w',H',r,g1,g2⟩:=hh w ρ dst pos after guard h1 h2;exact⟨w',H',r,hk _ _ g1,g2⟩
 cases o
 case box t x=>obtain⟨h1,i,h2,h3⟩:=h;exact⟨h1,i,h2,hk _ _ h3⟩
 case alloc t=>
  simp only[vc,nX]at h ⊢;split at h
  ·obtain⟨i,h2,h3⟩:=h;exact⟨i,h2,hk _ _ h3⟩
  ·exact h.elim
 case store t a x=>
  simp only[vc,vM]at h ⊢;split at h
  ·split at h
   ·exact⟨h.1,hk _ _ h.2⟩
   ·exact h.elim
  ·exact h.elim
 case buildSlice t n ps=>exact EG h hk
 case binOp op t x y t'=>
  have nileq:∀ne,qA P ne t (ev x) (ev y) H K->qA P ne t (ev x) (ev y) H K':=fun ne h=>by
   unfold qA at h ⊢;split at h
   ·exact⟨h.1,fun b hb=>hk _ _ (h.2 b hb)⟩
   ·exact⟨h.1,fun b hb=>hk _ _ (h.2 b hb)⟩
   ·rename_i Vj;exact⟨h.1,hk _ _ h.2⟩
  cases op<;>first
   |exact nileq false h
   |exact nileq true h
   |exact quiet h
 case call c=>
  obtain⟨callee,args,ts⟩:=c;cases callee
  case value f=>exact yB h hk
  case invoke f m=>
   simp only[vc,qt]at h ⊢;split at h
   ·split at h
    ·exact yB h hk
    ·exact h.elim
   ·exact h.elim
  case builtin b=>
   have bvc:qg P b ts.toList (args.toList.map ev) H K->qg P b ts.toList (args.toList.map ev) H K':=fun hh w vs ty cs h1 h2=>by obtain⟨w',H',r,v,g1,g2,g3⟩:=hh w vs ty cs h1 h2;exact⟨w',H',r,v,g1,hk _ _ g2,g3⟩
   cases b
   case append=>
    simp only[vc]at h ⊢;split at h
    ·intro w va vx ty h1 h2 h3;obtain⟨w',H',r,v,g1,g2,g3⟩:=h w va vx ty h1 h2 h3;exact⟨w',H',r,v,g1,hk _ _ g2,g3⟩
    ·exact h.elim
   case len=>exact quiet h
   case cap=>exact quiet h
   case max=>exact quiet h
   case min=>exact quiet h
   all_goals exact bvc h
  all_goals exact other h
 all_goals first
  |exact quiet h
  |exact other h
-- what is quiet, what is an effect
def qd:Op->Bool
 |.buildSlice ..=>true
 |_=>false
abbrev AS:=UZ×UZ×UZ
def uj(A:AS)(o:Oper):Bool:=match o.dst with
 |some t=>A.2.1.contains t
 |none=>false
def oW(A:AS)(o:Oper):Bool:=match o.dst with
 |some t=>A.2.2.contains t
 |none=>false
def pc(A:AS)(o:Oper):Bool:=o.guard.isSome && oW A o && jw o.op
def nC(A:AS)(o:Oper):Bool:=(o.guard.isNone && !du o.op && !nS o.op && !(qd o.op && !oW A o) && !uj A o) || pc A o
def DM(P:U6)(ev:U2)(H:Hp)(K:AV->Prop):Op->Prop
 |.call { callee:=.value f,args,.. }=>∃r,(fi P (ev f) (args.toList.map ev) H fun r' H'=>r'=r/\H'=H)/\K r
 |.lookup t m k c=>∃r,jo P (.lookup t m k c) 0 ev H (fun r' H'=>r'=r/\H'=H)/\K r
 |_=>False
def oP(o:Oper):Bool:=match o.op with
 |.load ..=>true
 |.lookup ..=>true
 |.call { callee:=.value _,.. }=>true
 |.call { callee:=.invoke ..,.. }=>true
 |.call { callee:=.builtin .len,argTypes,.. }=>jm.contains (argTypes.toList.headD 0)
 |_=>false
def nJ(A:AS)(o:Oper):Bool:=match o.op with
 |.alloc _=>true
 |.box ..=>true
 |.store ..=>!A.1.isEmpty && !A.2.2.contains 1000000
 |.call { callee:=.value _,.. }=>oW A o
 |.call { callee:=.builtin .append,.. }=>oW A o
 |.buildSlice ..=>oW A o
 |.makeSlice ..=>oW A o
 |_=>false
def pF(o:Oper):Bool:=match o.op with
 |.load ..=>o.guard.isNone
 |_=>false
def eD(A:AS)(H H':Hp):Prop:=∀i r,A.1.contains i=false->H.get i=some r->H'.get i=some r\/(A.1.contains (i+16)=true/\∃t c c' cs,r=.var t (c::cs)/\H'.get i=some (.var t (c'::cs)))
def eD.refl(A:AS)(H:Hp):eD A H H:=fun _ _ _ h=>.inl h
def eD.trans{L:AS}{A B C:Hp}(h:eD L A B)(k:eD L B C):eD L A C:=fun i r ha e=>by
 rcases h i r ha e with h1|⟨h0,t,c,c',cs,rfl,h1⟩
 ·exact k i r ha h1
 ·rcases k i _ ha h1 with k1|⟨_,t',d,d',ds,e',k1⟩
  ·exact .inr ⟨h0,t,c,c',cs,rfl,k1⟩
  ·cases e';exact .inr ⟨h0,t,c,d',cs,rfl,k1⟩
theorem eD.put{A:AS}{H:Hp}{i:Nat}{r:Row}(h:H.get i=none):eD A H (H.put i r):=fun j s _ hj=>by
 left
 rw[Hp.bn,if_neg (by rintro rfl;rw[h]at hj;cases hj)];exact hj
variable{A:AS}{i:Nat}
def eD.set{H:Hp}{r:Row}(h:A.1.contains i=true):eD A H (H.put i r):=fun j s ha hj=>by
 left
 rw[Hp.bn,if_neg (by rintro rfl;rw[h]at ha;cases ha)];exact hj
def tM(A:AS):AV->Bool
 |.pt i _ _ j=>!A.1.contains i && (decide (1<=j) || !A.1.contains (i+16))
 |_=>true
def DG(A:AS):AV->Bool
 |.pt i _ _ _=>A.1.contains i
 |_=>false
def jn(A:AS)(ev:U2):Op->Bool
 |.load _ x=>tM A (ev x)
 |.store _ a _=>(A.1.isEmpty || A.2.2.contains 1000000) || DG A (ev a)
 |_=>true
variable{H':Hp}
def QQ{H:Hp}(h:eD A H H'){a:AV}(ha:tM A a=true){x:Prop×UU}(hc:pQ H a=some x):pQ H' a=some x:=by
 unfold pQ at*;split at hc
 ·exact hc
 ·rename_i i m k j;have ha:A.1.contains i=false/\(1<=j\/A.1.contains (i+16)=false):=by
   simp only[tM,Bool.and_eq_true,Bool.or_eq_true,Bool.not_eq_true',decide_eq_true_eq]at ha;exact ha
  cases e:H.get i with
  |none=>rw[e]at hc;cases hc
  |some r=>
   rw[e]at hc;rcases h i r ha.1 e with h1|⟨h0,t,c,c',cs,rfl,h1⟩
   ·simp only[h1];exact hc
   ·rcases ha.2 with h2|h2
    ·obtain⟨j',rfl⟩:∃j',j=j'+1:=⟨j-1,jB⟩;simp only[h1,List.drop_succ_cons]at hc ⊢;exact hc
    ·rw[h0]at h2;cases h2
 ·cases hc
def Oe{H:Hp}(h:eD A H H'){a:AV}(ha:tM A a=true)(hq:(pD P H t a).1):pD P H' t a=pD P H t a:=by
 unfold pD at*;cases e:pQ H a with
 |none=>rw[e]at hq;exact hq.elim
 |some x=>rw[QQ h ha e]
def fK(P:U6)(ev:U2)(H:Hp)(ty:U1)(K:UR)(op:Op):Prop:=if nS op then(vq P ev H op).1/\K (vq P ev H op).2 H else match op with
 |.buildSlice t n parts=>pw P t n (parts.toList.map fun p=>(p.1,ev p.2)) fun r=>K r H
 |op=>vc P ev H ty K op
def UE{ev:U2}(t:U1)(n:Nat)(parts:Array (Nat×Operand)):fK P ev H ty K (.buildSlice t n parts)=pw P t n (parts.toList.map fun p=>(p.1,ev p.2)) fun r=>K r H:=rfl
def AT{ev:U2}{op:Op}(h1:¬nS op=true)(h2:¬qd op=true):fK P ev H ty K op=vc P ev H ty K op:=by unfold fK;rw[if_neg h1];cases op<;>first|rfl|(exact(h2 rfl).elim)
def sW(P:U6)(A:AS)(ev:U2)(H:Hp)(K:UR):Op->Prop
 |.call { callee:=.value f,args,.. }=>fi P (ev f) (args.toList.map ev) H fun r H'=>eD A H H'/\K r H'
 |.buildSlice t n parts=>oI P H t n (parts.toList.map fun p=>(p.1,ev p.2)) fun r H'=>eD A H H'/\K r H'
 |.makeSlice t l c=>jo P (.makeSlice t l c) 0 ev H fun r H'=>eD A H H'/\K r H'
 |.call { callee:=.builtin .append,args,argTypes }=>vc P ev H 0 (fun r H'=>eD A H H'/\K r H') (.call ⟨.builtin .append,args,argTypes⟩)
 |_=>False
def fM(A:AS)(P:U6)(ops:Array Oper)(K:UQ):List Oper->UQ
 |[],F,H=>K F H
 |o::rest,F,H=>match o.guard with
  |none=>if uj A o=true then DM P (cw F) H (fun r=>fM A P ops K rest (cQ F o.dst r) H) o.op else if oW A o=true then sW P A (cw F) H (fun r H'=>fM A P ops K rest (cQ F o.dst r) H') o.op else jn A (cw F) o.op=true/\fK P (cw F) H o.type (fun r H'=>fM A P ops K rest (cQ F o.dst r) H') o.op
  |some (j,want)=>match l9 ops F j want with
   |some b=>if pc A o=true then(b=true->gw F o.op=true/\sW P A (bJ F) H (fun r H'=>fM A P ops K rest (cQ F o.dst r) H') o.op)/\(b=false->fM A P ops K rest (cQ F o.dst (.gd false (.raw (.bool false)))) H)
    else(jw o.op || iM o.op)=true/\eR P F H b (fun r=>fM A P ops K rest (cQ F o.dst r) H) o.op
   |none=>False
def Ph(ts:List U1)(args:UU)(h:jm.contains (ts.headD 0)=false):mz P H .len ts args=mz P H' .len ts args:=by
 unfold mz;cases ts with
 |nil=>rfl
 |cons t ts=>
  cases args with
  |nil=>rfl
  |cons x l=>
   show uO P H t x=uO P H' t x;unfold uO;have h:jm.contains t=false:=h;have hn:¬(jm.contains t=true):=by rw[h];exact Bool.false_ne_true
   cases x with
   |raw v=>cases v<;>rfl
   |mr i=> show(if jm.contains t=true then _ else iy)=(if jm.contains t=true then _ else iy);rw[if_neg hn,if_neg hn]
   |_=>rfl
variable{o:Oper}
def xI{ev:U2}(h:oP o=false):vq P ev H o.op=vq P ev H' o.op:=by
 obtain⟨dst,op,ty,pos,after,guard⟩:=o;cases op<;>first
  |rfl
  |(simp[oP]at h;done)
  |skip
 rename_i c;obtain⟨callee,args,ts⟩:=c;cases callee
 case builtin b=>
  cases b
  case len=>exact Ph _ _ h
  all_goals(simp only[vq];unfold mz;generalize ts.toList=a;generalize args.toList.map ev=b;cases a<;>cases b<;>rfl)
 all_goals rfl
variable{F:UU}
def MP{g:Bool}{K:AV->Prop}(h:oP o=false):eR P F H g K o.op=eR P F H' g K o.op:=by
 have hc:jw o.op=false:=by
  obtain⟨dst,op,ty,pos,after,guard⟩:=o;cases op<;>first
   |rfl
   |(rename_i c;obtain⟨callee,args,ts⟩:=c;cases callee<;>first|rfl|simp[oP]at h)
 by_cases hp:xX o.op=true
 ·obtain⟨dst,op,ty,pos,after,guard⟩:=o;cases op<;>first|(cases hp;done)|rfl|(rename_i c;obtain⟨callee,args,ts⟩:=c;cases callee<;>first|(cases hp;done)|simp[oP]at h)
 have hp:xX o.op=false:=by simpa using hp
 rw[zN _ hc hp,zN _ hc hp,xI h]
def Nh{ev:U2}{o:Op}(h:du o=true):vc P ev H ty K o=((vq P ev H o).1/\K (vq P ev H o).2 H):=by
 cases o
 case binOp op t x y t'=>cases op<;>first|(simp[du]at h;done)|simp[vc,du]
 case call c=>
  obtain⟨callee,args,ts⟩:=c;cases callee
  case builtin b=>cases b<;>first|(simp[du]at h;done)|simp[vc,du]
  all_goals(simp[du]at h;done)
 all_goals first
  |(simp[du]at h;done)
  |simp[vc,du]
def EO{K:UQ}{rest:List Oper}(h:fM A P ops K (o::rest) F H) :
  (nC A o=true/\∀G,xj ops o F G->nq P ops o G H fun G' H'=>(nJ A o=true->eD A H H')/\∃r,G'=cQ G o.dst r/\fM A P ops K rest (cQ F o.dst r) H')\/
  (nC A o=false/\∃r,QV P ops o F H r/\(oP o=false->∀H',QV P ops o F H' r)/\(pF o=true->∀H',eD A H H'->QV P ops o F H' r)/\fM A P ops K rest (cQ F o.dst r) H):=by
 unfold fM at h;split at h
 ·rename_i hg;by_cases X2:uj A o=true
  ·rw[if_pos X2]at h;refine .inr ⟨by simp[nC,pc,hg,X2],?_⟩;obtain⟨dst,op,ty,pos,after,guard⟩:=o;simp only at hg;subst hg;cases op<;>first|exact h.elim|skip
   case call=>
    rename_i c;obtain⟨callee,args,ts⟩:=c;cases callee<;>first|exact h.elim|skip
    obtain⟨r,h1,h2⟩:=h;exact⟨r,IF h1,fun hd=>by simp[oP]at hd,fun W4=>by simp[pF]at W4,h2⟩
   case lookup=>
    rename_i t m k c;obtain⟨r,h1,h2⟩:=h;refine⟨r,fun G hG=>?_,fun hd=>by simp[oP]at hd,fun W4=>by simp[pF]at W4,h2⟩;refine qF (K:=fun F' H'=>F'=cQ G dst r/\H'=H) rfl ?_;rw[wg _ hG.1];have e:∀K:UR,vc P (cw F) H ty K (.lookup t m k c)=jo P (.lookup t m k c) ty (cw F) H K:=fun K=>by simp[vc,du]
    show vc P (cw F) H ty _ (.lookup t m k c);rw[e];intro w ρ dst' pos' after' guard' g1 g2;obtain⟨w',H',r',hk,g⟩:=h1 w ρ dst' pos' after' guard' g1 g2;exact⟨w',H',r',⟨by rw[hk.1],hk.2⟩,g⟩
  rw[if_neg X2]at h;by_cases W9:oW A o=true
  ·rw[if_pos W9]at h;have X2:uj A o=false:=by simpa using X2
   obtain⟨dst,op,ty,pos,after,guard⟩:=o;simp only at hg;subst hg;cases op
   case call=>
    rename_i c _;obtain⟨callee,args,ts⟩:=c;cases callee
    case value f _=> refine .inl ⟨by simp[nC,du,nS,qd,X2],fun G hG=>?_⟩;refine qF rfl ?_;rw[wg _ hG.1];exact yB (f:=cw F f) (args:=args.toList.map (cw F)) h fun r H' hk=>⟨fun _=>hk.1,r,rfl,hk.2⟩
    case builtin bi _=>
     cases bi
     case append=> refine .inl ⟨by simp[nC,du,nS,qd,X2],fun G hG=>?_⟩;refine qF rfl ?_;rw[wg _ hG.1];exact ER (K:=fun r H'=>eD A H H'/\fM A P ops K rest (cQ F dst r) H') (.call ⟨.builtin .append,args,ts⟩) (fun r H' hk=>⟨fun _=>hk.1,r,rfl,hk.2⟩) h
     all_goals exact h.elim
    all_goals exact h.elim
   case buildSlice=> refine .inl ⟨by simp[nC,du,nS,qd,X2,W9],fun G hG=>?_⟩;refine qF rfl ?_;rw[wg _ hG.1];exact EG h fun r H' hk=>⟨fun _=>hk.1,r,rfl,hk.2⟩
   case makeSlice=>
    rename_i t l c _;refine .inl ⟨by simp[nC,du,nS,qd,X2],fun G hG=>?_⟩;refine qF rfl ?_;rw[wg _ hG.1];have e:∀K:UR,vc P (cw F) H ty K (.makeSlice t l c)=jo P (.makeSlice t l c) ty (cw F) H K:=fun K=>by simp[vc,du]
    show vc P (cw F) H ty _ (.makeSlice t l c);rw[e];intro w ρ dst' pos' after' guard' h1 h2;obtain⟨w',H',r,hk,g⟩:=h w ρ dst' pos' after' guard' h1 h2;exact⟨w',H',r,⟨fun _=>hk.1,r,rfl,hk.2⟩,g⟩
   all_goals exact h.elim
  rw[if_neg W9]at h;obtain⟨hA,h⟩:=h;by_cases he:nS o.op=true
  ·unfold fK at h;rw[if_pos he]at h;exact .inr ⟨by simp[nC,pc,hg,he],_,wl hg h.1,fun hd H'=>by rw[xI hd];exact wl hg (by rw[<-xI (H:=H) hd];exact h.1),fun W4=>by obtain⟨dst,op,ty,pos,after,guard⟩:=o;cases op<;>first|(simp[nS]at he;done)|(simp[pF]at W4;done),h.2⟩
  ·by_cases hl:qd o.op=true
   ·refine .inr ⟨by simp[nC,pc,hg,hl,W9],?_⟩;obtain⟨dst,op,ty,pos,after,guard⟩:=o;simp only at hg;subst hg;cases op<;>first|(simp[qd]at hl;done)|skip
    rename_i t n parts;rw[UE]at h;obtain⟨r,h1,h2⟩:=Cw h;exact⟨r,CO (h2 _ rfl),fun _ H'=>CO (h2 _ rfl),fun W4=>by simp[pF]at W4,h1⟩
   ·rw[AT he hl]at h;by_cases hq:du o.op=true
    ·have h':(vq P (cw F) H o.op).1/\fM A P ops K rest (cQ F o.dst (vq P (cw F) H o.op).2) H:=by
      rw[Nh hq]at h;exact h
     refine .inr ⟨by simp[nC,pc,hg,hq],_,wl hg h'.1,fun hd H'=>by rw[xI hd];exact wl hg (by rw[<-xI (H:=H) hd];exact h'.1),fun W4 H' Vd=>?_,h'.2⟩;obtain⟨dst,op,ty,pos,after,guard⟩:=o;cases op<;>first|(simp[pF]at W4;done)|skip
     rename_i t a;have e:vq P (cw F) H' (.load t a)=vq P (cw F) H (.load t a):=Oe Vd hA h'.1;have:=wl (P:=P) (ops:=ops) (H:=H') (o:=⟨dst,.load t a,ty,pos,after,guard⟩) (F:=F) hg (by rw[e];exact h'.1);rw[e]at this;exact this
    ·refine .inl ⟨by simp[nC,pc,hg];simp at hq he hl X2;exact⟨⟨⟨hq,he⟩,.inl hl⟩,X2⟩,fun G hG=>?_⟩;refine qF hg ?_;rw[wg o.op hG.1];by_cases XW:nJ A o=true
     ·obtain⟨dst,op,ty,pos,after,guard⟩:=o;cases op<;>first|(simp[nJ]at XW;done)|(exact(W9 XW).elim)|skip
      case call c=>
       obtain⟨callee,args,ts⟩:=c;cases callee
       case builtin bi=>cases bi<;>first|(exact(W9 XW).elim)|(simp[nJ]at XW;done)
       all_goals first|(exact(W9 XW).elim)|(simp[nJ]at XW;done)
      case alloc t=>
       simp only[vc,nX]at h ⊢;split at h
       ·obtain⟨i,h2,h3⟩:=h;exact⟨i,h2,fun _=>eD.put h2,_,rfl,h3⟩
       ·exact h.elim
      case box t x=>obtain⟨h1,i,h2,h3⟩:=h;exact⟨h1,i,h2,fun _=>eD.put h2,_,rfl,h3⟩
      case store t a x=>
       simp only[nJ,Bool.and_eq_true,Bool.not_eq_true']at XW;simp only[jn,XW.1,XW.2,Bool.false_or]at hA;simp only[vc,vM]at h ⊢;split at h
       ·rename_i i m k j n ha hn;have hi:A.1.contains i=true:=by rw[ha]at hA;exact hA
        split at h
        ·rename_i r hr;obtain⟨h1,h2⟩:=h;exact⟨h1,fun _=>eD.set hi,_,rfl,h2⟩
        ·exact h.elim
       ·exact h.elim
     ·exact ER o.op (fun r H' hk=>⟨fun ha8=>(XW ha8).elim,r,rfl,hk⟩) h
 ·rename_i j want hg;split at h
  ·rename_i b hb;by_cases Y6:pc A o=true
   ·rw[if_pos Y6]at h;refine .inl ⟨by simp[nC,Y6],fun G hG=>?_⟩;obtain⟨dst,op,ty,pos,after,guard⟩:=o;simp only at hg;subst hg;have hc:jw op=true:=by unfold pc at Y6;simp only[Bool.and_eq_true]at Y6;exact Y6.2
    cases op<;>first|(cases hc;done)|skip
    rename_i c;obtain⟨callee,args,ts⟩:=c;cases callee<;>first|(cases hc;done)|skip
    rename_i f;have hev:∀x∈(Op.call ⟨.value f,args,ts⟩).operands.toList,cw G x=cw F x:=hG.1;have hbG:=hG.2 j want rfl;rw[hb]at hbG;have hGg:∀x∈(Op.call ⟨.value f,args,ts⟩).operands.toList,bJ G x=bJ F x:=fun x hx=>by unfold bJ;rw[hev x hx]
    refine pr rfl hbG (fun VK w tm Q next h1 h2 hn=>?_) (fun VK=>⟨.gd false (.raw (.bool false)),qZ rfl,⟨fun _=>eD.refl _ _,_,rfl,h.2 VK⟩⟩);obtain⟨ok,VG⟩:=h.1 VK;have ok:gw G (.call ⟨.value f,args,ts⟩)=true:=by unfold gw at ok ⊢;rw[List.all_eq_true]at ok ⊢;exact fun x hx=>by rw[hev x hx];exact ok x hx
    have XH:=qC ok;have e1:kK G f=bJ F f:=(XH f (by simp[Op.operands,Call.operands])).trans (hGg f (by simp[Op.operands,Call.operands]));have e2:args.toList.map (kK G)=args.toList.map (bJ F):=List.map_congr_left fun x hx=>(XH x (by simp[Op.operands,Call.operands]at hx ⊢;exact .inr hx)).trans (hGg x (by simp[Op.operands,Call.operands]at hx ⊢;exact .inr hx))
    refine xU (ev:=kK G) e1 e2 VG h1 (sK h2) fun v r' w' H' hR g1 g2 g3=>?_
    rw[Act.put_eq];exact hn _ w' _ H' ⟨fun _=>hR.1,r',rfl,hR.2⟩ g1 ((h2.ext g3).put dst g2 []) g3
   rw[if_neg Y6]at h;obtain⟨hq,hv⟩:=h;obtain⟨r,h1,h2⟩:=Dw hv;have h3:=h2 F (fun r'=>r'=.gd b r) (fun _ _=>rfl) rfl;exact .inr ⟨by simp[nC,hg,Y6],_,Dr hg hb hq h3,fun hd H'=>Dr hg hb hq (by rw[MP hd]at h3;exact h3),(fun W4=>by
    unfold pF at W4;split at W4
    ·rw[hg]at W4;cases W4
    ·cases W4),h1⟩
  ·exact h.elim
def dV(l:List Oper)(i:Nat):Oper:=l.getD i default
def lf(A:AS)(l:List Oper)(i:Nat):Bool:=nC A (dV l i)
def pv(A:AS)(E:UZ)(l:List Oper)(ps:List UZ):UZ->UZ->Bool
 |done,[]=>(List.range l.length).all fun i=>done.contains i
 |done,i::rest=>((ps.getD i []).all fun k=>done.contains k) && !done.contains i && decide (i<l.length) &&
   (!lf A l i || ((rest.all fun k=>(ps.getD k []).contains i || E.contains k) && done.all fun q=>lf A l q || !oP (dV l q) || (ps.getD i []).contains q || (nJ A (dV l i) && pF (dV l q)))) && pv A E l ps (i::done) rest
def qn(A:AS)(E:UZ)(l:List Oper)(ord:UZ):Bool:=uT l && pv A E l (kJ l) [] ord && E.all fun i=>!uj A (dV l i) && !oW A (dV l i)
def mem(done:UZ)(i:Nat):Bool:=done.contains i
variable{l:List Oper}{done:UZ}
def uW{E:UZ}{rest:UZ}(h:pv A E l (kJ l) done (i::rest)=true) :
  (∀k∈(kJ l).getD i [],k∈done)/\i ∉ done/\i<l.length/\(lf A l i=true->(∀k∈rest,i∈(kJ l).getD k []\/k∈E)/\∀q∈done,lf A l q=true\/oP (dV l q)=false\/q∈(kJ l).getD i []\/(nJ A (dV l i)=true/\pF (dV l q)=true))/\pv A E l (kJ l) (i::done) rest=true:=by
 simp only[pv,Bool.and_eq_true,List.all_eq_true,List.contains_iff_mem,Bool.not_eq_true',decide_eq_true_eq,Bool.or_eq_true]at h;obtain⟨⟨⟨⟨h1,h2⟩,h3⟩,h4⟩,h5⟩:=h;refine⟨h1,by simpa using h2,h3,fun he=>?_,h5⟩;rcases h4 with h4|h4
 ·rw[he]at h4;cases h4
 ·exact⟨h4.1,fun q hq=>by
   rcases h4.2 q hq with((h|h)|h)|h
   ·exact .inl h
   ·exact .inr (.inl h)
   ·exact .inr (.inr (.inl h))
   ·exact .inr (.inr (.inr h))⟩
theorem Sc{A:AS}{E:UZ}{l:List Oper}:∀{rest done:UZ},pv A E l (kJ l) done rest=true->∀e∈rest,lf A l e=true->∀q∈done,lf A l q=true\/oP (dV l q)=false\/q∈(kJ l).getD e []\/(nJ A (dV l e)=true/\pF (dV l q)=true)
 |[],_,_=>fun e he=>by simp at he
 |i::rest,done,h=>fun e he Yz q hq=>by
  obtain⟨_,_,_,h4,h5⟩:=uW h;rcases List.mem_cons.1 he with rfl|he
  ·exact(h4 Yz).2 q hq
  ·exact Sc h5 e he Yz q (List.mem_cons_of_mem _ hq)
theorem Bx{A:AS}{E:UZ}{l:List Oper}:∀{rest done:UZ},pv A E l (kJ l) done rest=true->∀i,i<l.length->i∈done\/i∈rest
 |[],done,h=>fun i hi=>by simp only[pv,List.all_eq_true,List.mem_range,List.contains_iff_mem]at h;exact .inl (h i hi)
 |j::rest,done,h=>fun i hi=>by
  obtain⟨_,_,_,_,h5⟩:=uW h;rcases Bx h5 i hi with h|h
  ·rcases List.mem_cons.1 h with rfl|h
   ·exact .inr jE
   ·exact .inl h
  ·exact .inr (List.mem_cons_of_mem _ h)
def l7:mem done i=true<->i∈done:=by simp[mem]
def Bu(done:UZ)(i:Nat):(fun k=>mem (i::done) k)=fun k=>mem done k || k == i:=by
 funext k
 rw[Bool.eq_iff_iff];simp[mem,or_comm]
def zr(ho:l[i]?=some o){e:Edge}(he:e∈o.after.toList)(hb:Region.binds .any e=true):e.on∈(kJ l).getD i []:=by rw[G2 ho,DP];exact List.mem_flatMap.2 ⟨e,List.mem_filter.2 ⟨he,hb⟩,jE⟩
theorem Hj{os:List Oper}{rs F:UU}{L L':U5}{s:Nat}(h:∀k o,os[k]?=some o->o.dst=some s->L k=L' k):∀m,lL os rs L F s m=lL os rs L' F s m
 |0=>rfl
 |m+1=>by
  unfold lL;rw[Hj h m];cases ho:os[m]? with
  |none=>simp
  |some o=>
   simp only[Option.bind_some];by_cases hd:o.dst=some s
   ·rw[h m o ho hd]
   ·simp[hd]
theorem ry{os:List Oper}{rs F:UU}{L:U5}{i:Nat}{r:AV}(hL:L i=false):∀m,FL os (rs.set i r) L F m=FL os rs L F m
 |0=>rfl
 |m+1=>by
  unfold FL;rw[ry hL m];by_cases hm:m=i
  ·subst hm;simp[hL]
  ·have:(rs.set i r).getD m .any=rs.getD m .any:=by simp[List.getElem?_set,Ne.symm hm]
   rw[this]
section
variable {l:List Oper}(D':∀j o,l[j]?=some o->∀e∈o.after.toList,Region.binds .any e=true->e.on<j)
 (Vf:∀i j a b,i<j->l[i]?=some a->l[j]?=some b->tZ l a b=true->i∈(kJ l).getD j [])
include D' Vf
variable{L:U5}
theorem A5(Xs:oy l L){i:Nat}{o:Oper}(ho:l[i]?=some o)(Yy:L i=false)(Wl:∀e∈o.after.toList,Region.binds .any e=true->L e.on=true) :
  ∀k o' s,l[k]?=some o'->o'.dst=some s->(s∈looks l o\/o.dst=some s)->L k=decide (k<i):=by
 intro k o' s hk hs VP;have VH:=vS Xs D' (i+1) i jB o ho Wl;rcases Nat.lt_trichotomy k i with h|h|h
 ·rw[decide_eq_true h];refine VH k (Vf k i o' o h hk ho ?_);unfold tZ;rw[hs];rcases VP with h5|h5
  ·simp[h5]
  ·simp[h5]
 ·subst h;simpa using Yy
 ·rw[decide_eq_false jB];cases hv:L k with
  |false=>rfl
  |true=>
   have WJ:i∈(kJ l).getD k []:=Vf i k o o' h ho hk (by
    unfold tZ;rw[hs];rcases VP with h5|h5
    ·simp[h5]
    ·simp[h5])
   have:=vS Xs D' (k+1) k jB o' hk (fun e he hb=>Xs k o' hk hv e he hb) i WJ;rw[Yy]at this;cases this
theorem HA{rs F:UU}{L':U5}(hL:oy l L)(Xi:oy l L'){i:Nat}{o:Oper}(ho:l[i]?=some o)(h1:L i=false)(h2:L' i=false)
  (h3:∀e∈o.after.toList,Region.binds .any e=true->L e.on=true) (h4:∀e∈o.after.toList,Region.binds .any e=true->L' e.on=true):xj l.toArray o (FL l rs L F l.length) (FL l rs L' F l.length):=by
 refine F8 (by rw[lP,lP]) fun s hs O'=>?_
 rw[lP]at O';rw[tJ _ _ _ _ O',tJ _ _ _ _ O'];exact(Hj (fun k o' hk hd=>by rw[A5 D' Vf hL ho h1 h3 k o' s hk hd (.inl hs),A5 D' Vf Xi ho h2 h4 k o' s hk hd (.inl hs)]) _).symm
theorem vQ{rs F:UU}{L2:U5}(hL:oy l L){i:Nat}{o:Oper}(ho:l[i]?=some o)(h1:L i=false)(h3:∀e∈o.after.toList,Region.binds .any e=true->L e.on=true){r:AV}(hr:rs.getD i .any=r)(Xo:∀k,L2 k=(L k || k == i)) :
  cQ (FL l rs L F l.length) o.dst r=FL l rs L2 F l.length:=by
 have Wz:=(List.getElem?_eq_some_iff.1 ho).1;refine Fc (m':=0) (L':=fun _=>true) (by cases o.dst<;>simp[cQ,lP]) fun s hs=>?_
 by_cases hd:o.dst=some s
 ·rw[CI (L:=L) ho Xo (fun k o' hk hd'=>A5 D' Vf hL ho h1 h3 k o' s hk hd' (.inr hd)) hd _ Wz,hd,hr];simp[cQ,lP,hs]
 ·rw[C6 (L:=L) ho Xo hd,<-tJ _ _ _ _ hs];cases hd':o.dst with
  |none=>rfl
  |some d=>
   have:d≠s:=fun e=>hd (by rw[hd',e])
   simp[cQ,List.getElem?_set,this]
end
structure Inv(A:AS)(E:List Nat)(P:Program)(l:List Oper)(K:List AV->Hp->Prop)(F:List AV)(L:Nat->Bool)(done rest:List Nat)(rs:List AV)(H:Hp):Prop where
 len:rs.length=l.length
 sub:∀i,L i=true->i∈done\/i∈E
 eW:oy l L
 la:oy l (mem done)
 ord:pv A E l (kJ l) done rest=true
 walk:fM A P l.toArray K (rest.map (dV l)) (FL l rs (mem done) F l.length) H
 wait:∀i∈done,L i=false->lf A l i=false/\i<l.length/\∃D,oy l D/\D i=false/\(∀k,D k=true->k∈done)/\(∀e∈(dV l i).after.toList,Region.binds .any e=true->D e.on=true)/\
  QV P l.toArray (dV l i) (FL l rs D F l.length) H (rs.getD i .any)/\(oP (dV l i)=false->∀H',QV P l.toArray (dV l i) (FL l rs D F l.length) H' (rs.getD i .any))/\(pF (dV l i)=true->∀H',eD A H H'->QV P l.toArray (dV l i) (FL l rs D F l.length) H' (rs.getD i .any))
def AA(hi:i<l.length):l[i]?=some (dV l i):=by simp[dV,hi]
def sd(P:U6)(l:List Oper):UZ->Prop
 |[]=>True
 |i::E=>(match (dV l i).op with|.alloc t=>(dM P t).isSome=true|_=>False)/\(dV l i).guard=none/\sd P l E
theorem zB{P:U6}{l:List Oper}:∀{E:UZ},sd P l E->∀i∈E,∃t zs,(dV l i).op=.alloc t/\dM P t=some zs/\(dV l i).guard=none
 |[],_,i,hi=>by simp at hi
 |j::E,h,i,hi=>by
  obtain⟨h1,h2,h3⟩:=h;rcases List.mem_cons.1 hi with rfl|hi
  ·split at h1
   ·rename_i t e;obtain⟨zs,hz⟩:=Option.isSome_iff_exists.1 h1;exact⟨t,zs,e,hz,h2⟩
   ·exact h1.elim
  ·exact zB h3 i hi
def Ce(A:AS)(P:U6)(l:List Oper)(E:UZ):Prop:=sd P l E/\∀i∈E,uj A (dV l i)=false/\oW A (dV l i)=false
def L6{P:U6}{E:UZ}(h:Ce A P l E)(hi:i∈E):lf A l i=true/\nJ A (dV l i)=true:=by obtain⟨t,zs,e,_,hg⟩:=zB h.1 i hi;simp[lf,nC,nJ,e,hg,du,nS,qd,(h.2 i hi).1]
def Hid(P:U6)(l:List Oper)(L:U5)(done:UZ)(rs:UU)(w0 w:NW)(β:Nat->Nat):Prop:=∀i,L i=true->i ∉ done->
 (∃t cur,(dV l i).op=.alloc t/\dM P t=some cur.toList/\rs.getD i .any=.raw (.pointer (some ⟨β i,0,none⟩))/\w.heap[β i]?=some (.cells cur t (0,0))/\w.O (β i)/\w0.heap.size<=β i/\β i<w.heap.size/\∀j m t s,w.nm j m≠some (.at (β i) t s))/\∀j,L j=true->j ∉ done->β i=β j->i=j
def Hid.ext{P:U6}{L:U5}{rs:UU}{w0 w w':NW}{β:Nat->Nat}{H:Hp}(h:Hid P l L done rs w0 w β)(e:Ext w H w' H'):Hid P l L done rs w0 w' β:=fun i h1 h2=>by obtain⟨⟨t,cur,a1,a2,a3,a4,a5,a6,a7,a8⟩,b⟩:=h i h1 h2;obtain⟨e1,e2,e3⟩:=e.rest (β i) a7 a5 a8;exact⟨⟨t,cur,a1,a2,a3,e1.trans a4,e2,a6,Nat.lt_of_lt_of_le a7 e.size,e3⟩,b⟩
def UN{w:NW}{H:Hp}(r:aL w H){b:Nat}{cur:U3}(hi:H.get i=none)(hb:w.heap[b]?=some (.cells cur t (0,0)))(hO:w.O b)(D':b<w.heap.size)(Vj:∀j m t s,w.nm j m≠some (.at b t s)) :
  aL (w.name i 0 (.at b cur.size 0)) (H.put i (.var t (cur.toList.map .raw)))/\Keep rD w (w.name i 0 (.at b cur.size 0))/\ay (w.name i 0 (.at b cur.size 0)) (.pt i 0 0 0) (.pointer (some ⟨b,0,none⟩)):=by
 have VW:∀j n,(w.name i 0 (.at b cur.size 0)).nm j n=if j=i/\n=0 then some (Rz.at b cur.size 0)else w.nm j n:=fun _ _=>rfl
 have kp:Keep rD w (w.name i 0 (.at b cur.size 0)):=⟨Nat.le_refl _,fun _ _ h=>⟨rfl,h⟩,fun j n z _ h=>by
  rw[VW,if_neg]
  ·exact h
  ·rintro⟨rfl,rfl⟩;rw[r.none hi]at h;cases h⟩
 refine⟨{ rows:=fun j s hj=>?_,dn:=fun j n z hz=>?_,inj:=fun j n j' n' b' t1 s1 t2 s2 h1 h2=>?_,own:=fun j n b' t1 s1 h=>?_,fin:=r.fin,bS:=r.bS.aW kp },kp,?_⟩
 ·rw[Hp.bn]at hj;split at hj
  ·rename_i e;subst e;cases hj;refine⟨trivial,.at b cur.size 0,by rw[VW];exact if_pos ⟨rfl,rfl⟩,rfl,cur,hb,⟨rfl,by show(cur.toList.map AV.raw).length<=_;simp⟩,fun k a v ha hv=>?_⟩;have ha:(cur.toList.map AV.raw)[k]?=some a:=ha;simp only[List.getElem?_map,Array.getElem?_toList,hv,Option.map_some,Option.some.injEq]at ha;subst ha;exact .raw _
  ·rename_i e;obtain⟨h1,z,h2,h3⟩:=r.rows j s hj;refine⟨h1,z,by rw[VW,if_neg (fun h=>e h.1)];exact h2,?_⟩;cases z with
   |nil=>exact h3
   |«at» b' t' st=> obtain⟨g1,WC,g2,g3,g5⟩:=h3;exact⟨g1,WC,g2,g3,fun k a v ha hv=>(g5 k a v ha hv).aW kp (ny a)⟩
 ·rw[VW]at hz;rw[Hp.bn];split at hz
  ·rename_i e;exact⟨_,by rw[if_pos e.1],by rw[e.2];exact Nat.zero_le _⟩
  ·obtain⟨r',h1,h2⟩:=r.dn j n z hz;have e:j≠i:=fun e=>by subst e;rw[hi]at h1;cases h1
   exact⟨r',by rw[if_neg e];exact h1,h2⟩
 ·rw[VW]at h1 h2;split at h1<;>split at h2
  ·rename_i e1 e2;rw[e1.1,e2.1]
  ·cases h1;exact(Vj _ _ _ _ h2).elim
  ·cases h2;exact(Vj _ _ _ _ h1).elim
  ·exact r.inj _ _ _ _ _ _ _ _ _ h1 h2
 ·rw[VW]at h;split at h
  ·cases h;exact hO
  ·exact r.own _ _ _ _ _ h
 ·have:=ay.pt (w:=w.name i 0 (.at b cur.size 0)) i 0 0 0 b cur.size 0 (NW.cA _ _ _ _);simpa using this
def Ml{w0 w:NW}{H0 H:Hp}(e:Ext w0 H0 w H)(r:aL w H){b sz:Nat}(hi:H.get i=none)(hb:w0.heap.size<=b)(hB:H'.B=H.B):Ext w0 H0 (w.name i 0 (.at b sz 0)) H':={
 size:=e.size,free:=e.free
 names:=fun j n z hq h=>by
  have:=e.names j n z hq h;show(if j=i/\n=0 then _ else _)=_;rw[if_neg]
  ·exact this
  ·rintro⟨rfl,rfl⟩;rw[r.none hi]at this;cases this
 os:=e.os,tape:=e.tape,output:=e.output
 rest:=fun c hc hO Vj=>by
  obtain⟨e1,e2,e3⟩:=e.rest c hc hO Vj;refine⟨e1,e2,fun j n t s h=>?_⟩;have h:(if j=i/\n=0 then some (Rz.at b sz 0)else w.nm j n)=some (.at c t s):=h;split at h
  ·cases h;omega
  ·exact e3 _ _ _ _ h
 base:=hB.trans e.base }
theorem Gm{os:List Oper}{rs F:UU}{L:U5}{i:Nat}{r:AV}:∀(m:Nat) (s:Nat) (a:AV),(FL os (rs.set i r) L F m)[s]?=some a->(FL os rs L F m)[s]?=some a\/(a=r/\(FL os rs L F m)[s]?=some (rs.getD i .any)/\i<rs.length)
 |0=>fun s a h=>.inl h
 |m+1=>fun s a h=>by
  have ih:=Gm (os:=os) (rs:=rs) (F:=F) (L:=L) (i:=i) (r:=r) m;have hl:(FL os (rs.set i r) L F m).length=(FL os rs L F m).length:=by rw[lP,lP]
  unfold FL at h ⊢;cases hL:L m with
  |false=>simp only[hL,Bool.false_eq_true,if_false]at h ⊢;exact ih s a h
  |true=>
   simp only[hL,if_true]at h ⊢;cases hd:(os[m]?).bind (·.dst)with
   |none=>rw[hd]at h;exact ih s a h
   |some d=>
    rw[hd]at h;simp only[cQ]at h ⊢;rw[List.getElem?_set]at h ⊢;by_cases e:d=s
    ·subst e;simp only[if_true]at h ⊢;rw[hl]at h;split at h
     ·rename_i D';rw[if_pos D'];simp only[Option.some.injEq]at h;by_cases hm:i=m
      ·subst hm;by_cases hi:i<rs.length
       ·refine .inr ⟨?_,rfl,hi⟩;rw[<-h];simp[hi]
       ·refine .inl ?_;rw[<-h];simp[hi,List.getElem?_set]
      ·refine .inl ?_;rw[<-h];simp[List.getElem?_set,hm]
     ·cases h
    ·simp only[if_neg e]at h ⊢;exact ih s a h
section
variable {A:AS}{E:UZ}{l:List Oper}{K:UQ}{F:UU}(hok:uT l=true)(hE:Ce A P l E)
include hok
variable{done:UZ}{i:Nat}
theorem AL(hi:i<l.length)(hd:oy l (mem done))(hp:∀k∈(kJ l).getD i [],k∈done):oy l (mem (i::done)):=fun j o ho hj e he hb=>by
 rw[l7]at hj ⊢;rcases List.mem_cons.1 hj with rfl|hj
 ·exact List.mem_cons_of_mem _ (hp _ (zr ho he hb))
 ·exact List.mem_cons_of_mem _ (l7.1 (hd j o ho (l7.2 hj) e he hb))
include hE
theorem Bp:∀(rest:UZ) {L:U5} {done:UZ} {rs:UU},Inv A E P l K F L done rest rs H->
  ∃done' Wq Wb,Inv A E P l K F L done' Wq Wb H/\(∀i r,Wq=i::r->lf A l i=true)/\FL l Wb L F l.length=FL l rs L F l.length/\Wq.length<=rest.length/\(∀w0 w β,Hid P l L done rs w0 w β->Hid P l L done' Wb w0 w β)
 |[],L,done,rs,h=>⟨done,[],rs,h,(fun i r e=>by cases e),rfl,Nat.le_refl _,fun _ _ _ h=>h⟩
 |i::rest,L,done,rs,h=>by
  obtain⟨D',Vf⟩:=wL hok;cases he:lf A l i with
  |true=>exact⟨done,i::rest,rs,h,fun j r e=>by cases e;exact he,rfl,Nat.le_refl _,fun _ _ _ h=>h⟩
  |false=>
   obtain⟨hp,hni,Wz,_,h5⟩:=uW h.ord;have ho:=AA Wz;have hw:=h.walk;rw[List.map_cons]at hw;rcases EO hw with⟨hx,_⟩|⟨_,r,q1,q2,q2',q3⟩
   ·unfold lf at he;rw[he]at hx;cases hx
   have Y7:mem done i=false:=by rw[<-Bool.not_eq_true,l7];exact hni
   have hLi:L i=false:=by
    cases e:L i with
    |false=>rfl
    |true=>
     rcases h.sub i e with h6|h6
     ·exact(hni h6).elim
     ·rw[(L6 (A:=A) hE h6).1]at he;cases he
   have Wl:∀e∈(dV l i).after.toList,Region.binds .any e=true->mem done e.on=true:=fun e he hb=>l7.2 (hp _ (zr ho he hb))
   have Va:∀D:U5,(∀k,D k=true->k∈done)->FL l (rs.set i r) D F l.length=FL l rs D F l.length:=fun D hD=>ry (by
    cases e:D i with
    |false=>rfl
    |true=>exact(hni (hD i e)).elim) _
   have Vs:(rs.set i r).getD i .any=r:=by simp[h.len,Wz]
   have Wg:∀j,j≠i->(rs.set i r).getD j .any=rs.getD j .any:=fun j hj=>by simp[List.getElem?_set,Ne.symm hj]
   have Yg:=vQ (rs:=rs.set i r) (F:=F) D' Vf h.la ho Y7 Wl Vs (L2:=mem (i::done)) (fun k=>by rw[show mem (i::done) k=(fun k=>mem (i::done) k) k from rfl,Bu]);rw[Va _ (fun k hk=>l7.1 hk)]at Yg;have hinv:Inv A E P l K F L (i::done) rest (rs.set i r) H:=by
    refine⟨by simpa using h.len,fun k hk=>(h.sub k hk).imp_left (List.mem_cons_of_mem _),h.eW,AL hok Wz h.la hp,h5,by rw[<-Yg];exact q3,fun j hj W3=>?_⟩;rcases List.mem_cons.1 hj with rfl|hj
    ·exact⟨he,Wz,mem done,h.la,Y7,fun k hk=>List.mem_cons_of_mem _ (l7.1 hk),Wl,by rw[Va _ (fun k hk=>l7.1 hk),Vs];exact q1,fun hd H'=>by rw[Va _ (fun k hk=>l7.1 hk),Vs];exact q2 hd H',fun hd H' Vd=>by rw[Va _ (fun k hk=>l7.1 hk),Vs];exact q2' hd H' Vd⟩
    ·obtain⟨w1,w2,D,w3,w4,w5,w6,w7,w8,w9⟩:=h.wait j hj W3;have WW:j≠i:=fun e=>hni (e ▸ hj)
     exact⟨w1,w2,D,w3,w4,fun k hk=>List.mem_cons_of_mem _ (w5 k hk),w6,by rw[Va _ w5,Wg j WW];exact w7,fun hd H'=>by rw[Va _ w5,Wg j WW];exact w8 hd H',fun hd H' Vd=>by rw[Va _ w5,Wg j WW];exact w9 hd H' Vd⟩
   obtain⟨d',r',Wb,g1,g2,g3,g4,g5⟩:=Bp rest hinv;refine⟨d',r',Wb,g1,g2,by rw[g3,ry hLi],by simp;omega,fun w0 w β hh=>g5 w0 w β fun k VA Vk=>?_⟩;have WJ:k≠i:=fun e=>Vk (by simp[e])
   obtain⟨a,b⟩:=hh k VA fun Yh=>Vk (List.mem_cons_of_mem _ Yh)
   rw[Wg k WJ];exact⟨a,fun j YN XI=>b j YN fun hj3=>XI (List.mem_cons_of_mem _ hj3)⟩
variable{L:U5}{rest:UZ}
theorem FC{L2:U5}{rs:UU}{r:AV}{H':Hp}(h:Inv A E P l K F L done (i::rest) rs H)(Yz:lf A l i=true)(Xo:∀k,L2 k=(L k || k == i))(Yi:nJ A (dV l i)=true->eD A H H')
  (VH:∀k∈(kJ l).getD i [],L k=true):∀j∈i::done,L2 j=false->lf A l j=false/\j<l.length/\∃D,oy l D/\D j=false/\(∀k,D k=true->k∈i::done)/\(∀e∈(dV l j).after.toList,Region.binds .any e=true->D e.on=true)/\
  QV P l.toArray (dV l j) (FL l (rs.set i r) D F l.length) H' ((rs.set i r).getD j .any)/\(oP (dV l j)=false->∀V2,QV P l.toArray (dV l j) (FL l (rs.set i r) D F l.length) V2 ((rs.set i r).getD j .any))/\(pF (dV l j)=true->∀V2,eD A H' V2->QV P l.toArray (dV l j) (FL l (rs.set i r) D F l.length) V2 ((rs.set i r).getD j .any)):=by
 intro j hj W3;obtain⟨hp,Wg,Xt,h4,h5⟩:=uW h.ord;have Va:∀D:U5,(∀k,D k=true->k∈done)->FL l (rs.set i r) D F l.length=FL l rs D F l.length:=fun D hD=>ry (by
  cases e:D i with
  |false=>rfl
  |true=>exact(Wg (hD i e)).elim) _
 have hgn:∀j,j≠i->(rs.set i r).getD j .any=rs.getD j .any:=fun j hj=>by simp[List.getElem?_set,Ne.symm hj]
 rw[Xo]at W3;obtain⟨W3,WW⟩:=Bool.or_eq_false_iff.1 W3;have WW:j≠i:=by simpa using WW
 have hj:j∈done:=by rcases List.mem_cons.1 hj with e|h;exact(WW e).elim;exact h
 obtain⟨w1,w2,D,w3,w4,w5,w6,w7,w8,w9⟩:=h.wait j hj W3;have ha9:QV P l.toArray (dV l j) (FL l rs D F l.length) H' (rs.getD j .any):=by
  rcases(h4 Yz).2 j hj with h6|h6|h6|h6
  ·rw[w1]at h6;cases h6
  ·exact w8 h6 H'
  ·have:=VH j h6;rw[W3]at this;cases this
  ·exact w9 h6.2 H' (Yi h6.1)
 refine⟨w1,w2,D,w3,w4,fun k hk=>List.mem_cons_of_mem _ (w5 k hk),w6,by rw[Va _ w5,hgn j WW];exact ha9,fun hd V2=>by rw[Va _ w5,hgn j WW];exact w8 hd V2,fun hd V2 Vd=>?_⟩;rw[Va _ w5,hgn j WW];rcases(h4 Yz).2 j hj with h6|h6|h6|h6
 ·rw[w1]at h6;cases h6
 ·exact w8 h6 V2
 ·have:=VH j h6;rw[W3]at this;cases this
 ·exact w9 h6.2 V2 ((Yi h6.1).trans Vd)
theorem Gi{w0:NW}{H0:Hp}:∀(n:Nat) {L:U5} {done rest:UZ} {rs:UU} {H:Hp} {w:NW} {tm:U3} {β:Nat->Nat},rest.length<=n->Inv A E P l K F L done rest rs H->aL w H->bu w (FL l rs L F l.length) tm->Ext w0 H0 w H->Hid P l L done rs w0 w β->
  ∃done' Wq Wb H' w',NW.toWorld w'=w.toWorld/\Inv A E P l K F L done' Wq Wb H'/\(∀i r,Wq=i::r->lf A l i=true/\L i=false)/\aL w' H'/\bu w' (FL l Wb L F l.length) tm/\Ext w0 H0 w' H'/\Hid P l L done' Wb w0 w' β
 |n,L,done,rest,rs,H,w,tm,β,hn,h,h1,h2,h3,h4=>by
  obtain⟨D',Vf⟩:=wL hok;obtain⟨d',r',Wb,g1,g2,g3,g4,g5⟩:=Bp hok hE rest h;have g5:=g5 _ _ _ h4;rw[<-g3]at h2;cases r' with
  |nil=>exact⟨d',[],Wb,H,w,rfl,g1,(fun i r e=>by cases e),h1,h2,h3,g5⟩
  |cons i r=>
   have Yz:=g2 i r rfl;cases hLi:L i with
   |false=>exact⟨d',i::r,Wb,H,w,rfl,g1,(fun j q e=>by cases e;exact⟨Yz,hLi⟩),h1,h2,h3,g5⟩
   |true=>
    obtain⟨hp,Wg,Xt,c4,c5⟩:=uW g1.ord;obtain⟨⟨t,cur,a1,a2,a3,a4,a5,a6,a7,a8⟩,a9⟩:=g5 i hLi Wg;have hiE:i∈E:=(g1.sub i hLi).resolve_left Wg;have Y6:(dV l i).guard=none:=by obtain⟨_,_,_,_,hg⟩:=zB hE.1 i hiE;exact hg
    have hw:=g1.walk;rw[List.map_cons]at hw;unfold fM at hw;rw[Y6]at hw;simp only at hw;rw[if_neg (by rw[(hE.2 i hiE).1];exact Bool.false_ne_true),if_neg (by rw[(hE.2 i hiE).2];exact Bool.false_ne_true)]at hw;obtain⟨_,hw⟩:=hw;rw[a1,AT (by simp[nS]) (by simp[qd])]at hw;simp only[vc,nX,a2]at hw;obtain⟨id,hid,hv⟩:=hw;have ho:=AA Xt;obtain⟨k1,k2,k3⟩:=UN h1 hid a4 a5 a7 a8;have Y7:mem d' i=false:=by rw[<-Bool.not_eq_true,l7];exact Wg
    have Wx:∀e∈(dV l i).after.toList,Region.binds .any e=true->mem d' e.on=true:=fun e he hb=>l7.2 (hp _ (zr ho he hb))
    have Vs:(Wb.set i (.pt id 0 0 0)).getD i .any=.pt id 0 0 0:=by simp[g1.len,Xt]
    have Va:∀D:U5,(∀k,D k=true->k∈d')->FL l (Wb.set i (.pt id 0 0 0)) D F l.length=FL l Wb D F l.length:=fun D hD=>ry (by
     cases e:D i with
     |false=>rfl
     |true=>exact(Wg (hD i e)).elim) _
    have V9:=vQ (rs:=Wb.set i (.pt id 0 0 0)) (F:=F) D' Vf g1.la ho Y7 Wx Vs (L2:=mem (i::d')) (fun k=>by rw[show mem (i::d') k=(fun k=>mem (i::d') k) k from rfl,Bu]);rw[Va _ (fun k hk=>l7.1 hk)]at V9;have VH:∀k∈(kJ l).getD i [],L k=true:=vS g1.eW D' (i+1) i jB _ ho fun e he hb=>g1.eW i _ ho hLi e he hb
    have hinv:Inv A E P l K F L (i::d') r (Wb.set i (.pt id 0 0 0)) (H.put id (.var t (cur.toList.map .raw))):=
     ⟨by simpa using g1.len,fun k hk=>(g1.sub k hk).imp_left (List.mem_cons_of_mem _),g1.eW,AL hok Xt g1.la hp,c5,by rw[<-V9];exact hv,
      FC hok hE g1 Yz (fun k=>by
       by_cases e:k=i
       ·subst e;simp[hLi]
       ·simp[e]) (fun _=>eD.put hid) VH⟩
    have Vt:bu (w.name id 0 (.at (β i) cur.size 0)) (FL l (Wb.set i (.pt id 0 0 0)) L F l.length) tm:=by
     refine⟨by rw[lP];have:=h2.1;rw[lP]at this;exact this,fun s a v ha Vp=>?_⟩;rcases Gm l.length s a ha with h6|⟨rfl,h6,_⟩
     ·exact(h2.2 s a v h6 Vp).aW k2 (ny a)
     ·have:=h2.2 s _ v h6 Vp;rw[a3]at this;have:=di this;subst this;exact k3
    have ZG:Hid P l L (i::d') (Wb.set i (.pt id 0 0 0)) w0 (w.name id 0 (.at (β i) cur.size 0)) β:=fun k VA Vk=>by
     have WJ:k≠i:=fun e=>Vk (by simp[e])
     have Yh:k ∉ d':=fun e=>Vk (List.mem_cons_of_mem _ e)
     obtain⟨⟨t',WC,b1,b2,b3,b4,b5,b6,b7,b8⟩,b9⟩:=g5 k VA Yh;refine⟨⟨t',WC,b1,b2,by rw[<-b3];simp[List.getElem?_set,Ne.symm WJ],b4,b5,b6,b7,fun j m t1 s1 hh=>?_⟩,fun j YN XI=>b9 j YN fun e=>XI (List.mem_cons_of_mem _ e)⟩;have hh:(if j=id/\m=0 then some (Rz.at (β i) cur.size 0)else w.nm j m)=some (.at (β k) t1 s1):=hh;split at hh
     ·simp only[Option.some.injEq,Rz.at.injEq]at hh;exact WJ (a9 k VA Yh hh.1).symm
     ·exact b8 _ _ _ _ hh
    simp only[List.length_cons]at g4;obtain⟨n,rfl⟩:∃k,n=k+1:=⟨n-1,jB⟩;obtain⟨d2,r2,rs2,H2,w2,x1,x2,x3,x4,x5,x6,x7⟩:=Gi n jB hinv k1 Vt (Ml h3 h1 hid a6 rfl) ZG;exact⟨d2,r2,rs2,H2,w2,x1,x2,x3,x4,x5,x6,x7⟩
theorem PN{rs:UU}(h:Inv A E P l K F L done rest rs H)(hs:∀i r,rest=i::r->lf A l i=true/\L i=false){o:Oper}(ho:l[i]?=some o)(hi:L i=false)(Wl:∀e∈o.after.toList,Region.binds .any e=true->L e.on=true)
  {L2:U5} (Xo:∀k,L2 k=(L k || k == i)) (hnE:i∈done\/i ∉ E\/∃r,rest=i::r) :
  nq P l.toArray o (FL l rs L F l.length) H fun G' H'=>∃done' Wq Wb,Inv A E P l K F L2 done' Wq Wb H'/\G'=FL l Wb L2 F l.length/\∀w0 w β,Hid P l L done rs w0 w β->Hid P l L2 done' Wb w0 w β:=by
 obtain⟨D',Vf⟩:=wL hok;have Wz:=(List.getElem?_eq_some_iff.1 ho).1;obtain rfl:o=dV l i:=by have:=(AA Wz).symm.trans ho;cases this;rfl
 have Yj:oy l L2:=fun j o' hj W3 e he hb=>by
  rw[Xo]at W3 ⊢;rcases Bool.or_eq_true_iff.1 W3 with h6|h6
  ·rw[h.eW j o' hj h6 e he hb];rfl
  ·obtain rfl:j=i:=by simpa using h6
   rw[ho]at hj;cases hj;rw[Wl e he hb];rfl
 by_cases hd:i∈done
 ·obtain⟨w1,w2,D,w3,w4,w5,w6,w7,w8,w9⟩:=h.wait i hd hi;refine(w7 _ (HA D' Vf w3 h.eW ho w4 hi w6 Wl)).mono ?_;rintro G' H' ⟨rfl,rfl⟩;refine⟨done,rest,rs,⟨h.len,fun k hk=>?_,Yj,h.la,h.ord,h.walk,fun j hj W3=>h.wait j hj ?_⟩,vQ D' Vf h.eW ho hi Wl rfl Xo,fun w0 w β hh k VA Vk=>?_⟩
  ·rw[Xo]at hk;rcases Bool.or_eq_true_iff.1 hk with h6|h6
   ·exact h.sub k h6
   ·obtain rfl:k=i:=by simpa using h6
    exact .inl hd
  ·rw[Xo]at W3;exact(Bool.or_eq_false_iff.1 W3).1
  ·have Zu:∀k,L2 k=true->k ∉ done->L k=true:=fun k h1 h2=>by
    rw[Xo]at h1;rcases Bool.or_eq_true_iff.1 h1 with h6|h6
    ·exact h6
    ·obtain rfl:k=i:=by simpa using h6
     exact(h2 hd).elim
   obtain⟨a,b⟩:=hh k (Zu k VA Vk) Vk;exact⟨a,fun j YN XI=>b j (Zu j YN XI) XI⟩
 ·-- the next effect
  have Vr:i∈rest:=(Bx h.ord i Wz).resolve_left hd;obtain⟨e,Wq,rfl⟩:∃e r,rest=e::r:=by cases rest with|nil=>simp at Vr|cons e r=>exact⟨e,r,rfl⟩
  obtain⟨Yz,hLe⟩:=hs e Wq rfl;obtain⟨hp,Wg,Xt,h4,h5⟩:=uW h.ord;have VH:=vS h.eW D' (i+1) i jB _ ho Wl;obtain rfl:i=e:=by
   rcases List.mem_cons.1 Vr with h|hr
   ·exact h
   ·rcases(h4 Yz).1 i hr with h6|h6
    ·have:=VH e h6;rw[hLe]at this;cases this
    ·rcases hnE with h7|h7|⟨r,h7⟩
     ·exact(hd h7).elim
     ·exact(h7 h6).elim
     ·cases h7;rfl
  have Y7:mem done i=false:=by rw[<-Bool.not_eq_true,l7];exact Wg
  have Wx:∀e∈(dV l i).after.toList,Region.binds .any e=true->mem done e.on=true:=fun e he hb=>l7.2 (hp _ (zr ho he hb))
  have hw:=h.walk;rw[List.map_cons]at hw;obtain⟨_,hx⟩:=(EO hw).resolve_right fun⟨hx,_⟩=>by unfold lf at Yz;rw[Yz]at hx;cases hx
  refine(hx _ (HA D' Vf h.la h.eW ho Y7 hi Wx Wl)).mono ?_;rintro G' H' ⟨Yi,r,rfl,hv⟩;have Va:∀D:U5,(∀k,D k=true->k∈done)->FL l (rs.set i r) D F l.length=FL l rs D F l.length:=fun D hD=>ry (by
   cases e:D i with
   |false=>rfl
   |true=>exact(Wg (hD i e)).elim) _
  have Vs:(rs.set i r).getD i .any=r:=by simp[h.len,Wz]
  have V9:=vQ (rs:=rs.set i r) (F:=F) D' Vf h.la ho Y7 Wx Vs (L2:=mem (i::done)) (fun k=>by rw[show mem (i::done) k=(fun k=>mem (i::done) k) k from rfl,Bu]);rw[Va _ (fun k hk=>l7.1 hk)]at V9;have Xb:=vQ (rs:=rs.set i r) (F:=F) D' Vf h.eW ho hi Wl Vs Xo;rw[ry hi]at Xb;refine⟨i::done,Wq,rs.set i r,⟨by simpa using h.len,fun k hk=>?_,Yj,AL hok Wz h.la hp,h5,by rw[<-V9];exact hv,FC hok hE h Yz Xo Yi VH⟩,Xb,fun w0 w β hh k VA Vk=>?_⟩
  ·rw[Xo]at hk;rcases Bool.or_eq_true_iff.1 hk with h6|h6
   ·exact(h.sub k h6).imp_left (List.mem_cons_of_mem _)
   ·obtain rfl:k=i:=by simpa using h6
    simp
  ·have Zu:∀k,L2 k=true->k ∉ i::done->L k=true/\k ∉ done/\k≠i:=fun k h1 h2=>by
    rw[Xo]at h1;simp only[List.mem_cons,not_or]at h2;rcases Bool.or_eq_true_iff.1 h1 with h6|h6
    ·exact⟨h6,h2.2,h2.1⟩
    ·exact(h2.1 (by simpa using h6)).elim
   obtain⟨y1,y2,y3⟩:=Zu k VA Vk;obtain⟨⟨t,cur,b1,b2,b3,b4⟩,b⟩:=hh k y1 y2;exact⟨⟨t,cur,b1,b2,by rw[<-b3];simp[List.getElem?_set,Ne.symm y3],b4⟩,fun j YN XI=>b j (Zu j YN XI).1 (Zu j YN XI).2.1⟩
theorem K2{rs:UU}(h:Inv A E P l K F L done rest rs H){o:Oper}(ho:l[i]?=some o)(hi:L i=false)(hd:i ∉ done)(hiE:i∈E)(Wl:∀e∈o.after.toList,Region.binds .any e=true->L e.on=true)
  {L2:U5} (Xo:∀k,L2 k=(L k || k == i)) {w0 w:NW} {H0:Hp} {tm:U3} {β:Nat->Nat} (h1:aL w H) (h2:bu w (FL l rs L F l.length) tm) (h3:Ext w0 H0 w H) (h4:Hid P l L done rs w0 w β) {Q:Exit->Act->World->Prop} {next:Act->World->Prop}
  (hn:∀VQ w' Wb β',Inv A E P l K F L2 done rest Wb H->aL w' H->bu w' (FL l Wb L2 F l.length) VQ->Ext w0 H0 w' H->Hid P l L2 done Wb w0 w' β'->next ⟨VQ,[]⟩ w'.toWorld):tL P l.toArray Q o next ⟨tm,[]⟩ w.toWorld:=by
 obtain⟨D',Vf⟩:=wL hok;have Wz:=(List.getElem?_eq_some_iff.1 ho).1;obtain rfl:o=dV l i:=by have:=(AA Wz).symm.trans ho;cases this;rfl
 obtain⟨t,zs,e1,e2,e3⟩:=zB hE.1 i hiE;obtain⟨z,B',rfl⟩:=zW (w:=w.toWorld) e2;have Yj:oy l L2:=fun j o' hj W3 e he hb=>by
  rw[Xo]at W3 ⊢;rcases Bool.or_eq_true_iff.1 W3 with h6|h6
  ·rw[h.eW j o' hj h6 e he hb];rfl
  ·obtain rfl:j=i:=by simpa using h6
   rw[ho]at hj;cases hj;rw[Wl e he hb];rfl
 have Vs:(rs.set i (.raw (.pointer (some ⟨w.heap.size,0,none⟩)))).getD i .any=.raw (.pointer (some ⟨w.heap.size,0,none⟩)):=by simp[h.len,Wz]
 have Wg:∀j,j≠i->∀r:AV,(rs.set i r).getD j .any=rs.getD j .any:=fun j hj r=>by simp[List.getElem?_set,Ne.symm hj]
 have Va:∀(r:AV) (D:U5),(∀k,D k=true->k∈done)->FL l (rs.set i r) D F l.length=FL l rs D F l.length:=fun r D hD=>ry (by
  cases e:D i with
  |false=>rfl
  |true=>exact(hd (hD i e)).elim) _
 have Xb:=vQ (rs:=rs.set i (.raw (.pointer (some ⟨w.heap.size,0,none⟩)))) (F:=F) D' Vf h.eW ho hi Wl Vs Xo;rw[ry hi]at Xb;have ex:Ext w H ((w.to (w.alloc (.cells z.cells t))).gp w.heap.size) H:={
  size:=by show w.heap.size<=(w.alloc _).heap.size;simp
  free:=fun b hb hn=>⟨RowKit.Below.heap_alloc w.toWorld _ b hb,fun h=>by
   rcases h with h|h
   ·omega
   ·exact hn h⟩
  names:=fun _ _ _ _ h=>h
  os:=rfl,tape:=rfl,output:=rfl
  rest:=fun b hb hO Vj=>⟨RowKit.Below.heap_alloc w.toWorld _ b hb,.inr hO,Vj⟩
  base:=rfl }
 have hW:aL ((w.to (w.alloc (.cells z.cells t))).gp w.heap.size) H:={
  rows:=fun j row hj=>by obtain⟨g1,y,g2,g3⟩:=h1.rows j row hj;refine⟨g1,y,g2,g3.ext ex fun b t' s e=>?_⟩;subst e;exact RowKit.Below.heap_alloc w.toWorld _ b (h1.lt g2)
  dn:=h1.dn,inj:=h1.inj,bS:=h1.bS.aW ex.toKeep
  own:=fun j n b t' s hh=>.inr (h1.own j n b t' s hh)
  fin:=fun b hb=>by
   show b<(w.alloc _).heap.size;rcases hb with hh|hh
   ·subst hh;simp
   ·have:=h1.fin b hh;simp;omega }
 have Zu:∀k,L2 k=true->k≠i->L k=true:=fun k h1 h2=>by rw[Xo]at h1;exact(Bool.or_eq_true_iff.1 h1).resolve_right (by simpa using h2)
 unfold tL;rw[if_pos (by simp[Region.wanted,e3])];refine .inl ?_;have hex:(execOp (Act.mk tm []).eval (dV l i)).run P w.toWorld=.ok (.value (.pointer (some ⟨w.heap.size,0,none⟩))) (w.alloc (.cells z.cells t)):=by
  have:∀(o:Oper),o.op=.alloc t->(execOp (Act.mk tm []).eval o).run P w.toWorld=.ok (.value (.pointer (some ⟨w.heap.size,0,none⟩))) (w.alloc (.cells z.cells t)):=fun o ho=>by obtain⟨dst,op,ty,pos,after,guard⟩:=o;simp only at ho;subst ho;simp only[execOp,Sem.run_bind,Instr.alloc,B',Result.andThen_ok,newVar,newRow];simp
  exact this _ e1
 simp only[Oper.wp,hex,Oper.upon];rw[Act.put_eq];refine hn _ ((w.to (w.alloc (.cells z.cells t))).gp w.heap.size) (rs.set i (.raw (.pointer (some ⟨w.heap.size,0,none⟩)))) (fun k=>if k=i then w.heap.size else β k) ⟨by simpa using h.len,fun k hk=>?_,Yj,h.la,h.ord,by rw[Va _ _ (fun k hk=>l7.1 hk)];exact h.walk,fun j hj W3=>?_⟩ hW ?_ (h3.trans ex) ?_
 ·rw[Xo]at hk;rcases Bool.or_eq_true_iff.1 hk with h6|h6
  ·exact h.sub k h6
  ·obtain rfl:k=i:=by simpa using h6
   exact .inr hiE
 ·rw[Xo]at W3;obtain⟨w1,w2,D,w3,w4,w5,w6,w7,w8,w9⟩:=h.wait j hj (Bool.or_eq_false_iff.1 W3).1;have WW:j≠i:=fun e=>hd (e ▸ hj)
  exact⟨w1,w2,D,w3,w4,w5,w6,by rw[Va _ _ w5,Wg j WW];exact w7,fun hd H'=>by rw[Va _ _ w5,Wg j WW];exact w8 hd H',fun hd H' Vd=>by rw[Va _ _ w5,Wg j WW];exact w9 hd H' Vd⟩
 ·rw[<-Xb];exact(h2.ext ex).put _ (.raw _) []
 ·intro k VA Vk;by_cases WJ:k=i
  ·subst WJ;refine⟨⟨t,z.cells,e1,e2,by simp only[if_true];exact Vs,by simp only[if_true];exact heap_alloc_new w.toWorld _,by simp only[if_true];exact .inl rfl,by simp only[if_true];exact h3.size,by simp only[if_true];show w.heap.size<(w.alloc _).heap.size;simp,fun j m t' s hh=>?_⟩,fun j YN XI e=>?_⟩
   ·simp only[if_true]at hh;have hh:w.nm j m=some (.at w.heap.size t' s):=hh;have:=h1.lt hh;omega
   ·by_cases hjk:j=k
    ·exact hjk.symm
    ·exfalso;obtain⟨⟨_,_,_,_,_,_,_,_,b7,_⟩,_⟩:=h4 j (Zu j YN hjk) XI;simp only[if_true,if_neg hjk]at e;omega
  ·obtain⟨⟨t',cur,b1,b2,b3,b4,b5,b6,b7,b8⟩,b9⟩:=h4 k (Zu k VA WJ) Vk;simp only[if_neg WJ];refine⟨⟨t',cur,b1,b2,by rw[Wg k WJ];exact b3,(RowKit.Below.heap_alloc w.toWorld _ _ b7).trans b4,.inr b5,b6,Nat.lt_of_lt_of_le b7 ex.size,b8⟩,fun j YN XI e=>?_⟩;by_cases WW:j=i
   ·subst WW;simp only[if_true]at e;omega
   ·simp only[if_neg WW]at e;exact b9 j (Zu j YN WW) XI e
theorem UP{Q:Exit->UQ}(hQ:∀F H,K F H->Q .normal F H){H0:Hp}(w0:NW) :
  ∀(fuel:Nat) (listed:Array Bool),listed.size=l.length->(List.range l.length).countP (fun i=>!listed.getD i false)=fuel->
   ∀H done rest rs (w:NW) tm β,Inv A E P l K F (fun i=>listed.getD i false) done rest rs H->(∀i r,rest=i::r->lf A l i=true/\listed.getD i false=false)->
    aL w H->bu w (FL l rs (fun i=>listed.getD i false) F l.length) tm->Ext w0 H0 w H->Hid P l (fun i=>listed.getD i false) done rs w0 w β->wpAny P .any l.toArray (ii Q w0 H0) fuel listed ⟨tm,[]⟩ w.toWorld:=by
 obtain⟨D',Vf⟩:=wL hok;have fin:∀(listed:Array Bool) H done rest rs,Inv A E P l K F (fun i=>listed.getD i false) done rest rs H->(∀i r,rest=i::r->lf A l i=true/\listed.getD i false=false)->(∀i,i<l.length->listed.getD i false=true)->∀(w:NW) tm,aL w H->bu w (FL l rs (fun i=>listed.getD i false) F l.length) tm->Ext w0 H0 w H->ii Q w0 H0 .normal ⟨tm,[]⟩ w.toWorld:=by
  intro listed H done rest rs h hs Ve w tm h1 h2 h3;obtain rfl:rest=[]:=by
   cases rest with
   |nil=>rfl
   |cons i r=> obtain⟨_,hni,Wz,_⟩:=uW h.ord;have h6:=(hs i r rfl).2;rw[Ve i Wz]at h6;cases h6
  have e:FL l rs (fun i=>listed.getD i false) F l.length=FL l rs (mem done) F l.length:=by
   have gen:∀m,m<=l.length->FL l rs (fun i=>listed.getD i false) F m=FL l rs (mem done) F m:=by
    intro m;induction m with
    |zero=>intro _;rfl
    |succ m ih=> intro hm;have h4:=Ve m jB;have h5:mem done m=true:=l7.2 ((Bx h.ord m jB).resolve_right jE);rw[FL,FL,ih jB,h4,h5]
   exact gen _ jl
  rw[e]at h2;exact⟨tm,_,H,w,rfl,rfl,hQ _ _ h.walk,h1,h2,h3.pS⟩
 intro fuel;induction fuel with
 |zero=>
  intro listed Vi Y5 H done rest rs w tm β h hs h1 h2 h3 _;have Ve:∀i,i<l.length->listed.getD i false=true:=fun i hi=>by have:=(List.countP_eq_zero.1 Y5) i (List.mem_range.2 hi);simpa using this
  refine⟨?_,fin listed H done rest rs h hs Ve w tm h1 h2 h3⟩;rw[List.eq_nil_iff_forall_not_mem];intro j hj;obtain⟨hj0,o,ho,_⟩:=mem_ready.1 hj;have X0:j<l.length:=by have:=(Array.getElem?_eq_some_iff.1 ho).1;simpa using this
  have:=Ve j X0;simp[Vi,X0]at this hj0;rw[this]at hj0;cases hj0
 |succ fuel ih=>
  intro listed Vi Y5 H done rest rs w tm β h hs h1 h2 h3 ZG;refine⟨fun haq=>?_,fun i hi=>?_⟩
  ·exfalso;have hex:∃i,i<l.length/\listed.getD i false=false:=by
    have VV:0<(List.range l.length).countP (fun i=>!listed.getD i false):=jB;obtain⟨i,hi,hp⟩:=List.countP_pos_iff.1 VV;exact⟨i,List.mem_range.1 hi,by simpa using hp⟩
   obtain⟨i,⟨hi,hf⟩,X1⟩:=exists_least hex;have ho:l[i]?=some l[i]:=List.getElem?_eq_getElem hi;have:i∈Region.ready .any l.toArray listed:=mem_ready.2 ⟨by simp[Vi,hi]at hf ⊢;exact hf,l[i],by simp[hi],fun e he hb=>by
    have h4:=D' i _ ho e (by simpa using he) hb;cases hv:listed.getD e.on false with
    |true=>rfl
    |false=>have:=X1 e.on ⟨jB,hv⟩;omega⟩
   rw[haq]at this;cases this
  ·obtain⟨XQ,o,ho,Wl⟩:=mem_ready.1 hi;have Xh:l[i]?=some o:=by simpa using ho
   have Wz:=(List.getElem?_eq_some_iff.1 Xh).1;have Yy:listed.getD i false=false:=by simp[Vi,Wz]at XQ ⊢;exact XQ
   have Wx:∀e∈o.after.toList,Region.binds .any e=true->listed.getD e.on false=true:=fun e he hb=>Wl e (by simpa using he) hb
   have Xi:∀k,(listed.setIfInBounds i true).getD k false=(listed.getD k false || k == i):=fun k=>by
    by_cases hk:k=i
    ·subst hk;simp[Vi,Wz]
    ·simp[Array.getElem?_setIfInBounds_ne (Ne.symm hk),hk]
   have haM:(List.range l.length).countP (fun k=>!(listed.setIfInBounds i true).getD k false)=fuel:=by
    have:∀(n:Nat),i<n->(List.range n).countP (fun k=>!(listed.setIfInBounds i true).getD k false)+1=(List.range n).countP (fun k=>!listed.getD k false):=by
     intro n;induction n with
     |zero=>intro h;omega
     |succ n ihn=>
      intro h;rw[List.range_succ,List.countP_append,List.countP_append];by_cases hn:n=i
      ·subst hn;have:(List.range n).countP (fun k=>!(listed.setIfInBounds n true).getD k false)=(List.range n).countP (fun k=>!listed.getD k false):=by
        refine List.countP_congr fun k hk=>?_
        rw[Xi];have:k≠n:=by have:=List.mem_range.1 hk;omega
        simp[this]
       rw[this];simp only[List.countP_singleton,Xi,Yy];simp
      ·rw[<-ihn jB];simp only[List.countP_singleton,Xi];have:(n == i)=false:=by simpa using hn
       rw[this,Bool.or_false];omega
    have:=this l.length Wz;omega
   have go:∀{d' r' Wb H'} {w':NW} {VQ} {β'},Inv A E P l K F (fun k=>(listed.setIfInBounds i true).getD k false) d' r' Wb H'->aL w' H'->bu w' (FL l Wb (fun k=>(listed.setIfInBounds i true).getD k false) F l.length) VQ->Ext w0 H0 w' H'->Hid P l (fun k=>(listed.setIfInBounds i true).getD k false) d' Wb w0 w' β'->
     wpAny P .any l.toArray (ii Q w0 H0) fuel (listed.setIfInBounds i true) ⟨VQ,[]⟩ w'.toWorld:=fun{d' r' Wb H' w' VQ β'} k1 k2 k3 k4 k5=>by
    obtain⟨d2,r2,rs2,H2,w2,x1,x2,x3,x4,x5,x6,x7⟩:=Gi hok hE r'.length jl k1 k2 k3 k4 k5;rw[<-x1];exact ih (listed.setIfInBounds i true) (by simpa using Vi) haM H2 d2 r2 rs2 w2 VQ β' x2 x3 x4 x5 x6 x7
   unfold wpOp;rw[ho];by_cases X3:i ∉ done/\i∈E/\¬ ∃r,rest=i::r
   ·have:=K2 hok hE h Xh Yy X3.1 X3.2.1 Wx (L2:=fun k=>(listed.setIfInBounds i true).getD k false) Xi h1 h2 h3 ZG (Q:=ii Q w0 H0) (next:=wpAny P .any l.toArray (ii Q w0 H0) fuel (listed.setIfInBounds i true)) fun VQ w' Wb β' k1 k2 k3 k4 k5=>go k1 k2 k3 k4 k5
    exact this
   ·have hnE:i∈done\/i ∉ E\/∃r,rest=i::r:=by
     by_cases a:i∈done
     ·exact .inl a
     ·by_cases b:i∈E
      ·exact .inr (.inr (Classical.byContradiction fun c=>X3 ⟨a,b,c⟩))
      ·exact .inr (.inl b)
    have Xa:=PN hok hE h hs Xh Yy Wx (L2:=fun k=>(listed.setIfInBounds i true).getD k false) Xi hnE;have:=Xa w tm (ii Q w0 H0) (wpAny P .any l.toArray (ii Q w0 H0) fuel (listed.setIfInBounds i true)) h1 h2 (by rintro VQ w' F' H' ⟨d',r',Wb,k1,rfl,k2⟩ g1 g2 g3;exact go k1 g1 g2 (h3.trans g3) (k2 _ _ _ (ZG.ext g3)))
    exact this
end
def A3(A:AS)(E:UZ){id:Nat}(ord:UZ){Q:Exit->UQ}(hm:P.follows .mixedOrders=true)(hok:qn A E l ord=true)(hE:sd P l E)(h:fM A P l.toArray (Q .normal) (ord.map (dV l)) F H):dL P (.region id l.toArray true) Q F H:=fun w tm h1 h2=>by
 simp only[qn,Bool.and_eq_true,List.all_eq_true,Bool.not_eq_true']at hok;obtain⟨⟨Y8,hbe⟩,hqE⟩:=hok;have hE:Ce A P l E:=⟨hE,hqE⟩;have hz:∀i,(Array.replicate l.toArray.size false).getD i false=false:=fun i=>by by_cases hi:i<l.length<;>simp[Array.getElem?_replicate,hi]
 refine wp_region_any hm ?_;have e0:∀(rs:UU) (L:U5),(∀i,L i=false)->FL l rs L F l.length=F:=fun rs L hL=>by
  have gen:∀m,FL l rs L F m=F:=by
   intro m;induction m with
   |zero=>rfl
   |succ m ih=>rw[FL,hL,if_neg jE,ih]
  exact gen _
 have hinv:Inv A E P l (Q .normal) F (fun i=>(Array.replicate l.toArray.size false).getD i false) [] ord (List.replicate l.length .any) H:=
  ⟨jE,(fun i hi=>by have:=(hz i).symm.trans hi;cases this),(fun j o _ hj=>by have:=(hz j).symm.trans hj;cases this),(fun j o _ hj=>by simp[mem]at hj),hbe,
   (by rw[e0 _ _ (fun i=>by simp[mem])];exact h),(fun i hi=>by simp at hi)⟩
 obtain⟨d',r',Wb,k1,k2,k3,_⟩:=Bp Y8 hE ord hinv;refine UP Y8 hE (fun _ _ h=>h) w l.toArray.size (Array.replicate l.toArray.size false) jE (by rw[List.countP_eq_length.2 (fun i _=>by rw[hz];rfl)];simp) H d' r' Wb (w.to w.drew) tm (fun _=>0) k1 (fun i r e=>⟨k2 i r e,hz i⟩) h1.drew (by rw[e0 _ _ hz];exact h2.ext (Ext.drew w H)) (Ext.drew w H) (fun i hi _=>by have:=(hz i).symm.trans hi;cases this)
end
variable{P:U6}{H:Hp}{id:Nat}{F:UU}{Q:Exit->UQ}
def J7(A:AS){l:List Oper}(ord:UZ)(hm:P.follows .mixedOrders=true)(hok:qn A [] l ord=true)(h:fM A P l.toArray (Q .normal) (ord.map (dV l)) F H):dL P (.region id l.toArray true) Q F H:=A3 A [] ord hm hok trivial h
def SN{l:List Oper}(ord:UZ)(hm:P.follows .mixedOrders=true)(hok:qn ([],[],[]) [] l ord=true)(h:fM ([],[],[]) P l.toArray (Q .normal) (ord.map (dV l)) F H):dL P (.region id l.toArray true) Q F H:=J7 ([],[],[]) ord hm hok h
section
variable {P:U6}{ev:U2}{H:Hp}{ty:U1}{K:UR}
@[go_sem] def j8o:(∀(x:Operand),fK P ev H ty K (.move x)=vc P ev H ty K (.move x))/\(∀(x:Operand),fK P ev H ty K (.assign x)=vc P ev H ty K (.assign x))/\(∀(c a b:Operand),fK P ev H ty K (.pick c a b)=vc P ev H ty K (.pick c a b))/\(∀(x:Operand),fK P ev H ty K (.nilCheck x)=vc P ev H ty K (.nilCheck x))/\(∀(op:UnOp) (t:U1) (x:Operand),fK P ev H ty K (.unOp op t x)=vc P ev H ty K (.unOp op t x))/\(∀(t:U1) (x:Operand),fK P ev H ty K (.load t x)=vc P ev H ty K (.load t x))/\(∀(t:U1) (x:Operand) (f:Nat),fK P ev H ty K (.fieldAddr t x f)=vc P ev H ty K (.fieldAddr t x f))/\(∀(t:U1) (x:Operand) (f:Nat),fK P ev H ty K (.field t x f)=vc P ev H ty K (.field t x f))/\(∀(t:U1) (x i:Operand),fK P ev H ty K (.indexAddr t x i)=vc P ev H ty K (.indexAddr t x i))/\(∀(t:U1) (x i:Operand),fK P ev H ty K (.index t x i)=vc P ev H ty K (.index t x i))/\(∀(x:Operand) (i:Nat),fK P ev H ty K (.extract x i)=vc P ev H ty K (.extract x i))/\(∀(t:U1) (a:Operand) (lo hi mx:Option Operand),fK P ev H ty K (.slice t a lo hi mx)=vc P ev H ty K (.slice t a lo hi mx))/\(∀(fn:Fn) (a b:Array Operand),fK P ev H ty K (.makeFunc fn a b)=vc P ev H ty K (.makeFunc fn a b))/\(∀(t:U1) (ps:Array (Nat×Operand)),fK P ev H ty K (.build t ps)=vc P ev H ty K (.build t ps))/\(∀(as:Array Operand) (ts:Array U1),fK P ev H ty K (.call ⟨.builtin .len,as,ts⟩)=vc P ev H ty K (.call ⟨.builtin .len,as,ts⟩))/\(∀(as:Array Operand) (ts:Array U1),fK P ev H ty K (.call ⟨.builtin .min,as,ts⟩)=vc P ev H ty K (.call ⟨.builtin .min,as,ts⟩)):=by and_intros<;>(intros;rfl)
@[go_sem] def j9Z:(∀(t:U1) (x y:Operand) (t':U1),fK P ev H ty K (.binOp .add t x y t')=vc P ev H ty K (.binOp .add t x y t'))/\(∀(t:U1) (x y:Operand) (t':U1),fK P ev H ty K (.binOp .sub t x y t')=vc P ev H ty K (.binOp .sub t x y t'))/\(∀(t:U1) (x y:Operand) (t':U1),fK P ev H ty K (.binOp .lss t x y t')=vc P ev H ty K (.binOp .lss t x y t'))/\(∀(t:U1) (x y:Operand) (t':U1),fK P ev H ty K (.binOp .gtr t x y t')=vc P ev H ty K (.binOp .gtr t x y t'))/\(∀(t:U1) (x y:Operand) (t':U1),fK P ev H ty K (.binOp .geq t x y t')=vc P ev H ty K (.binOp .geq t x y t')):=by and_intros<;>(intros;rfl)
@[go_sem] def j91(t:U1)(x y:Operand)(t':U1):fK P ev H ty K (.binOp .eql t x y t')=((fG P .eql t (ev x) (ev y)).1/\K (fG P .eql t (ev x) (ev y)).2 H):=by simp[fK,nS,vq]
@[go_sem] def j97(t:U1)(x y:Operand)(t':U1):fK P ev H ty K (.binOp .neq t x y t')=((fG P .neq t (ev x) (ev y)).1/\K (fG P .neq t (ev x) (ev y)).2 H):=by simp[fK,nS,vq]
@[go_sem] def j90:(∀(t:U1) (x:Operand),fK P ev H ty K (.box t x)=vc P ev H ty K (.box t x))/\(∀(t:U1),fK P ev H ty K (.alloc t)=vc P ev H ty K (.alloc t))/\(∀(t:U1) (a x:Operand),fK P ev H ty K (.store t a x)=vc P ev H ty K (.store t a x))/\(∀(t:U1) (n:Nat) (ps:Array (Nat×Operand)),fK P ev H ty K (.buildSlice t n ps)=pw P t n (ps.toList.map fun p=>(p.1,ev p.2)) fun r=>K r H)/\(∀(f:Operand) (as:Array Operand) (ts:Array U1),fK P ev H ty K (.call ⟨.value f,as,ts⟩)=vc P ev H ty K (.call ⟨.value f,as,ts⟩))/\(∀(f:Operand) (m:String) (as:Array Operand) (ts:Array U1),fK P ev H ty K (.call ⟨.invoke f m,as,ts⟩)=vc P ev H ty K (.call ⟨.invoke f m,as,ts⟩))/\(∀(t:U1) (a x:Operand),fK P ev H ty K (.call ⟨.builtin .append,#[a,x],#[t,t]⟩)=vc P ev H ty K (.call ⟨.builtin .append,#[a,x],#[t,t]⟩))/\(∀(as:Array Operand) (ts:Array U1),fK P ev H ty K (.call ⟨.builtin .copy,as,ts⟩)=vc P ev H ty K (.call ⟨.builtin .copy,as,ts⟩)):=by and_intros<;>(intros;rfl)
end
variable{C D:UZ}
@[go_sem] def j77{ev:U2}(op:Op):jn ([],C,D) ev op=true:=by cases op<;>first|rfl|(rename_i t x;simp only[jn];generalize ev x=a;cases a<;>first|rfl|simp[tM])
variable{A:AS}
@[go_sem] def j5q{ev:U2}(t:U1)(x:Operand):jn A ev (.load t x)=tM A (ev x):=(rfl)
@[go_sem] def j3j{ev:U2}(t:U1)(a x:Operand):jn A ev (.store t a x)=((A.1.isEmpty || A.2.2.contains 1000000) || DG A (ev a)):=(rfl)
@[go_sem] def j3O(A:AS)(i m k j:Nat):tM A (.pt i m k j)=(!A.1.contains i && (decide (1<=j) || !A.1.contains (i+16))):=(rfl)
@[go_sem] def j3N:(∀(A:AS) (cs:UU),tM A (.ip cs)=true)/\(∀(A:AS) (i m k j:Nat),DG A (.pt i m k j)=A.1.contains i)/\(∀{A:AS} {ev:U2} (x:Operand),jn A ev (.move x)=true)/\(∀{A:AS} {ev:U2} (x:Operand),jn A ev (.assign x)=true)/\(∀{A:AS} {ev:U2} (c a b:Operand),jn A ev (.pick c a b)=true)/\(∀{A:AS} {ev:U2} (x:Operand),jn A ev (.nilCheck x)=true)/\(∀{A:AS} {ev:U2} (op:UnOp) (t:U1) (x:Operand),jn A ev (.unOp op t x)=true)/\(∀{A:AS} {ev:U2} (op:BinOp) (t:U1) (x y:Operand) (t':U1),jn A ev (.binOp op t x y t')=true)/\(∀{A:AS} {ev:U2} (t:U1) (x:Operand) (f:Nat),jn A ev (.fieldAddr t x f)=true)/\(∀{A:AS} {ev:U2} (t:U1) (x:Operand) (f:Nat),jn A ev (.field t x f)=true)/\(∀{A:AS} {ev:U2} (t:U1) (x i:Operand),jn A ev (.indexAddr t x i)=true)/\(∀{A:AS} {ev:U2} (t:U1) (x i:Operand),jn A ev (.index t x i)=true)/\(∀{A:AS} {ev:U2} (x:Operand) (i:Nat),jn A ev (.extract x i)=true)/\(∀{A:AS} {ev:U2} (t:U1) (ps:Array (Nat×Operand)),jn A ev (.build t ps)=true)/\(∀{A:AS} {ev:U2} (c:Call),jn A ev (.call c)=true)/\(∀{A:AS} {ev:U2} (t:U1),jn A ev (.alloc t)=true):=by and_intros<;>(intros;rfl)
@[go_sem] def j76:(∀{A:AS} {ev:U2} (t:U1) (x:Operand),jn A ev (.box t x)=true)/\(∀{A:AS} {ev:U2} (t:U1) (n:Nat) (ps:Array (Nat×Operand)),jn A ev (.buildSlice t n ps)=true)/\(∀{A:AS} {P:U6} {ops:Array Oper} {K:UQ} (F:UU) (H:Hp),fM A P ops K [] F H=K F H):=by and_intros<;>(intros;rfl)
variable{L:UZ}{ops:Array Oper}{K:UQ}
@[go_sem] def j6u(dst:Option Tmp)(op:Op)(ty:U1)(pos:String)(after:Array Edge)(rest:List Oper)(F:UU)(H:Hp) :
  fM (L,[],[]) P ops K (⟨dst,op,ty,pos,after,none⟩::rest) F H=(jn (L,[],[]) (cw F) op=true/\fK P (cw F) H ty (AP (fun r H'=>fM (L,[],[]) P ops K rest (cQ F dst r) H') .mk) op):=by
 have e:uj (L,[],[]) ⟨dst,op,ty,pos,after,none⟩=false:=by cases dst<;>rfl
 have e':oW (L,[],[]) ⟨dst,op,ty,pos,after,none⟩=false:=by cases dst<;>rfl
 unfold fM;rw[show(⟨dst,op,ty,pos,after,none⟩:Oper).guard=none from rfl];simp only[e,e'];rfl
@[go_sem] def j3C(op:Op)(ty:U1)(pos:String)(after:Array Edge)(rest:List Oper)(F:UU)(H:Hp) :
  fM (L,C,D) P ops K (⟨none,op,ty,pos,after,none⟩::rest) F H=(jn (L,C,D) (cw F) op=true/\fK P (cw F) H ty (AP (fun r H'=>fM (L,C,D) P ops K rest (cQ F none r) H') .mk) op):=(rfl)
variable{t:Nat}
@[go_sem] def j3A{c:Nat}(op:Op)(ty:U1)(pos:String)(after:Array Edge)(rest:List Oper)(F:UU)(H:Hp) :
  fM (L,c::C,D) P ops K (⟨some t,op,ty,pos,after,none⟩::rest) F H=pI ((c::C).contains t) (DM P (cw F) H (vj (fun r=>fM (L,c::C,D) P ops K rest (cQ F (some t) r) H) .mk) op)
   (pI (D.contains t) (sW P (L,c::C,D) (cw F) H (AP (fun r H'=>fM (L,c::C,D) P ops K rest (cQ F (some t) r) H') .mk) op) (jn (L,c::C,D) (cw F) op=true/\fK P (cw F) H ty (AP (fun r H'=>fM (L,c::C,D) P ops K rest (cQ F (some t) r) H') .mk) op) .mk .mk) .mk .mk:=(rfl)
@[go_sem] def j3B{c:Nat}(op:Op)(ty:U1)(pos:String)(after:Array Edge)(rest:List Oper)(F:UU)(H:Hp) :
  fM (L,[],c::D) P ops K (⟨some t,op,ty,pos,after,none⟩::rest) F H=pI ((c::D).contains t) (sW P (L,[],c::D) (cw F) H (AP (fun r H'=>fM (L,[],c::D) P ops K rest (cQ F (some t) r) H') .mk) op)
   (jn (L,[],c::D) (cw F) op=true/\fK P (cw F) H ty (AP (fun r H'=>fM (L,[],c::D) P ops K rest (cQ F (some t) r) H') .mk) op) .mk .mk:=(rfl)
@[go_sem] def j8r:(∀{P:U6} {A:AS} {ev:U2} {H:Hp} {K:UR} (f:Operand) (as:Array Operand) (ts:Array U1),sW P A ev H K (.call ⟨.value f,as,ts⟩)=fi P (ev f) (as.toList.map ev) H (AP (fun r H'=>eD A H H'/\K r H') .mk))/\(∀{P:U6} {ev:U2} {H:Hp} {K:AV->Prop} (f:Operand) (as:Array Operand) (ts:Array U1),DM P ev H K (.call ⟨.value f,as,ts⟩)=∃r,(fi P (ev f) (as.toList.map ev) H fun r' H'=>r'=r/\H'=H)/\K r):=by and_intros<;>(intros;rfl)
def q5(b:Bool)(X Y:Prop)(_:ir X)(_:ir Y):Prop:=(b=true->X)/\(b=false->Y)
@[go_sem] def j8j(X Y:Prop)(d:ir X)(e:ir Y):q5 true X Y d e=X:=by unfold q5;simp
@[go_sem] def j6f(X Y:Prop)(d:ir X)(e:ir Y):q5 false X Y d e=Y:=by unfold q5;simp
@[go_sem] def j3D(dst:Option Tmp)(op:Op)(ty:U1)(pos:String)(after:Array Edge)(j:Nat)(want:Bool)(rest:List Oper)(F:UU)(H:Hp) :
  fM (L,C,[]) P ops K (⟨dst,op,ty,pos,after,some (j,want)⟩::rest) F H=rF (l9 ops F j want) (fun b=>(jw op || iM op)=true/\eR P F H b (vj (fun r=>fM (L,C,[]) P ops K rest (cQ F dst r) H) .mk) op) .mk:=by
 have e:pc (L,C,[]) ⟨dst,op,ty,pos,after,some (j,want)⟩=false:=by unfold pc oW;cases dst<;>simp
 unfold rF;conv=>lhs;unfold fM
 simp only[e];rfl
def qG(F:UU):List Operand->Prop
 |[]=>True
 |x::l=>(jZ (cw F x)).1=true/\qG F l
theorem Iq(F:UU):∀l:List Operand,((l.all fun x=>(jZ (cw F x)).1)=true)=qG F l
 |[]=>by simp[qG]
 |x::l=>by have:=Iq F l;simp only[List.all_cons,Bool.and_eq_true,qG,this]
def IN(F:UU)(f:Operand)(as:Array Operand)(ts:Array U1):(gw F (.call ⟨.value f,as,ts⟩)=true)=((jZ (cw F f)).1=true/\qG F as.toList):=by rw[<-Iq];unfold gw;simp[Op.operands,Call.operands]
def Cl(P:U6)(A:AS)(F:UU)(H:Hp)(K:UR):Op->Prop
 |.call { callee:=.value f,args,.. }=>((jZ (cw F f)).1=true/\qG F args.toList)/\fi P (bJ F f) (args.toList.map (bJ F)) H (AP (fun r H'=>eD A H H'/\K r H') .mk)
 |_=>False
variable{K:UR}
@[go_sem] def j6n(f:Operand)(as:Array Operand)(ts:Array U1):Cl P A F H K (.call ⟨.value f,as,ts⟩)=(((jZ (cw F f)).1=true/\qG F as.toList)/\fi P (bJ F f) (as.toList.map (bJ F)) H (AP (fun r H'=>eD A H H'/\K r H') .mk)):=(rfl)
def Qy{op:Op}(h:jw op=true):(gw F op=true/\sW P A (bJ F) H K op)=Cl P A F H K op:=by
 cases op<;>first|(cases h;done)|skip
 rename_i c;obtain⟨callee,args,ts⟩:=c;cases callee<;>first|(cases h;done)|skip
 rename_i f;rw[IN];rfl
@[go_sem] def j2q{c:Nat}{K:UQ}(op:Op)(ty:U1)(pos:String)(after:Array Edge)(j:Nat)(want:Bool)(rest:List Oper)(F:UU)(H:Hp) :
  fM (L,C,c::D) P ops K (⟨some t,op,ty,pos,after,some (j,want)⟩::rest) F H=rF (l9 ops F j want) (fun b=>pI ((c::D).contains t && jw op)
   (q5 b (Cl P (L,C,c::D) F H (AP (fun r H'=>fM (L,C,c::D) P ops K rest (cQ F (some t) r) H') .mk) op) (fM (L,C,c::D) P ops K rest (cQ F (some t) (.gd false (.raw (.bool false)))) H) .mk .mk)
   ((jw op || iM op)=true/\eR P F H b (vj (fun r=>fM (L,C,c::D) P ops K rest (cQ F (some t) r) H) .mk) op) .mk .mk) .mk:=by
 conv=>lhs;unfold fM
 simp only;unfold rF pI q5;have Y6:pc (L,C,c::D) ⟨some t,op,ty,pos,after,some (j,want)⟩=((c::D).contains t && jw op):=by unfold pc oW;simp
 cases l9 ops F j want with
 |none=>rfl
 |some b=>
  simp only;rw[Y6];by_cases hc:((c::D).contains t && jw op)=true
  ·rw[if_pos hc,if_pos hc];have hv:jw op=true:=by simp only[Bool.and_eq_true]at hc;exact hc.2
   rw[<-Qy hv];rfl
  ·rw[if_neg hc,if_neg hc];rfl
attribute [go_sem] qG
attribute [go_sem] dV pw sd
universe u
def bf:Nat->Nat->UZ
 |_,0=>[]
 |k,n+1=>k::bf (k+1) n
variable{q:Prop}
def dv(e:q:=by first|(simp(disch:=first|omega|assumption|fail) only[go_sem,ra,W,↓reduceIte,Int.reduceEq,Int.reduceLE,Int.reduceLT,Int.reduceNe,Int.reduceToNat,Nat.reduceMul,Nat.reduceAdd,Nat.reduceLeDiff,Nat.reduceSub,Nat.reduceEqDiff,Nat.reduceBEq,List.nodup_cons,List.nodup_nil,List.mem_cons,List.not_mem_nil,List.mem_nil_iff];done)|(simp(disch:=first|omega|assumption|fail) only[go_sem,ra,↓reduceIte,Int.reduceEq,Int.reduceLE,Int.reduceLT,Int.reduceNe,Int.reduceToNat,Nat.reduceMul,Nat.reduceAdd,Nat.reduceLeDiff,Nat.reduceSub,Nat.reduceEqDiff,Nat.reduceBEq,List.nodup_cons,List.nodup_nil,List.mem_cons,List.not_mem_nil,List.mem_nil_iff];done)|fail):q:=e
def fq(e:q:=by first|(simp(disch:=first|omega|assumption|fail) only[go_sem,ra,W,↓reduceIte,Int.reduceEq,Int.reduceLE,Int.reduceLT,Int.reduceNe,Int.reduceToNat,Nat.reduceMul,Nat.reduceAdd,Nat.reduceLeDiff,Nat.reduceSub,Nat.reduceEqDiff,Nat.reduceBEq,List.nodup_cons,List.nodup_nil,List.mem_cons,List.not_mem_nil,List.mem_nil_iff];rfl)|(simp(disch:=first|omega|assumption|fail) only[go_sem,ra,↓reduceIte,Int.reduceEq,Int.reduceLE,Int.reduceLT,Int.reduceNe,Int.reduceToNat,Nat.reduceMul,Nat.reduceAdd,Nat.reduceLeDiff,Nat.reduceSub,Nat.reduceEqDiff,Nat.reduceBEq,List.nodup_cons,List.nodup_nil,List.mem_cons,List.not_mem_nil,List.mem_nil_iff];rfl)|rfl|fail):q:=e
def LH(e:q:=by first|(simp(disch:=first|omega|assumption|fail) only[go_sem,ra,W,↓reduceIte,Int.reduceEq,Int.reduceLE,Int.reduceLT,Int.reduceNe,Int.reduceToNat,Nat.reduceMul,Nat.reduceAdd,Nat.reduceLeDiff,Nat.reduceSub,Nat.reduceEqDiff,Nat.reduceBEq,List.nodup_cons,List.nodup_nil,List.mem_cons,List.not_mem_nil,List.mem_nil_iff];rfl)|(simp(disch:=first|omega|assumption|fail) only[go_sem,ra,↓reduceIte,Int.reduceEq,Int.reduceLE,Int.reduceLT,Int.reduceNe,Int.reduceToNat,Nat.reduceMul,Nat.reduceAdd,Nat.reduceLeDiff,Nat.reduceSub,Nat.reduceEqDiff,Nat.reduceBEq,List.nodup_cons,List.nodup_nil,List.mem_cons,List.not_mem_nil,List.mem_nil_iff];rfl)|fail):q:=e
def DJ(e:q:=by first|(exact um)|rfl|fail):q:=e
variable{α:Type}
@[go_sem] def jyU[Inhabited α](f:α->UU)(a:List α)(b:US)(k:Nat)(h:k<a.length):(a.map f++b).getD k []=f (nth a k):=by rw[fA h,List.getD_eq_getElem?_getD,List.getElem?_append_left (by simpa using h)];simp[h]
attribute [go_sem] List.isEmpty_nil
@[congr] theorem j3S{c:Code}{F':UU}{H':Hp}(h1:F=F')(h2:H=H'):dL P c Q F H=dL P c Q F' H':=by rw[h1,h2]
def nG(p q:Prop):Prop:=q->p
section
variable {P:U6}{Q:Exit->UQ}{F:UU}{H:Hp}
variable{id:Nat}{q:Prop}
def N7{l:List Oper}(e:lE P l.toArray (Q .normal) l F H=q):nG (dL P (.region id l.toArray false) Q F H) q:=fun h=>Tg (e ▸ h)
def Q5{c:Code}:nG (dL P (.block id c) Q F H) (dL P c (tG id Q) F H):=Qh
def Pm(e:Q .normal F H=q):nG (dL P .skip Q F H) q:=fun h=>O3 (e ▸ h)
def QI(e:Q (.exit id) F H=q):nG (dL P (.exit id) Q F H) q:=fun h=>RP (e ▸ h)
def SQ(e:Q .ret F H=q):nG (dL P .ret Q F H) q:=fun h=>NX (e ▸ h)
end
section
variable {P:U6}{H:Hp}{K:UR}
variable{t:U1}{q:Prop}
def Rp{zs:U4}(hz:dM P t=some zs)(e:K (.pt (nx H.l) 0 0 0) (H.put (nx H.l) (.var t (zs.map .raw)))=q):nG (nX P H t K) q:=fun h=>TE hz (e ▸ h)
def Uf{x:AV}(ho:cZ x.cells=true)(e:K (.pt (nx H.l) 0 0 0) (H.put (nx H.l) (.var t x.cells))=q):nG (sq H t x K) q:=fun h=>Lg ho (e ▸ h)
def Qw{A:Nat->Prop}{d:ir A}(e:A (nx H.l)=q):nG (wB H A d) q:=fun h=>Ru (e ▸ h)
def ON{sz:Nat}(h0:0<sz)(e:K (.rs (nx H.l) 0 sz 0) (H.put (nx H.l) (.aJ t sz []))=q):nG (sT t sz [] H K) q:=fun h=>SA h0 (e ▸ h)
def Mg{sz:Nat}{css:US}(h1:aY eJ css.flatten=true)(e:K (.sl true sz css []) H=q):nG (sT t sz css H K) q:=fun h=>Rm h1 (e ▸ h)
def Pg{a x:AV}(e:xo P t a x H K=q):nG (pz P t t a x H K) q:=fun h=>D3 (e ▸ h)
def SR{d:ir K}{r:AV}(e:K r H=q):nG (AP K d r H) q:=fun h=>L0 (e ▸ h)
def Lr{a b:Prop}(h:a):nG (a/\b) b:=fun k=>⟨h,k⟩
end
variable{p:Prop}
def av(h:q)(e:nG p q:=by first
 |((with_reducible apply N7);exact fq)
 |with_reducible exact Q5
 |((with_reducible apply QI);exact DJ)
 |((with_reducible apply SQ);exact DJ)
 |((with_reducible apply Pm);exact DJ)
 |fail):p:=e h
def aq(h:q)(e:nG p q:=by first
 |((with_reducible apply Pg);exact fq)
 |((with_reducible apply SR);exact fq)
 |((with_reducible apply ON);(focus (exact dv));exact fq)
 |((with_reducible apply Mg);(focus (simp only[go_sem]));exact fq)
 |((with_reducible apply Rp);(focus (simp only[go_sem];rfl));exact fq)
 |((with_reducible apply Uf);(focus (simp only[go_sem]));exact fq)
 |((with_reducible apply Qw);exact fq)
 |((with_reducible apply Lr);first|omega|(simp +contextual;done)|(simp +contextual;intros;omega)|fail)
 |fail):p:=e h
def S(h:q)(e:p=q:=by exact LH):p:=e ▸ h
def Sd(e:p=True:=by exact dv):p:=of_eq_true e
def au{c:Operand}{x y:Code}{b:Bool}{pt pf:Prop}(ht:pt->dL P x Q F H)(hf:pf->dL P y Q F H)(hc:cw F c=.raw (.bool b):=by rfl)
 (et:(b=true)=pt:=by first|(simp only[Int.reduceEq,Int.reduceLE,Int.reduceLT,Int.reduceNe,false_and,and_false,true_and,and_true,or_false,false_or,true_or,or_true,Bool.false_eq_true,Bool.true_eq_false,eq_self,reduceCtorEq,Bool.not_true,Bool.not_false,Bool.and_eq_true,Bool.or_eq_true,Bool.and_eq_false_iff,Bool.or_eq_false_iff,decide_eq_true_eq,decide_eq_false_iff_not,Bool.not_eq_true',Bool.not_eq_false',Int.not_lt,Int.not_le];rfl)|rfl) (ef:(b=false)=pf:=by first|(simp only[Int.reduceEq,Int.reduceLE,Int.reduceLT,Int.reduceNe,false_and,and_false,true_and,and_true,or_false,false_or,true_or,or_true,Bool.false_eq_true,Bool.true_eq_false,eq_self,reduceCtorEq,Bool.not_true,Bool.not_false,Bool.and_eq_true,Bool.or_eq_true,Bool.and_eq_false_iff,Bool.or_eq_false_iff,decide_eq_true_eq,decide_eq_false_iff_not,Bool.not_eq_true',Bool.not_eq_false',Int.not_lt,Int.not_le];rfl)|rfl):dL P (.cond c x y) Q F H:=MU hc (fun h=>ht (et ▸ h)) (fun h=>hf (ef ▸ h))
section
variable {P:U6}{f:FuncId}{args:UU}{H:Hp}{K:UR}{q:Prop}
variable{r0:AV}
def cm{l l0:UT}(hc:af P f args l fun r l'=>r=r0/\l'=l0)(k:q)(h1:re l H:=by exact dv)(h0:aX P f=true:=by exact dv)(h2:aY (fun i=>(ids l).contains i) args=true:=by exact dv)(h3:rN (fun i=>(ids l).contains i) l:=by exact dv)
 (h4:oN (ids l) H l0:=by exact dv) (h5:(ids l0).Nodup:=by exact dv) (e:K r0 ⟨H.B,gI H.l l0⟩=q:=by exact fq):fi P (.raw (.func (.func f) #[] #[])) args H K:=nw h0 (v6 hc h1 h2 h3 h4 h5 (e ▸ k))
def cp(hc:aD P f args r0)(k:q)(h0:aX P f=true:=by exact dv)(h2:aY eJ args=true:=by exact dv)(e:K r0 H=q:=by exact fq):fi P (.raw (.func (.func f) #[] #[])) args H K:=nw h0 (zX hc h2 (e ▸ k))
def cg{g:Prop}{R:AV->Prop}{A:Prop}(hc:aD P f args r0)(k:q)(h0:aX P f=true:=by exact dv)(h2:aY eJ args=true:=by exact dv)(hA:g->A:=by first|exact id|(intro _;exact jI)|fail)(e:R r0=q:=by exact fq) :
  ∃r,(g->A/\fi P (.raw (.func (.func f) #[] #[])) args H fun r' H'=>r'=r/\H'=H)/\R r:=⟨r0,fun hg=>⟨hA hg,nw h0 (zX hc h2 ⟨rfl,rfl⟩)⟩,e ▸ k⟩
def oH{g:Prop}{R:AV->Prop}(hc:aD P f args r0)(k:q)(h0:aX P f=true:=by exact dv)(h2:aY eJ args=true:=by exact dv)(e:R r0=q:=by exact fq) :
  ∃r,(g->fi P (.raw (.func (.func f) #[] #[])) args H fun r' H'=>r'=r/\H'=H)/\R r:=⟨r0,fun _=>nw h0 (zX hc h2 ⟨rfl,rfl⟩),e ▸ k⟩
end
def dI.perm{B:UZ}{l:UT}(l':UT)(h:∀i,aC l i=aC l' i):dI F ⟨B,l⟩ F ⟨B,l'⟩:=fun w tm h1 h2=>by
 have hg:∀i,(Hp.mk B l').get i=(Hp.mk B l).get i:=fun i=>(h i).symm
 exact⟨w,rfl,{ rows:=fun i r hi=>h1.rows i r ((hg i) ▸ hi),dn:=fun i m z hz=>by rw[hg];exact h1.dn i m z hz,inj:=h1.inj,own:=h1.own,fin:=h1.fin,bS:=h1.bS },h2,{ ExtQ.refl _ w with base:=rfl }⟩
variable{t:U1}
def al(i:Nat){zs:U4}(k:q)(hi:H.get i=none:=by rfl)(hz:dM P t=some zs:=by(simp only[go_sem];rfl))(e:K (.pt i 0 0 0) (H.put i (.var t (zs.map .raw)))=q:=by exact fq):nX P H t K:=At i hz hi (e ▸ k)
def bx(i:Nat){x:AV}(k:q)(hi:H.get i=none:=by rfl)(ho:cZ x.cells=true:=by simp only[go_sem])(e:K (.pt i 0 0 0) (H.put i (.var t x.cells))=q:=by exact fq):sq H t x K:=AD i ho hi (e ▸ k)
def sr{enc:α->UU}(vars more ys:List α){i:Nat}{m sz n:Nat}{css yss:US}(k:q)(hm:m=vars.length+more.length:=by first|rfl|(simp only[go_sem];done)|omega)(hn:n=vars.length:=by rfl)(hc:css=(vars++more).map enc:=by first|rfl|exact List.map_append.symm|(simp only[go_sem,List.map_append];done))(hy:yss=ys.map enc:=by rfl)
 (e:K (.rs i (vars.length+ys.length+(more.drop ys.length).length) sz (vars.length+ys.length)) (H.put i (.aJ t sz ((vars++ys++more.drop ys.length).map enc)))=q:=by exact fq):uJ i t m sz n css yss H K:=Ui vars more ys hm hn hc hy (e ▸ k)
section
variable {P:U6}{Q:Exit->UQ}{F:UU}{H:Hp}
def gR{P:U6}{Q:Exit->UQ}{F:UU}{H:Hp}(id:Nat){l:Array Oper}{b:Bool}(h:dL P (.region id l b) Q F H):dL P (.region id l b) Q F H:=h
variable{l:List Oper}{q:Prop}
def dE(id:Nat)(ord:UZ)(hm:P.follows .mixedOrders=true)(h:q)(hok:qn ([],[],[]) [] l ord=true:=by decide +kernel)(e:fM ([],[],[]) P l.toArray (Q .normal) (ord.map (dV l)) F H=q:=by(simp only[bf,List.map_cons,List.map_nil,dV,List.getD_cons_zero,List.getD_cons_succ];exact fq)):dL P (.region id l.toArray true) Q F H:=SN ord hm hok (e ▸ h)
def dA(id:Nat)(A ord:UZ)(hm:P.follows .mixedOrders=true)(h:q)(hok:qn (A,[],[]) [] l ord=true:=by decide +kernel)(e:fM (A,[],[]) P l.toArray (Q .normal) (ord.map (dV l)) F H=q:=by(simp only[bf,List.map_cons,List.map_nil,dV,List.getD_cons_zero,List.getD_cons_succ];exact fq)):dL P (.region id l.toArray true) Q F H:=J7 (A,[],[]) ord hm hok (e ▸ h)
def dC(id:Nat)(A:AS)(E ord:UZ)(hm:P.follows .mixedOrders=true)(h:q)(hok:qn A E l ord=true:=by decide +kernel)(hE:sd P l E:=by simp only[sd,dV,List.getD_cons_zero,List.getD_cons_succ,go_sem])(e:fM A P l.toArray (Q .normal) (ord.map (dV l)) F H=q:=by(simp only[bf,List.map_cons,List.map_nil,dV,List.getD_cons_zero,List.getD_cons_succ];exact fq)):dL P (.region id l.toArray true) Q F H:=A3 A E ord hm hok hE (e ▸ h)
def dQ(id:Nat)(hm:P.follows .mixedOrders=true)(h:q)(hok:uT l=true:=by decide +kernel)(e:qI P l.toArray H (fun F'=>Q .normal F' H) l F=q:=by exact fq):dL P (.region id l.toArray true) Q F H:=TL hm hok (e ▸ h)
def KQ{c:Code}(L:UZ)(slot:Nat)(a:AV)(hB:H.B.all (iv fun i=>L.contains i)=true)(hl:iV (fun i=>L.contains i) H.l)(hv:bD (fun i=>L.contains i) H F (F.set slot a))(h:dL P c Q (F.set slot a) ⟨H.B,fB (fun i=>L.contains i) H.l⟩):dL P c Q F H:=iW (dI.free _ hB hl hv) h
def GC{c:Code}(L:UZ)(W:List (Nat×Nat))(J:List (Nat×AV))(h0:(L.any fun i=>(H.get i).isSome)=true)(hB:H.B.all (iv fun i=>L.contains i)=true)(hl:iV (fun i=>L.contains i) H.l)(hv:bD (fun i=>L.contains i) H F (ni J (nH W F)))(h:dL P c Q (ni J (nH W F)) ⟨H.B,fB (fun i=>L.contains i) H.l⟩):dL P c Q F H:=iW (dI.free _ hB hl hv) h
end
def jW{H':Hp}(e:H=H':=by first|(simp only[go_sem];done)|(simp only[go_sem];rfl)|rfl|fail):H=H':=e
def bU{F':UU}(e:lr F F':=by(simp only[go_sem,lr,Nat.reduceAdd,AV.raw.injEq,Value.int.injEq,Value.slice.injEq,Value.pointer.injEq,AV.rs.injEq];try omega)):lr F F':=e
def iQ{D:U5}{l m:UU}(e:bD D H l m:=by(simp only[go_sem,↓reduceIte,Int.reduceEq,Int.reduceLE,Int.reduceLT,Int.reduceNe,Int.reduceToNat,Nat.reduceMul,Nat.reduceAdd,Nat.reduceLeDiff,Nat.reduceSub,Nat.reduceEqDiff,Nat.reduceBEq,List.nodup_cons,List.nodup_nil,List.mem_cons,List.not_mem_nil,List.mem_nil_iff];repeat' (first|exact jI|exact Qn _|exact db.nil _ _|exact db.lit _ _ _ _ _|exact db.same _ rfl|(exact db.same _ (by exact vA))|(exact db.row _ (by first|rfl|(exact vA)) (by first|(exact vA)|rfl|(exact um)) (by first|rfl|(simp only[go_sem];done)|omega))|refine jA ?_ ?_|fail))):bD D H l m:=e
def IG{l:List Oper}{b:Bool}(L:UZ)(W:List (Nat×Nat))(J:List (Nat×AV))(h:q)(h0:(L.any fun i=>(H.get i).isSome)=true:=by rfl)(hB:H.B.all (iv fun i=>L.contains i)=true:=by exact dv)(hl:iV (fun i=>L.contains i) H.l:=by exact dv)
 (hv:bD (fun i=>L.contains i) H F (ni J (nH W F)):=by exact iQ) (e:dL P (.region id l.toArray b) Q (ni J (nH W F)) ⟨H.B,fB (fun i=>L.contains i) H.l⟩=q:=by exact fq):dL P (.region id l.toArray b) Q F H:=GC L W J h0 hB hl hv (e ▸ h)
def cB{f:FuncId}{fn:Func}{c:Code}{args:UU}{r:AV}{k:Nat}(hf:P.funcs[f]?=some fn)(hn:fn.ntmps=k)(h:dL P c (lQ P fn fun r' l'=>r'=r/\l'=[]) F ⟨[],[]⟩)(hb:fn.body=some c:=by rfl)
 (hF:args++List.replicate (k-args.length) .any=F:=by(simp only[List.length_cons,List.length_nil,Nat.reduceAdd,Nat.reduceSub,List.replicate,List.cons_append,List.nil_append];rfl)):aD P f args r:=T8 hf hb (by rw[hn];exact hF) h
def aQ{f:FuncId}{fn:Func}{c:Code}{args:UU}{l:UT}{R:AV->List U8->Prop}{k:Nat}(hf:P.funcs[f]?=some fn)(hn:fn.ntmps=k)(h:dL P c (lQ P fn R) F ⟨L,l⟩)(hb:fn.body=some c:=by rfl)(hL:ids l=L:=by rfl)
 (hF:args++List.replicate (k-args.length) .any=F:=by(simp only[List.length_cons,List.length_nil,Nat.reduceAdd,Nat.reduceSub,List.replicate,List.cons_append,List.nil_append];rfl)):af P f args l R:=R3 hf hb (by rw[hn];exact hF) hL h
section
variable {P:U6}{fn:Func}{F:UU}{H:Hp}{out:UU}{e:Exit}{r:AV}{l:UT}
def cd(rs:List ResultVar)(h1:kS out=r)(h2:H.l=l)(Xr:fn.results.toList=rs:=by rfl)(he:e=.normal\/e=.ret:=by first|exact Or.inr rfl|exact Or.inl rfl|fail)(ho:jV P H F rs=some out:=by(exact um))(hok:kR P H F rs:=by exact vA) :
  lQ P fn (fun r' l'=>r'=r/\l'=l) e F H:=RR rs Xr he ho hok h1 h2
def bq(rs:List ResultVar)(hv:kS out=r)(Xr:fn.results.toList=rs:=by rfl)(he:e=.normal\/e=.ret:=by first|exact Or.inr rfl|exact Or.inl rfl|fail)(ho:jV P H F rs=some out:=by(exact um))(hok:kR P H F rs:=by exact vA)(hl:iV (mX H.B) H.l:=by exact dv)
 (hq:(kS out).all (iv (mX H.B))=true:=by exact dv) (h2:fB (mX H.B) H.l=l:=by first|rfl|(exact dv)|(exact um)|fail):lQ P fn (fun r' l'=>r'=r/\l'=l) e F H:=JK rs Xr he ho hok hl (AB hv hq) h2
def fy(rs:List ResultVar)(hv:db (mX H.B) H (kS out) r)(Xr:fn.results.toList=rs:=by rfl)(he:e=.normal\/e=.ret:=by first|exact Or.inr rfl|exact Or.inl rfl|fail)(ho:jV P H F rs=some out:=by(exact um))(hok:kR P H F rs:=by exact vA)(hl:iV (mX H.B) H.l:=by exact dv)
 (h2:fB (mX H.B) H.l=l:=by first|rfl|(exact dv)|(exact um)|fail):lQ P fn (fun r' l'=>r'=r/\l'=l) e F H:=JK rs Xr he ho hok hl hv h2
end
@[go_sem] def j1q(enc:α->UU)(l:List α)(k:Nat)(x:α):(l.map enc).set k (enc x)=(l.set k x).map enc:=List.map_set.symm
attribute [go_sem] List.length_set
def eI(x:Int):UU:=[.raw (.int .i64 x)]
instance:bG eI 1:=⟨fun _=>rfl,fun _=>rfl,fun _=>rfl⟩
@[go_sem] def qcY:(∀(x:Int),(eI x).length=1)/\(∀(x:Int),(eI x).getD 0 .any=.raw (.int .i64 x))/\(∀(x:Int),(eI x).drop 1=[]):=by and_intros<;>(intros;rfl)
@[go_sem] def qcZ(l:UY)(k:Nat)(x:Int):(l.map eI).set k [.raw (.int .i64 x)]=(l.set k x).map eI:=(List.map_set (f:=eI)).symm
def eS(x:U0):UU:=[.raw (.string x)]
instance:bG eS 1:=⟨fun _=>rfl,fun _=>rfl,fun _=>rfl⟩
@[go_sem] def qc1:(∀(x:U0),(eS x).length=1)/\(∀(x:U0),(eS x).getD 0 .any=.raw (.string x)):=by and_intros<;>(intros;rfl)
def eB(x:Bool):UU:=[.raw (.bool x)]
instance:bG eB 1:=⟨fun _=>rfl,fun _=>rfl,fun _=>rfl⟩
def eU(x:Int):UU:=[.raw (.int .u8 x)]
instance:bG eU 1:=⟨fun _=>rfl,fun _=>rfl,fun _=>rfl⟩
def py(x:UY):UU:=[aM eI 1 x]
instance:bG py 1:=⟨fun _=>rfl,fun _=>rfl,fun _=>rfl⟩
@[go_sem] def j8V:(∀(x:UY),(py x).length=1)/\(∀(x:UY),(py x).getD 0 .any=aM eI 1 x):=by and_intros<;>(intros;rfl)
structure cF where
 kind:Int
 text:ByteArray
 at_:Int
 deriving Inhabited,DecidableEq
def mH(x:cF):UU:=[.raw (.int .i64 x.kind),.raw (.string x.text),.raw (.int .i64 x.at_)]
section
variable (x y:cF)
@[go_sem] def j0B:((mH x).length=3)/\((mH x).all AV.one=true):=by and_intros<;>(intros;rfl)
@[go_sem] def Rh(q:U5):aY q (mH x)=true:=by simp[mH,aY,AV.all]
instance:bG mH 3:=⟨fun _=>rfl,fun _=>rfl,fun x=>Rh x _⟩
@[go_sem] def jyJ:((mH x).take 3=mH x)/\((mH x).getD 0 .any=.raw (.int .i64 x.kind))/\((mH x).getD 1 .any=.raw (.string x.text))/\((mH x).getD 2 .any=.raw (.int .i64 x.at_)):=by and_intros<;>(intros;rfl)
end
structure bw where
 kind:Int
 ci:Int
 n:Int
 name:ByteArray
 l:List Int
 deriving Inhabited,DecidableEq
def eT(x:bw):UU:=[.raw (.int .i64 x.kind),.raw (.int .i64 x.ci),.raw (.int .i64 x.n),.raw (.string x.name),aM eI 1 x.l]
section
variable (x y:bw)
@[go_sem] def j2O:((eT x).length=5)/\((eT x).all AV.one=true):=by and_intros<;>(intros;rfl)
@[go_sem] def Lz(q:U5):aY q (eT x)=true:=by simp[eT,aY,AV.all]
instance:bG eT 5:=⟨fun _=>rfl,fun _=>rfl,fun x=>Lz x _⟩
@[go_sem] def j0r:((eT x).take 5=eT x)/\((eT x).getD 0 .any=.raw (.int .i64 x.kind))/\((eT x).getD 1 .any=.raw (.int .i64 x.ci))/\((eT x).getD 2 .any=.raw (.int .i64 x.n))/\((eT x).getD 3 .any=.raw (.string x.name))/\((eT x).getD 4 .any=aM eI 1 x.l):=by and_intros<;>(intros;rfl)
end
structure aj where
 ty:Int
 n:Int
 s:ByteArray
 deriving Inhabited,DecidableEq
def bY(x:aj):UU:=[.raw (.int .i64 x.ty),.raw (.int .i64 x.n),.raw (.string x.s)]
section
variable (x y:aj)
@[go_sem] def j0E:((bY x).length=3)/\((bY x).all AV.one=true):=by and_intros<;>(intros;rfl)
@[go_sem] def Nw(q:U5):aY q (bY x)=true:=by simp[bY,aY,AV.all]
instance:bG bY 3:=⟨fun _=>rfl,fun _=>rfl,fun x=>Nw x _⟩
@[go_sem] def jyL:((bY x).take 3=bY x)/\((bY x).getD 0 .any=.raw (.int .i64 x.ty))/\((bY x).getD 1 .any=.raw (.int .i64 x.n))/\(∀(v:Int),List.take 1 (bY x)++[.raw (.int .i64 v)]++List.drop 2 (bY x)=bY { x with n:=v })/\((bY x).getD 2 .any=.raw (.string x.s)):=by and_intros<;>(intros;rfl)
end
structure bI where
 name:ByteArray
 ty:Int
 deriving Inhabited,DecidableEq
def nb(x:bI):UU:=[.raw (.string x.name),.raw (.int .i64 x.ty)]
section
variable (x y:bI)
@[go_sem] def j0s:((nb x).length=2)/\((nb x).all AV.one=true):=by and_intros<;>(intros;rfl)
@[go_sem] def PY(q:U5):aY q (nb x)=true:=by simp[nb,aY,AV.all]
instance:bG nb 2:=⟨fun _=>rfl,fun _=>rfl,fun x=>PY x _⟩
@[go_sem] def jyG:((nb x).take 2=nb x)/\((nb x).getD 0 .any=.raw (.string x.name))/\((nb x).getD 1 .any=.raw (.int .i64 x.ty)):=by and_intros<;>(intros;rfl)
end
structure bk where
 name:ByteArray
 ci:Int
 params:List bI
 ret:Int
 body:Int
 deriving Inhabited,DecidableEq
def gg(x:bk):UU:=[.raw (.string x.name),.raw (.int .i64 x.ci),aM nb 2 x.params,.raw (.int .i64 x.ret),.raw (.int .i64 x.body)]
section
variable (x y:bk)
@[go_sem] def j2E:((gg x).length=5)/\((gg x).all AV.one=true):=by and_intros<;>(intros;rfl)
@[go_sem] def SU(q:U5):aY q (gg x)=true:=by simp[gg,aY,AV.all]
instance:bG gg 5:=⟨fun _=>rfl,fun _=>rfl,fun x=>SU x _⟩
@[go_sem] def j0o:((gg x).take 5=gg x)/\((gg x).getD 0 .any=.raw (.string x.name))/\((gg x).getD 2 .any=aM nb 2 x.params)/\((gg x).getD 3 .any=.raw (.int .i64 x.ret))/\((gg x).getD 4 .any=.raw (.int .i64 x.body)):=by and_intros<;>(intros;rfl)
end
structure aK where
 nodes:List bw
 ao:List bk
 deriving Inhabited,DecidableEq
def lW(x:aK):UU:=[aM eT 5 x.nodes,aM gg 5 x.ao]
section
variable (x y:aK)
@[go_sem] def j21:((lW x).length=2)/\((lW x).all AV.one=true):=by and_intros<;>(intros;rfl)
@[go_sem] def Nz(q:U5):aY q (lW x)=true:=by simp[lW,aY,AV.all]
instance:bG lW 2:=⟨fun _=>rfl,fun _=>rfl,fun x=>Nz x _⟩
@[go_sem] def j0D:((lW x).take 2=lW x)/\((lW x).getD 0 .any=aM eT 5 x.nodes)/\((lW x).getD 1 .any=aM gg 5 x.ao):=by and_intros<;>(intros;rfl)
end
structure bB where
 name:ByteArray
 ty:Int
 slot:Int
 deriving Inhabited,DecidableEq
def k7(x:bB):UU:=[.raw (.string x.name),.raw (.int .i64 x.ty),.raw (.int .i64 x.slot)]
section
variable (x y:bB)
@[go_sem] def j4J:((k7 x).length=3)/\((k7 x).all AV.one=true):=by and_intros<;>(intros;rfl)
@[go_sem] def TR(q:U5):aY q (k7 x)=true:=by simp[k7,aY,AV.all]
instance:bG k7 3:=⟨fun _=>rfl,fun _=>rfl,fun x=>TR x _⟩
@[go_sem] def j27:((k7 x).take 3=k7 x)/\((k7 x).getD 0 .any=.raw (.string x.name))/\((k7 x).getD 1 .any=.raw (.int .i64 x.ty))/\((k7 x).getD 2 .any=.raw (.int .i64 x.slot)):=by and_intros<;>(intros;rfl)
end
structure ab where
 aa:aK
 types:List Int
 slots:List Int
 fn:List Int
 size:List Int
 deriving Inhabited,DecidableEq
def cY(x:ab):UU:=[aM eT 5 x.aa.nodes,aM gg 5 x.aa.ao,aM eI 1 x.types,aM eI 1 x.slots,aM eI 1 x.fn,aM eI 1 x.size]
section
variable (x y:ab)
@[go_sem] def j2S:((cY x).length=6)/\((cY x).all AV.one=true):=by and_intros<;>(intros;rfl)
@[go_sem] def N0(q:U5):aY q (cY x)=true:=by simp[cY,aY,AV.all]
instance:bG cY 6:=⟨fun _=>rfl,fun _=>rfl,fun x=>N0 x _⟩
@[go_sem] def j0u:((cY x).take 6=cY x)/\((cY x).getD 0 .any=aM eT 5 x.aa.nodes)/\((cY x).getD 1 .any=aM gg 5 x.aa.ao)/\((cY x).getD 2 .any=aM eI 1 x.types)/\((cY x).getD 3 .any=aM eI 1 x.slots)/\((cY x).getD 4 .any=aM eI 1 x.fn):=by and_intros<;>(intros;rfl)
end
structure gr where
 fn:Int
 node:Int
 slots:List aj
 deriving Inhabited,DecidableEq
def mK(x:gr):UU:=[.raw (.int .i64 x.fn),.raw (.int .i64 x.node),aM bY 3 x.slots]
section
variable (x y:gr)
@[go_sem] def j2W:((mK x).length=3)/\((mK x).all AV.one=true):=by and_intros<;>(intros;rfl)
@[go_sem] def Qm(q:U5):aY q (mK x)=true:=by simp[mK,aY,AV.all]
instance:bG mK 3:=⟨fun _=>rfl,fun _=>rfl,fun x=>Qm x _⟩
@[go_sem] def j0A:((mK x).take 3=mK x)/\((mK x).getD 0 .any=.raw (.int .i64 x.fn))/\((mK x).getD 1 .any=.raw (.int .i64 x.node))/\((mK x).getD 2 .any=aM bY 3 x.slots):=by and_intros<;>(intros;rfl)
end
structure iq where
 calls:List gr
 heap:List (List Int)
 in_:Int
 aZ:List ByteArray
 status:Int
 cf:Int
 time:Int
 deriving Inhabited,DecidableEq
def jS(x:iq):UU:=[aM mK 3 x.calls,aM py 1 x.heap,.raw (.int .i64 x.in_),aM eS 1 x.aZ,.raw (.int .i64 x.status),.raw (.int .i64 x.cf),.raw (.int .i64 x.time)]
section
variable (x y:iq)
@[go_sem] def j2U:((jS x).length=7)/\((jS x).all AV.one=true):=by and_intros<;>(intros;rfl)
@[go_sem] def K9(q:U5):aY q (jS x)=true:=by simp[jS,aY,AV.all]
instance:bG jS 7:=⟨fun _=>rfl,fun _=>rfl,fun x=>K9 x _⟩
@[go_sem] def j4x:((jS x).getD 0 .any=aM mK 3 x.calls)/\((jS x).getD 1 .any=aM py 1 x.heap)/\((jS x).getD 2 .any=.raw (.int .i64 x.in_))/\((jS x).getD 3 .any=aM eS 1 x.aZ)/\((jS x).getD 4 .any=.raw (.int .i64 x.status))/\((jS x).getD 5 .any=.raw (.int .i64 x.cf))/\((jS x).getD 6 .any=.raw (.int .i64 x.time)):=by and_intros<;>(intros;rfl)
end
structure az where
 op:Int
 a:Int
 b:Int
 s:ByteArray
 deriving Inhabited,DecidableEq
def dw(x:az):UU:=[.raw (.int .i64 x.op),.raw (.int .i64 x.a),.raw (.int .i64 x.b),.raw (.string x.s)]
section
variable (x y:az)
@[go_sem] def j0p:((dw x).length=4)/\((dw x).all AV.one=true):=by and_intros<;>(intros;rfl)
@[go_sem] def Mj(q:U5):aY q (dw x)=true:=by simp[dw,aY,AV.all]
instance:bG dw 4:=⟨fun _=>rfl,fun _=>rfl,fun x=>Mj x _⟩
@[go_sem] def jyE:((dw x).take 4=dw x)/\((dw x).getD 0 .any=.raw (.int .i64 x.op))/\((dw x).getD 1 .any=.raw (.int .i64 x.a))/\(∀(v:Int),List.take 1 (dw x)++[.raw (.int .i64 v)]++List.drop 2 (dw x)=dw { x with a:=v })/\((dw x).getD 2 .any=.raw (.int .i64 x.b))/\((dw x).getD 3 .any=.raw (.string x.s)):=by and_intros<;>(intros;rfl)
end
structure aI where
 ins:List az
 entry:List Int
 deriving Inhabited,DecidableEq
def xP(x:aI):UU:=[aM dw 4 x.ins,aM eI 1 x.entry]
section
variable (x y:aI)
@[go_sem] def Sa(q:U5):aY q (xP x)=true:=by simp[xP,aY,AV.all]
instance:bG xP 2:=⟨fun _=>rfl,fun _=>rfl,fun x=>Sa x _⟩
end
structure aw where
 at_:Int
 name:ByteArray
 v:aj
 deriving Inhabited,DecidableEq
def bj(x:aw):UU:=[.raw (.int .i64 x.at_),.raw (.string x.name),.raw (.int .i64 x.v.ty),.raw (.int .i64 x.v.n),.raw (.string x.v.s)]
section
variable (x y:aw)
@[go_sem] def j2D:((bj x).length=5)/\((bj x).all AV.one=true):=by and_intros<;>(intros;rfl)
@[go_sem] def E6(q:U5):aY q (bj x)=true:=by simp[bj,aY,AV.all]
instance:bG bj 5:=⟨fun _=>rfl,fun _=>rfl,fun x=>E6 x _⟩
@[go_sem] def j0m:((bj x).take 5=bj x)/\((bj x).getD 0 .any=.raw (.int .i64 x.at_))/\((bj x).getD 1 .any=.raw (.string x.name))/\(∀(v:U0),List.take 1 (bj x)++[.raw (.string v)]++List.drop 2 (bj x)=bj { x with name:=v })/\((bj x).getD 2 .any=.raw (.int .i64 x.v.ty))/\((bj x).getD 4 .any=.raw (.string x.v.s))/\(∀(v:U0),List.take 4 (bj x)++[.raw (.string v)]++List.drop 5 (bj x)=bj { x with v.s:=v })/\(((bj x).drop 2).take 3=bY x.v)/\((bj x).map jU=[some (.int .i64),some .str,some (.int .i64),some (.int .i64),some .str]):=by and_intros<;>(intros;rfl)
@[go_sem] def j38:jb (bj x) (bj y)=decide (x=y):=by rw[Bool.eq_iff_iff];obtain⟨a31,a32,⟨a33,a34,a35⟩⟩:=x;obtain⟨b36,b37,⟨b38,b39,b40⟩⟩:=y;simp[bj,jb]
end
structure iz where
 name:ByteArray
 text:ByteArray
 deriving Inhabited,DecidableEq
def od(x:iz):UU:=[.raw (.string x.name),.raw (.string x.text)]
section
variable (x y:iz)
@[go_sem] def j0y:(od x).length=2:=(rfl)
@[go_sem] def P5(q:U5):aY q (od x)=true:=by simp[od,aY,AV.all]
instance:bG od 2:=⟨fun _=>rfl,fun _=>rfl,fun x=>P5 x _⟩
@[go_sem] def jyH:((od x).take 2=od x)/\((od x).map jU=[some .str,some .str]):=by and_intros<;>(intros;rfl)
@[go_sem] def j2V:jb (od x) (od y)=decide (x=y):=by rw[Bool.eq_iff_iff];obtain⟨a41,a42⟩:=x;obtain⟨b43,b44⟩:=y;simp[od,jb]
end
structure kf where
 name:ByteArray
 ci:Int
 vars:List iz
 deriving Inhabited,DecidableEq
def l8(x:kf):UU:=[.raw (.string x.name),.raw (.int .i64 x.ci),aM od 2 x.vars]
section
variable (x y:kf)
@[go_sem] def j2T:((l8 x).length=3)/\((l8 x).all AV.one=true):=by and_intros<;>(intros;rfl)
@[go_sem] def Rb(q:U5):aY q (l8 x)=true:=by simp[l8,aY,AV.all]
instance:bG l8 3:=⟨fun _=>rfl,fun _=>rfl,fun x=>Rb x _⟩
@[go_sem] def j0w:((l8 x).take 3=l8 x)/\((l8 x).getD 0 .any=.raw (.string x.name))/\((l8 x).getD 1 .any=.raw (.int .i64 x.ci))/\((l8 x).getD 2 .any=aM od 2 x.vars):=by and_intros<;>(intros;rfl)
end
structure lC where
 calls:List kf
 aZ:List ByteArray
 in_:Int
 status:Int
 cf:Int
 deriving Inhabited,DecidableEq
def ig(x:lC):UU:=[aM l8 3 x.calls,aM eS 1 x.aZ,.raw (.int .i64 x.in_),.raw (.int .i64 x.status),.raw (.int .i64 x.cf)]
section
variable (x y:lC)
@[go_sem] def j28:((ig x).length=5)/\((ig x).all AV.one=true):=by and_intros<;>(intros;rfl)
@[go_sem] def T2(q:U5):aY q (ig x)=true:=by simp[ig,aY,AV.all]
instance:bG ig 5:=⟨fun _=>rfl,fun _=>rfl,fun x=>T2 x _⟩
@[go_sem] def j0G:((ig x).take 5=ig x)/\((ig x).getD 0 .any=aM l8 3 x.calls)/\((ig x).getD 1 .any=aM eS 1 x.aZ)/\((ig x).getD 2 .any=.raw (.int .i64 x.in_))/\((ig x).getD 3 .any=.raw (.int .i64 x.status))/\((ig x).getD 4 .any=.raw (.int .i64 x.cf)):=by and_intros<;>(intros;rfl)
end
structure aE where
 name:ByteArray
 ax:List Int
 base:List aw
 own:List aw
 deriving Inhabited,DecidableEq
def cr(x:aE):UU:=[.raw (.string x.name),aM eI 1 x.ax,aM bj 5 x.base,aM bj 5 x.own]
section
variable (x y:aE)
@[go_sem] def jyB:((cr x).length=4)/\((cr x).all AV.one=true):=by and_intros<;>(intros;rfl)
@[go_sem] def RH(q:U5):aY q (cr x)=true:=by simp[cr,aY,AV.all]
instance:bG cr 4:=⟨fun _=>rfl,fun _=>rfl,fun x=>RH x _⟩
@[go_sem] def jwT:((cr x).take 4=cr x)/\((cr x).getD 0 .any=.raw (.string x.name))/\(∀(v:U0),.raw (.string v)::List.drop 1 (cr x)=cr { x with name:=v })/\((cr x).getD 1 .any=aM eI 1 x.ax)/\((cr x).getD 2 .any=aM bj 5 x.base)/\((cr x).getD 3 .any=aM bj 5 x.own):=by and_intros<;>(intros;rfl)
end
structure sM where
 l:List aE
 cur:Int
 time:Int
 deriving Inhabited,DecidableEq
def CJ(x:sM):UU:=[aM cr 4 x.l,.raw (.int .i64 x.cur),.raw (.int .i64 x.time)]
section
variable (x y:sM)
@[go_sem] def TM(q:U5):aY q (CJ x)=true:=by simp[CJ,aY,AV.all]
instance:bG CJ 3:=⟨fun _=>rfl,fun _=>rfl,fun x=>TM x _⟩
end
structure gk where
 block:Int
 at_:Int
 deriving Inhabited,DecidableEq
def ug(x:gk):UU:=[.raw (.int .i64 x.block),.raw (.int .i64 x.at_)]
section
variable (x y:gk)
@[go_sem] def Mn(q:U5):aY q (ug x)=true:=by simp[ug,aY,AV.all]
instance:bG ug 2:=⟨fun _=>rfl,fun _=>rfl,fun x=>Mn x _⟩
end
structure fI where
 fn:Int
 slots:List aj
 path:List gk
 deriving Inhabited,DecidableEq
def zt(x:fI):UU:=[.raw (.int .i64 x.fn),aM bY 3 x.slots,aM ug 2 x.path]
section
variable (x y:fI)
@[go_sem] def Sk(q:U5):aY q (zt x)=true:=by simp[zt,aY,AV.all]
instance:bG zt 3:=⟨fun _=>rfl,fun _=>rfl,fun x=>Sk x _⟩
end
structure cS where
 bF:List fI
 heap:List (List Int)
 in_:Int
 aZ:List ByteArray
 status:Int
 cf:Int
 time:Int
 deriving Inhabited,DecidableEq
def DT(x:cS):UU:=[aM zt 3 x.bF,aM py 1 x.heap,.raw (.int .i64 x.in_),aM eS 1 x.aZ,.raw (.int .i64 x.status),.raw (.int .i64 x.cf),.raw (.int .i64 x.time)]
section
variable (x y:cS)
@[go_sem] def NZ(q:U5):aY q (DT x)=true:=by simp[DT,aY,AV.all]
instance:bG DT 7:=⟨fun _=>rfl,fun _=>rfl,fun x=>NZ x _⟩
end
end Go.Gd