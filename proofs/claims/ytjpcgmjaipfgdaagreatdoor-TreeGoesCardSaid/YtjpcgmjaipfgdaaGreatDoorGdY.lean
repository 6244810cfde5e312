/- Lemmas. No conditions. -/
import Derived.Test.YtjpcgmjaipfgdaaGreatDoorGdL
set_option linter.all false
namespace Go.Gd
open Go
section
variable {P:TL}{ops:Array Oper}{H:Hp}
variable{ty:TG}{K:S8}
def vE{ev ev':TH}(o:Op)(h:∀x∈o.operands.toList,ev x=ev' x):vc P ev H ty K o=vc P ev' H ty K o:=by
 have quiet:((vq P ev H o).1/\K (vq P ev H o).2 H)=((vq P ev' H o).1/\K (vq P ev' H o).2 H):=by rw[uv o h]
 have other:jy P o ty ev H K=jy P o ty ev' H K:=by
  unfold jy;apply propext;constructor<;>intro hh w ρ dst pos after guard h1 h2
  ·exact hh w ρ dst pos after guard h1 fun x hx=>by rw[h x hx];exact h2 x hx
  ·exact hh w ρ dst pos after guard h1 fun x hx=>by rw[<-h x hx];exact h2 x hx
 cases o
 case box t x=>simp only[vc];rw[h x (by simp[Op.operands])]
 case store t a x=>simp only[vc];rw[h x (by simp[Op.operands]),h a (by simp[Op.operands])]
 case buildSlice t n ps=> simp only[Op.operands]at h;simp only[vc];rw[List.map_congr_left (g:=fun p=>(p.1,ev' p.2)) (fun x hx=>by rw[h x.2 (by simp at hx ⊢;exact⟨_,hx⟩)])]
 case binOp op t x y t'=>
  cases op<;>first
   |(simp only[vc];rw[h x (by simp[Op.operands]),h y (by simp[Op.operands])];done)
   |exact quiet
 case call c=>
  obtain⟨callee,args,ts⟩:=c;cases callee
  case value f=> simp only[Op.operands,Call.operands]at h;simp only[vc];rw[h f jE,List.map_congr_left (fun x hx=>h x (by simp at hx ⊢;exact .inr hx))]
  case invoke f m=> simp only[Op.operands,Call.operands]at h;simp only[vc];rw[h f jE,List.map_congr_left (fun x hx=>h x (by simp at hx ⊢;exact .inr hx))]
  case builtin b=>
   have hm:args.toList.map ev=args.toList.map ev':=List.map_congr_left fun x hx=>h x (by simpa[Op.operands,Call.operands]using hx)
   cases b
   case append=>
    simp only[vc];split
    ·rename_i t t' a x ht ha;rw[h a (by simp[Op.operands,Call.operands];rw[<-Array.mem_toList_iff,ha];simp),h x (by simp[Op.operands,Call.operands];rw[<-Array.mem_toList_iff,ha];simp)]
    ·rfl
   case len=>exact quiet
   case cap=>exact quiet
   case max=>exact quiet
   case min=>exact quiet
   all_goals(simp only[vc,dn,Bool.false_eq_true,if_false];rw[hm])
  all_goals exact other
 all_goals first
  |rfl
  |exact quiet
  |exact other
variable{t:TG}{K':S8}
def IQ{n:Nat}{parts:List (Nat×AV)}(h:oz P H t n parts K)(hk:∀r H,K r H->K' r H):oz P H t n parts K':=by
 unfold oz at*;split at h
 ·rename_i e he;split at h
  ·refine⟨h.1,?_⟩;rcases h.2 with h2|⟨h2,i,h3,h4⟩
   ·exact .inl ⟨h2.1,hk _ _ h2.2⟩
   ·exact .inr ⟨h2,i,h3,hk _ _ h4⟩
  ·exact h.elim
 ·exact h.elim
def DO{ev:TH}(o:Op)(hk:∀r H',K r H'->K' r H')(h:vc P ev H ty K o):vc P ev H ty K' o:=by
 have quiet:((vq P ev H o).1/\K (vq P ev H o).2 H)->((vq P ev H o).1/\K' (vq P ev H o).2 H):=fun h=>⟨h.1,hk _ _ h.2⟩
 have other:jy P o ty ev H K->jy P o ty ev H K':=fun hh w ρ dst pos after guard h1 h2=>by obtain⟨w',H',r,g1,g2⟩:=hh w ρ dst pos after guard h1 h2;exact⟨w',H',r,hk _ _ g1,g2⟩
 cases o
 case box t x=>obtain⟨h1,i,h2,h3⟩:=h;exact⟨h1,i,h2,hk _ _ h3⟩
 case alloc t=>
  simp only[vc,nH]at h ⊢;split at h
  ·obtain⟨i,h2,h3⟩:=h;exact⟨i,h2,hk _ _ h3⟩
  ·exact h.elim
 case store t a x=>
  simp only[vc,vn]at h ⊢;split at h
  ·split at h
   ·exact⟨h.1,hk _ _ h.2⟩
   ·exact h.elim
  ·exact h.elim
 case buildSlice t n ps=>exact IQ h hk
 case binOp op t x y t'=>
  have nileq:∀ne,p9 P ne t (ev x) (ev y) H K->p9 P ne t (ev x) (ev y) H K':=fun ne h=>by
   unfold p9 at h ⊢;split at h
   ·exact⟨h.1,fun b hb=>hk _ _ (h.2 b hb)⟩
   ·exact⟨h.1,fun b hb=>hk _ _ (h.2 b hb)⟩
   ·rename_i Te;exact⟨h.1,hk _ _ h.2⟩
  cases op<;>first
   |exact nileq false h
   |exact nileq true h
   |exact quiet h
 case call c=>
  obtain⟨callee,args,ts⟩:=c;cases callee
  case value f=>exact ze h hk
  case invoke f m=>
   simp only[vc,qp]at h ⊢;split at h
   ·split at h
    ·exact ze h hk
    ·exact h.elim
   ·exact h.elim
  case builtin b=>
   have bvc:pI P b ts.toList (args.toList.map ev) H K->pI P b ts.toList (args.toList.map ev) H K':=fun hh w vs ty cs h1 h2=>by obtain⟨w',H',r,v,g1,g2,g3⟩:=hh w vs ty cs h1 h2;exact⟨w',H',r,v,g1,hk _ _ g2,g3⟩
   cases b
   case append=>
    simp only[vc]at h ⊢;split at h
    ·intro w va vx ty h1 h2 h3;obtain⟨w',H',r,v,g1,g2,g3⟩:=h w va vx ty h1 h2 h3;exact⟨w',H',r,v,g1,hk _ _ g2,g3⟩
    ·exact h.elim
   case len=>exact quiet h
   case cap=>exact quiet h
   case max=>exact quiet h
   case min=>exact quiet h
   all_goals exact bvc h
  all_goals exact other h
 all_goals first
  |exact quiet h
  |exact other h
-- what is quiet, what is an effect
def qd:Op->Bool
 |.buildSlice ..=>true
 |_=>false
abbrev AS:=TE×TE×TE
def tU(A:AS)(o:Oper):Bool:=match o.dst with
 |some t=>A.2.1.contains t
 |none=>false
def oF(A:AS)(o:Oper):Bool:=match o.dst with
 |some t=>A.2.2.contains t
 |none=>false
def oe(A:AS)(o:Oper):Bool:=o.guard.isSome && oF A o && iU o.op
def mN(A:AS)(o:Oper):Bool:=(o.guard.isNone && !dn o.op && !ow o.op && !(qd o.op && !oF A o) && !tU A o) || oe A o
def z8(P:TL)(ev:TH)(H:Hp)(K:AV->Prop):Op->Prop
 |.call { callee:=.value f,args,.. }=>∃r,(ff P (ev f) (args.toList.map ev) H fun r' H'=>r'=r/\H'=H)/\K r
 |.lookup t m k c=>∃r,jy P (.lookup t m k c) 0 ev H (fun r' H'=>r'=r/\H'=H)/\K r
 |_=>False
def oo(o:Oper):Bool:=match o.op with
 |.load ..=>true
 |.lookup ..=>true
 |.call { callee:=.value _,.. }=>true
 |.call { callee:=.invoke ..,.. }=>true
 |.call { callee:=.builtin .len,argTypes,.. }=>jY.contains (argTypes.toList.headD 0)
 |_=>false
def ny(A:AS)(o:Oper):Bool:=match o.op with
 |.alloc _=>true
 |.box ..=>true
 |.store ..=>!A.1.isEmpty && !A.2.2.contains 1000000
 |.call { callee:=.value _,.. }=>oF A o
 |.call { callee:=.builtin .append,.. }=>oF A o
 |.buildSlice ..=>oF A o
 |.makeSlice ..=>oF A o
 |_=>false
def oO(o:Oper):Bool:=match o.op with
 |.load ..=>o.guard.isNone
 |_=>false
def eo(A:AS)(H H':Hp):Prop:=∀i r,A.1.contains i=false->H.get i=some r->H'.get i=some r\/(A.1.contains (i+16)=true/\∃t c c' cs,r=.var t (c::cs)/\H'.get i=some (.var t (c'::cs)))
def eo.refl(A:AS)(H:Hp):eo A H H:=fun _ _ _ h=>.inl h
def eo.trans{L:AS}{A B C:Hp}(h:eo L A B)(k:eo L B C):eo L A C:=fun i r ha e=>by
 rcases h i r ha e with h1|⟨h0,t,c,c',cs,rfl,h1⟩
 ·exact k i r ha h1
 ·rcases k i _ ha h1 with k1|⟨_,t',d,d',ds,e',k1⟩
  ·exact .inr ⟨h0,t,c,c',cs,rfl,k1⟩
  ·cases e';exact .inr ⟨h0,t,c,d',cs,rfl,k1⟩
theorem eo.put{A:AS}{H:Hp}{i:Nat}{r:Row}(h:H.get i=none):eo A H (H.put i r):=fun j s _ hj=>by
 left
 rw[Hp.bj,if_neg (by rintro rfl;rw[h]at hj;cases hj)];exact hj
variable{A:AS}{i:Nat}
def eo.set{H:Hp}{r:Row}(h:A.1.contains i=true):eo A H (H.put i r):=fun j s ha hj=>by
 left
 rw[Hp.bj,if_neg (by rintro rfl;rw[h]at ha;cases ha)];exact hj
def sq(A:AS):AV->Bool
 |.pt i _ _ j=>!A.1.contains i && (decide (1<=j) || !A.1.contains (i+16))
 |_=>true
def Bb(A:AS):AV->Bool
 |.pt i _ _ _=>A.1.contains i
 |_=>false
def iT(A:AS)(ev:TH):Op->Bool
 |.load _ x=>sq A (ev x)
 |.store _ a _=>(A.1.isEmpty || A.2.2.contains 1000000) || Bb A (ev a)
 |_=>true
variable{H':Hp}
def Ph{H:Hp}(h:eo A H H'){a:AV}(ha:sq A a=true){x:Prop×TB}(hc:pP H a=some x):pP H' a=some x:=by
 unfold pP at*;split at hc
 ·exact hc
 ·rename_i i m k j;have ha:A.1.contains i=false/\(1<=j\/A.1.contains (i+16)=false):=by
   simp only[sq,Bool.and_eq_true,Bool.or_eq_true,Bool.not_eq_true',decide_eq_true_eq]at ha;exact ha
  cases e:H.get i with
  |none=>rw[e]at hc;cases hc
  |some r=>
   rw[e]at hc;rcases h i r ha.1 e with h1|⟨h0,t,c,c',cs,rfl,h1⟩
   ·simp only[h1];exact hc
   ·rcases ha.2 with h2|h2
    ·obtain⟨j',rfl⟩:∃j',j=j'+1:=⟨j-1,jB⟩;simp only[h1,List.drop_succ_cons]at hc ⊢;exact hc
    ·rw[h0]at h2;cases h2
 ·cases hc
def JV{H:Hp}(h:eo A H H'){a:AV}(ha:sq A a=true)(hq:(o0 P H t a).1):o0 P H' t a=o0 P H t a:=by
 unfold o0 at*;cases e:pP H a with
 |none=>rw[e]at hq;exact hq.elim
 |some x=>rw[Ph h ha e]
def fH(P:TL)(ev:TH)(H:Hp)(ty:TG)(K:S8)(op:Op):Prop:=if ow op then(vq P ev H op).1/\K (vq P ev H op).2 H else match op with
 |.buildSlice t n parts=>pd P t n (parts.toList.map fun p=>(p.1,ev p.2)) fun r=>K r H
 |op=>vc P ev H ty K op
def Jo{ev:TH}(t:TG)(n:Nat)(parts:Array (Nat×Operand)):fH P ev H ty K (.buildSlice t n parts)=pd P t n (parts.toList.map fun p=>(p.1,ev p.2)) fun r=>K r H:=rfl
def D4{ev:TH}{op:Op}(h1:¬ow op=true)(h2:¬qd op=true):fH P ev H ty K op=vc P ev H ty K op:=by unfold fH;rw[if_neg h1];cases op<;>first|rfl|(exact(h2 rfl).elim)
def tA(P:TL)(A:AS)(ev:TH)(H:Hp)(K:S8):Op->Prop
 |.call { callee:=.value f,args,.. }=>ff P (ev f) (args.toList.map ev) H fun r H'=>eo A H H'/\K r H'
 |.buildSlice t n parts=>oz P H t n (parts.toList.map fun p=>(p.1,ev p.2)) fun r H'=>eo A H H'/\K r H'
 |.makeSlice t l c=>jy P (.makeSlice t l c) 0 ev H fun r H'=>eo A H H'/\K r H'
 |.call { callee:=.builtin .append,args,argTypes }=>vc P ev H 0 (fun r H'=>eo A H H'/\K r H') (.call ⟨.builtin .append,args,argTypes⟩)
 |_=>False
def fG(A:AS)(P:TL)(ops:Array Oper)(K:S7):List Oper->S7
 |[],F,H=>K F H
 |o::rest,F,H=>match o.guard with
  |none=>if tU A o=true then z8 P (cr F) H (fun r=>fG A P ops K rest (cL F o.dst r) H) o.op else if oF A o=true then tA P A (cr F) H (fun r H'=>fG A P ops K rest (cL F o.dst r) H') o.op else iT A (cr F) o.op=true/\fH P (cr F) H o.type (fun r H'=>fG A P ops K rest (cL F o.dst r) H') o.op
  |some (j,want)=>match lT ops F j want with
   |some b=>if oe A o=true then(b=true->gl F o.op=true/\tA P A (bL F) H (fun r H'=>fG A P ops K rest (cL F o.dst r) H') o.op)/\(b=false->fG A P ops K rest (cL F o.dst (.gd false (.raw (.bool false)))) H)
    else(iU o.op || iJ o.op)=true/\eQ P F H b (fun r=>fG A P ops K rest (cL F o.dst r) H) o.op
   |none=>False
def Pk(ts:List TG)(args:TB)(h:jY.contains (ts.headD 0)=false):mc P H .len ts args=mc P H' .len ts args:=by
 unfold mc;cases ts with
 |nil=>rfl
 |cons t ts=>
  cases args with
  |nil=>rfl
  |cons x l=>
   show tO P H t x=tO P H' t x;unfold tO;have h:jY.contains t=false:=h;have hn:¬(jY.contains t=true):=by rw[h];exact Bool.false_ne_true
   cases x with
   |raw v=>cases v<;>rfl
   |mr i=> show(if jY.contains t=true then _ else ig)=(if jY.contains t=true then _ else ig);rw[if_neg hn,if_neg hn]
   |_=>rfl
variable{o:Oper}
def wZ{ev:TH}(h:oo o=false):vq P ev H o.op=vq P ev H' o.op:=by
 obtain⟨dst,op,ty,pos,after,guard⟩:=o;cases op<;>first
  |rfl
  |(simp[oo]at h;done)
  |skip
 rename_i c;obtain⟨callee,args,ts⟩:=c;cases callee
 case builtin b=>
  cases b
  case len=>exact Pk _ _ h
  all_goals(simp only[vq];unfold mc;generalize ts.toList=a;generalize args.toList.map ev=b;cases a<;>cases b<;>rfl)
 all_goals rfl
variable{F:TB}
def Md{g:Bool}{K:AV->Prop}(h:oo o=false):eQ P F H g K o.op=eQ P F H' g K o.op:=by
 have hc:iU o.op=false:=by
  obtain⟨dst,op,ty,pos,after,guard⟩:=o;cases op<;>first
   |rfl
   |(rename_i c;obtain⟨callee,args,ts⟩:=c;cases callee<;>first|rfl|simp[oo]at h)
 by_cases hp:xm o.op=true
 ·obtain⟨dst,op,ty,pos,after,guard⟩:=o;cases op<;>first|(cases hp;done)|rfl|(rename_i c;obtain⟨callee,args,ts⟩:=c;cases callee<;>first|(cases hp;done)|simp[oo]at h)
 have hp:xm o.op=false:=by simpa using hp
 rw[xY _ hc hp,xY _ hc hp,wZ h]
def Sa{ev:TH}{o:Op}(h:dn o=true):vc P ev H ty K o=((vq P ev H o).1/\K (vq P ev H o).2 H):=by
 cases o
 case binOp op t x y t'=>cases op<;>first|(simp[dn]at h;done)|simp[vc,dn]
 case call c=>
  obtain⟨callee,args,ts⟩:=c;cases callee
  case builtin b=>cases b<;>first|(simp[dn]at h;done)|simp[vc,dn]
  all_goals(simp[dn]at h;done)
 all_goals first
  |(simp[dn]at h;done)
  |simp[vc,dn]
def GN{K:S7}{rest:List Oper}(h:fG A P ops K (o::rest) F H) :
  (mN A o=true/\∀G,xI ops o F G->mJ P ops o G H fun G' H'=>(ny A o=true->eo A H H')/\∃r,G'=cL G o.dst r/\fG A P ops K rest (cL F o.dst r) H')\/
  (mN A o=false/\∃r,QV P ops o F H r/\(oo o=false->∀H',QV P ops o F H' r)/\(oO o=true->∀H',eo A H H'->QV P ops o F H' r)/\fG A P ops K rest (cL F o.dst r) H):=by
 unfold fG at h;split at h
 ·rename_i hg;by_cases Wd:tU A o=true
  ·rw[if_pos Wd]at h;refine .inr ⟨by simp[mN,oe,hg,Wd],?_⟩;obtain⟨dst,op,ty,pos,after,guard⟩:=o;simp only at hg;subst hg;cases op<;>first|exact h.elim|skip
   case call=>
    rename_i c;obtain⟨callee,args,ts⟩:=c;cases callee<;>first|exact h.elim|skip
    obtain⟨r,h1,h2⟩:=h;exact⟨r,Ek h1,fun hd=>by simp[oo]at hd,fun Vj=>by simp[oO]at Vj,h2⟩
   case lookup=>
    rename_i t m k c;obtain⟨r,h1,h2⟩:=h;refine⟨r,fun G hG=>?_,fun hd=>by simp[oo]at hd,fun Vj=>by simp[oO]at Vj,h2⟩;refine qj (K:=fun F' H'=>F'=cL G dst r/\H'=H) rfl ?_;rw[vE _ hG.1];have e:∀K:S8,vc P (cr F) H ty K (.lookup t m k c)=jy P (.lookup t m k c) ty (cr F) H K:=fun K=>by simp[vc,dn]
    show vc P (cr F) H ty _ (.lookup t m k c);rw[e];intro w ρ dst' pos' after' guard' g1 g2;obtain⟨w',H',r',hk,g⟩:=h1 w ρ dst' pos' after' guard' g1 g2;exact⟨w',H',r',⟨by rw[hk.1],hk.2⟩,g⟩
  rw[if_neg Wd]at h;by_cases Vp:oF A o=true
  ·rw[if_pos Vp]at h;have Wd:tU A o=false:=by simpa using Wd
   obtain⟨dst,op,ty,pos,after,guard⟩:=o;simp only at hg;subst hg;cases op
   case call=>
    rename_i c _;obtain⟨callee,args,ts⟩:=c;cases callee
    case value f _=> refine .inl ⟨by simp[mN,dn,ow,qd,Wd],fun G hG=>?_⟩;refine qj rfl ?_;rw[vE _ hG.1];exact ze (f:=cr F f) (args:=args.toList.map (cr F)) h fun r H' hk=>⟨fun _=>hk.1,r,rfl,hk.2⟩
    case builtin bi _=>
     cases bi
     case append=> refine .inl ⟨by simp[mN,dn,ow,qd,Wd],fun G hG=>?_⟩;refine qj rfl ?_;rw[vE _ hG.1];exact DO (K:=fun r H'=>eo A H H'/\fG A P ops K rest (cL F dst r) H') (.call ⟨.builtin .append,args,ts⟩) (fun r H' hk=>⟨fun _=>hk.1,r,rfl,hk.2⟩) h
     all_goals exact h.elim
    all_goals exact h.elim
   case buildSlice=> refine .inl ⟨by simp[mN,dn,ow,qd,Wd,Vp],fun G hG=>?_⟩;refine qj rfl ?_;rw[vE _ hG.1];exact IQ h fun r H' hk=>⟨fun _=>hk.1,r,rfl,hk.2⟩
   case makeSlice=>
    rename_i t l c _;refine .inl ⟨by simp[mN,dn,ow,qd,Wd],fun G hG=>?_⟩;refine qj rfl ?_;rw[vE _ hG.1];have e:∀K:S8,vc P (cr F) H ty K (.makeSlice t l c)=jy P (.makeSlice t l c) ty (cr F) H K:=fun K=>by simp[vc,dn]
    show vc P (cr F) H ty _ (.makeSlice t l c);rw[e];intro w ρ dst' pos' after' guard' h1 h2;obtain⟨w',H',r,hk,g⟩:=h w ρ dst' pos' after' guard' h1 h2;exact⟨w',H',r,⟨fun _=>hk.1,r,rfl,hk.2⟩,g⟩
   all_goals exact h.elim
  rw[if_neg Vp]at h;obtain⟨hA,h⟩:=h;by_cases he:ow o.op=true
  ·unfold fH at h;rw[if_pos he]at h;exact .inr ⟨by simp[mN,oe,hg,he],_,vF hg h.1,fun hd H'=>by rw[wZ hd];exact vF hg (by rw[<-wZ (H:=H) hd];exact h.1),fun Vj=>by obtain⟨dst,op,ty,pos,after,guard⟩:=o;cases op<;>first|(simp[ow]at he;done)|(simp[oO]at Vj;done),h.2⟩
  ·by_cases hl:qd o.op=true
   ·refine .inr ⟨by simp[mN,oe,hg,hl,Vp],?_⟩;obtain⟨dst,op,ty,pos,after,guard⟩:=o;simp only at hg;subst hg;cases op<;>first|(simp[qd]at hl;done)|skip
    rename_i t n parts;rw[Jo]at h;obtain⟨r,h1,h2⟩:=BP h;exact⟨r,A0 (h2 _ rfl),fun _ H'=>A0 (h2 _ rfl),fun Vj=>by simp[oO]at Vj,h1⟩
   ·rw[D4 he hl]at h;by_cases hq:dn o.op=true
    ·have h':(vq P (cr F) H o.op).1/\fG A P ops K rest (cL F o.dst (vq P (cr F) H o.op).2) H:=by
      rw[Sa hq]at h;exact h
     refine .inr ⟨by simp[mN,oe,hg,hq],_,vF hg h'.1,fun hd H'=>by rw[wZ hd];exact vF hg (by rw[<-wZ (H:=H) hd];exact h'.1),fun Vj H' Ts=>?_,h'.2⟩;obtain⟨dst,op,ty,pos,after,guard⟩:=o;cases op<;>first|(simp[oO]at Vj;done)|skip
     rename_i t a;have e:vq P (cr F) H' (.load t a)=vq P (cr F) H (.load t a):=JV Ts hA h'.1;have:=vF (P:=P) (ops:=ops) (H:=H') (o:=⟨dst,.load t a,ty,pos,after,guard⟩) (F:=F) hg (by rw[e];exact h'.1);rw[e]at this;exact this
    ·refine .inl ⟨by simp[mN,oe,hg];simp at hq he hl Wd;exact⟨⟨⟨hq,he⟩,.inl hl⟩,Wd⟩,fun G hG=>?_⟩;refine qj hg ?_;rw[vE o.op hG.1];by_cases WH:ny A o=true
     ·obtain⟨dst,op,ty,pos,after,guard⟩:=o;cases op<;>first|(simp[ny]at WH;done)|(exact(Vp WH).elim)|skip
      case call c=>
       obtain⟨callee,args,ts⟩:=c;cases callee
       case builtin bi=>cases bi<;>first|(exact(Vp WH).elim)|(simp[ny]at WH;done)
       all_goals first|(exact(Vp WH).elim)|(simp[ny]at WH;done)
      case alloc t=>
       simp only[vc,nH]at h ⊢;split at h
       ·obtain⟨i,h2,h3⟩:=h;exact⟨i,h2,fun _=>eo.put h2,_,rfl,h3⟩
       ·exact h.elim
      case box t x=>obtain⟨h1,i,h2,h3⟩:=h;exact⟨h1,i,h2,fun _=>eo.put h2,_,rfl,h3⟩
      case store t a x=>
       simp only[ny,Bool.and_eq_true,Bool.not_eq_true']at WH;simp only[iT,WH.1,WH.2,Bool.false_or]at hA;simp only[vc,vn]at h ⊢;split at h
       ·rename_i i m k j n ha hn;have hi:A.1.contains i=true:=by rw[ha]at hA;exact hA
        split at h
        ·rename_i r hr;obtain⟨h1,h2⟩:=h;exact⟨h1,fun _=>eo.set hi,_,rfl,h2⟩
        ·exact h.elim
       ·exact h.elim
     ·exact DO o.op (fun r H' hk=>⟨fun haa=>(WH haa).elim,r,rfl,hk⟩) h
 ·rename_i j want hg;split at h
  ·rename_i b hb;by_cases Xi:oe A o=true
   ·rw[if_pos Xi]at h;refine .inl ⟨by simp[mN,Xi],fun G hG=>?_⟩;obtain⟨dst,op,ty,pos,after,guard⟩:=o;simp only at hg;subst hg;have hc:iU op=true:=by unfold oe at Xi;simp only[Bool.and_eq_true]at Xi;exact Xi.2
    cases op<;>first|(cases hc;done)|skip
    rename_i c;obtain⟨callee,args,ts⟩:=c;cases callee<;>first|(cases hc;done)|skip
    rename_i f;have hev:∀x∈(Op.call ⟨.value f,args,ts⟩).operands.toList,cr G x=cr F x:=hG.1;have hbG:=hG.2 j want rfl;rw[hb]at hbG;have hGg:∀x∈(Op.call ⟨.value f,args,ts⟩).operands.toList,bL G x=bL F x:=fun x hx=>by unfold bL;rw[hev x hx]
    refine oX rfl hbG (fun T0 w tm Q next h1 h2 hn=>?_) (fun T0=>⟨.gd false (.raw (.bool false)),pU rfl,⟨fun _=>eo.refl _ _,_,rfl,h.2 T0⟩⟩);obtain⟨ok,TY⟩:=h.1 T0;have ok:gl G (.call ⟨.value f,args,ts⟩)=true:=by unfold gl at ok ⊢;rw[List.all_eq_true]at ok ⊢;exact fun x hx=>by rw[hev x hx];exact ok x hx
    have VT:=qo ok;have e1:kG G f=bL F f:=(VT f (by simp[Op.operands,Call.operands])).trans (hGg f (by simp[Op.operands,Call.operands]));have e2:args.toList.map (kG G)=args.toList.map (bL F):=List.map_congr_left fun x hx=>(VT x (by simp[Op.operands,Call.operands]at hx ⊢;exact .inr hx)).trans (hGg x (by simp[Op.operands,Call.operands]at hx ⊢;exact .inr hx))
    refine xB (ev:=kG G) e1 e2 TY h1 (rP h2) fun v r' w' H' hR g1 g2 g3=>?_
    rw[Act.put_eq];exact hn _ w' _ H' ⟨fun _=>hR.1,r',rfl,hR.2⟩ g1 ((h2.ext g3).put dst g2 []) g3
   rw[if_neg Xi]at h;obtain⟨hq,hv⟩:=h;obtain⟨r,h1,h2⟩:=zY hv;have h3:=h2 F (fun r'=>r'=.gd b r) (fun _ _=>rfl) rfl;exact .inr ⟨by simp[mN,hg,Xi],_,CY hg hb hq h3,fun hd H'=>CY hg hb hq (by rw[Md hd]at h3;exact h3),(fun Vj=>by
    unfold oO at Vj;split at Vj
    ·rw[hg]at Vj;cases Vj
    ·cases Vj),h1⟩
  ·exact h.elim
def dJ(l:List Oper)(i:Nat):Oper:=l.getD i default
def kR(A:AS)(l:List Oper)(i:Nat):Bool:=mN A (dJ l i)
def oR(A:AS)(E:TE)(l:List Oper)(ps:List TE):TE->TE->Bool
 |done,[]=>(List.range l.length).all fun i=>done.contains i
 |done,i::rest=>((ps.getD i []).all fun k=>done.contains k) && !done.contains i && decide (i<l.length) &&
   (!kR A l i || ((rest.all fun k=>(ps.getD k []).contains i || E.contains k) && done.all fun q=>kR A l q || !oo (dJ l q) || (ps.getD i []).contains q || (ny A (dJ l i) && oO (dJ l q)))) && oR A E l ps (i::done) rest
def pu(A:AS)(E:TE)(l:List Oper)(ord:TE):Bool:=ue l && oR A E l (kq l) [] ord && E.all fun i=>!tU A (dJ l i) && !oF A (dJ l i)
def mem(done:TE)(i:Nat):Bool:=done.contains i
variable{l:List Oper}{done:TE}
def tH{E:TE}{rest:TE}(h:oR A E l (kq l) done (i::rest)=true) :
  (∀k∈(kq l).getD i [],k∈done)/\i ∉ done/\i<l.length/\(kR A l i=true->(∀k∈rest,i∈(kq l).getD k []\/k∈E)/\∀q∈done,kR A l q=true\/oo (dJ l q)=false\/q∈(kq l).getD i []\/(ny A (dJ l i)=true/\oO (dJ l q)=true))/\oR A E l (kq l) (i::done) rest=true:=by
 simp only[oR,Bool.and_eq_true,List.all_eq_true,List.contains_iff_mem,Bool.not_eq_true',decide_eq_true_eq,Bool.or_eq_true]at h;obtain⟨⟨⟨⟨h1,h2⟩,h3⟩,h4⟩,h5⟩:=h;refine⟨h1,by simpa using h2,h3,fun he=>?_,h5⟩;rcases h4 with h4|h4
 ·rw[he]at h4;cases h4
 ·exact⟨h4.1,fun q hq=>by
   rcases h4.2 q hq with((h|h)|h)|h
   ·exact .inl h
   ·exact .inr (.inl h)
   ·exact .inr (.inr (.inl h))
   ·exact .inr (.inr (.inr h))⟩
theorem ON{A:AS}{E:TE}{l:List Oper}:∀{rest done:TE},oR A E l (kq l) done rest=true->∀e∈rest,kR A l e=true->∀q∈done,kR A l q=true\/oo (dJ l q)=false\/q∈(kq l).getD e []\/(ny A (dJ l e)=true/\oO (dJ l q)=true)
 |[],_,_=>fun e he=>by simp at he
 |i::rest,done,h=>fun e he WM q hq=>by
  obtain⟨_,_,_,h4,h5⟩:=tH h;rcases List.mem_cons.1 he with rfl|he
  ·exact(h4 WM).2 q hq
  ·exact ON h5 e he WM q (List.mem_cons_of_mem _ hq)
theorem CP{A:AS}{E:TE}{l:List Oper}:∀{rest done:TE},oR A E l (kq l) done rest=true->∀i,i<l.length->i∈done\/i∈rest
 |[],done,h=>fun i hi=>by simp only[oR,List.all_eq_true,List.mem_range,List.contains_iff_mem]at h;exact .inl (h i hi)
 |j::rest,done,h=>fun i hi=>by
  obtain⟨_,_,_,_,h5⟩:=tH h;rcases CP h5 i hi with h|h
  ·rcases List.mem_cons.1 h with rfl|h
   ·exact .inr jE
   ·exact .inl h
  ·exact .inr (List.mem_cons_of_mem _ h)
def lN:mem done i=true<->i∈done:=by simp[mem]
def Ad(done:TE)(i:Nat):(fun k=>mem (i::done) k)=fun k=>mem done k || k == i:=by
 funext k
 rw[Bool.eq_iff_iff];simp[mem,or_comm]
def yL(ho:l[i]?=some o){e:Edge}(he:e∈o.after.toList)(hb:Region.binds .any e=true):e.on∈(kq l).getD i []:=by rw[Dv ho,Ae];exact List.mem_flatMap.2 ⟨e,List.mem_filter.2 ⟨he,hb⟩,jE⟩
theorem Gp{os:List Oper}{rs F:TB}{L L':TK}{s:Nat}(h:∀k o,os[k]?=some o->o.dst=some s->L k=L' k):∀m,lE os rs L F s m=lE os rs L' F s m
 |0=>rfl
 |m+1=>by
  unfold lE;rw[Gp h m];cases ho:os[m]? with
  |none=>simp
  |some o=>
   simp only[Option.bind_some];by_cases hd:o.dst=some s
   ·rw[h m o ho hd]
   ·simp[hd]
theorem qT{os:List Oper}{rs F:TB}{L:TK}{i:Nat}{r:AV}(hL:L i=false):∀m,FL os (rs.set i r) L F m=FL os rs L F m
 |0=>rfl
 |m+1=>by
  unfold FL;rw[qT hL m];by_cases hm:m=i
  ·subst hm;simp[hL]
  ·have:(rs.set i r).getD m .any=rs.getD m .any:=by simp[List.getElem?_set,Ne.symm hm]
   rw[this]
section
variable {l:List Oper}(O':∀j o,l[j]?=some o->∀e∈o.after.toList,Region.binds .any e=true->e.on<j)
 (Tc:∀i j a b,i<j->l[i]?=some a->l[j]?=some b->tZ l a b=true->i∈(kq l).getD j [])
include O' Tc
variable{L:TK}
theorem Ar(VJ:nT l L){i:Nat}{o:Oper}(ho:l[i]?=some o)(WL:L i=false)(UB:∀e∈o.after.toList,Region.binds .any e=true->L e.on=true) :
  ∀k o' s,l[k]?=some o'->o'.dst=some s->(s∈looks l o\/o.dst=some s)->L k=decide (k<i):=by
 intro k o' s hk hs T6;have TZ:=vM VJ O' (i+1) i jB o ho UB;rcases Nat.lt_trichotomy k i with h|h|h
 ·rw[decide_eq_true h];refine TZ k (Tc k i o' o h hk ho ?_);unfold tZ;rw[hs];rcases T6 with h5|h5
  ·simp[h5]
  ·simp[h5]
 ·subst h;simpa using WL
 ·rw[decide_eq_false jB];cases hv:L k with
  |false=>rfl
  |true=>
   have U0:i∈(kq l).getD k []:=Tc i k o o' h ho hk (by
    unfold tZ;rw[hs];rcases T6 with h5|h5
    ·simp[h5]
    ·simp[h5])
   have:=vM VJ O' (k+1) k jB o' hk (fun e he hb=>VJ k o' hk hv e he hb) i U0;rw[WL]at this;cases this
theorem Fl{rs F:TB}{L':TK}(hL:nT l L)(Vx:nT l L'){i:Nat}{o:Oper}(ho:l[i]?=some o)(h1:L i=false)(h2:L' i=false)
  (h3:∀e∈o.after.toList,Region.binds .any e=true->L e.on=true) (h4:∀e∈o.after.toList,Region.binds .any e=true->L' e.on=true):xI l.toArray o (FL l rs L F l.length) (FL l rs L' F l.length):=by
 refine Ia (by rw[lz,lz]) fun s hs I'=>?_
 rw[lz]at I';rw[rN _ _ _ _ I',rN _ _ _ _ I'];exact(Gp (fun k o' hk hd=>by rw[Ar O' Tc hL ho h1 h3 k o' s hk hd (.inl hs),Ar O' Tc Vx ho h2 h4 k o' s hk hd (.inl hs)]) _).symm
theorem v6{rs F:TB}{L2:TK}(hL:nT l L){i:Nat}{o:Oper}(ho:l[i]?=some o)(h1:L i=false)(h3:∀e∈o.after.toList,Region.binds .any e=true->L e.on=true){r:AV}(hr:rs.getD i .any=r)(VE:∀k,L2 k=(L k || k == i)) :
  cL (FL l rs L F l.length) o.dst r=FL l rs L2 F l.length:=by
 have UX:=(List.getElem?_eq_some_iff.1 ho).1;refine Jk (m':=0) (L':=fun _=>true) (by cases o.dst<;>simp[cL,lz]) fun s hs=>?_
 by_cases hd:o.dst=some s
 ·rw[Bw (L:=L) ho VE (fun k o' hk YG=>Ar O' Tc hL ho h1 h3 k o' s hk YG (.inr hd)) hd _ UX,hd,hr];simp[cL,lz,hs]
 ·rw[BT (L:=L) ho VE hd,<-rN _ _ _ _ hs];cases YG:o.dst with
  |none=>rfl
  |some d=>
   have:d≠s:=fun e=>hd (by rw[YG,e])
   simp[cL,List.getElem?_set,this]
end
structure Inv(A:AS)(E:List Nat)(P:Program)(l:List Oper)(K:List AV->Hp->Prop)(F:List AV)(L:Nat->Bool)(done rest:List Nat)(rs:List AV)(H:Hp):Prop where
 len:rs.length=l.length
 sub:∀i,L i=true->i∈done\/i∈E
 dP:nT l L
 kI:nT l (mem done)
 ord:oR A E l (kq l) done rest=true
 walk:fG A P l.toArray K (rest.map (dJ l)) (FL l rs (mem done) F l.length) H
 wait:∀i∈done,L i=false->kR A l i=false/\i<l.length/\∃D,nT l D/\D i=false/\(∀k,D k=true->k∈done)/\(∀e∈(dJ l i).after.toList,Region.binds .any e=true->D e.on=true)/\
  QV P l.toArray (dJ l i) (FL l rs D F l.length) H (rs.getD i .any)/\(oo (dJ l i)=false->∀H',QV P l.toArray (dJ l i) (FL l rs D F l.length) H' (rs.getD i .any))/\(oO (dJ l i)=true->∀H',eo A H H'->QV P l.toArray (dJ l i) (FL l rs D F l.length) H' (rs.getD i .any))
def zO(hi:i<l.length):l[i]?=some (dJ l i):=by simp[dJ,hi]
def ra(P:TL)(l:List Oper):TE->Prop
 |[]=>True
 |i::E=>(match (dJ l i).op with|.alloc t=>(dM P t).isSome=true|_=>False)/\(dJ l i).guard=none/\ra P l E
theorem zw{P:TL}{l:List Oper}:∀{E:TE},ra P l E->∀i∈E,∃t zs,(dJ l i).op=.alloc t/\dM P t=some zs/\(dJ l i).guard=none
 |[],_,i,hi=>by simp at hi
 |j::E,h,i,hi=>by
  obtain⟨h1,h2,h3⟩:=h;rcases List.mem_cons.1 hi with rfl|hi
  ·split at h1
   ·rename_i t e;obtain⟨zs,hz⟩:=Option.isSome_iff_exists.1 h1;exact⟨t,zs,e,hz,h2⟩
   ·exact h1.elim
  ·exact zw h3 i hi
def Cg(A:AS)(P:TL)(l:List Oper)(E:TE):Prop:=ra P l E/\∀i∈E,tU A (dJ l i)=false/\oF A (dJ l i)=false
def Kl{P:TL}{E:TE}(h:Cg A P l E)(hi:i∈E):kR A l i=true/\ny A (dJ l i)=true:=by obtain⟨t,zs,e,_,hg⟩:=zw h.1 i hi;simp[kR,mN,ny,e,hg,dn,ow,qd,(h.2 i hi).1]
def Hid(P:TL)(l:List Oper)(L:TK)(done:TE)(rs:TB)(w0 w:NW)(β:Nat->Nat):Prop:=∀i,L i=true->i ∉ done->
 (∃t cur,(dJ l i).op=.alloc t/\dM P t=some cur.toList/\rs.getD i .any=.raw (.pointer (some ⟨β i,0,none⟩))/\w.heap[β i]?=some (.cells cur t (0,0))/\w.O (β i)/\w0.heap.size<=β i/\β i<w.heap.size/\∀j m t s,w.nm j m≠some (.at (β i) t s))/\∀j,L j=true->j ∉ done->β i=β j->i=j
def Hid.ext{P:TL}{L:TK}{rs:TB}{w0 w w':NW}{β:Nat->Nat}{H:Hp}(h:Hid P l L done rs w0 w β)(e:Ext w H w' H'):Hid P l L done rs w0 w' β:=fun i h1 h2=>by obtain⟨⟨t,cur,a1,a2,a3,a4,a5,a6,a7,a8⟩,b⟩:=h i h1 h2;obtain⟨e1,e2,e3⟩:=e.rest (β i) a7 a5 a8;exact⟨⟨t,cur,a1,a2,a3,e1.trans a4,e2,a6,Nat.lt_of_lt_of_le a7 e.size,e3⟩,b⟩
def NQ{w:NW}{H:Hp}(r:aI w H){b:Nat}{cur:TI}(hi:H.get i=none)(hb:w.heap[b]?=some (.cells cur t (0,0)))(hO:w.O b)(O':b<w.heap.size)(Te:∀j m t s,w.nm j m≠some (.at b t s)) :
  aI (w.name i 0 (.at b cur.size 0)) (H.put i (.var t (cur.toList.map .raw)))/\Keep pT w (w.name i 0 (.at b cur.size 0))/\aw (w.name i 0 (.at b cur.size 0)) (.pt i 0 0 0) (.pointer (some ⟨b,0,none⟩)):=by
 have T9:∀j n,(w.name i 0 (.at b cur.size 0)).nm j n=if j=i/\n=0 then some (Rz.at b cur.size 0)else w.nm j n:=fun _ _=>rfl
 have kp:Keep pT w (w.name i 0 (.at b cur.size 0)):=⟨Nat.le_refl _,fun _ _ h=>⟨rfl,h⟩,fun j n z _ h=>by
  rw[T9,if_neg]
  ·exact h
  ·rintro⟨rfl,rfl⟩;rw[r.none hi]at h;cases h⟩
 refine⟨{ rows:=fun j s hj=>?_,cU:=fun j n z hz=>?_,inj:=fun j n j' n' b' t1 s1 t2 s2 h1 h2=>?_,own:=fun j n b' t1 s1 h=>?_,fin:=r.fin,bO:=r.bO.aU kp },kp,?_⟩
 ·rw[Hp.bj]at hj;split at hj
  ·rename_i e;subst e;cases hj;refine⟨trivial,.at b cur.size 0,by rw[T9];exact if_pos ⟨rfl,rfl⟩,rfl,cur,hb,⟨rfl,by show(cur.toList.map AV.raw).length<=_;simp⟩,fun k a v ha hv=>?_⟩;have ha:(cur.toList.map AV.raw)[k]?=some a:=ha;simp only[List.getElem?_map,Array.getElem?_toList,hv,Option.map_some,Option.some.injEq]at ha;subst ha;exact .raw _
  ·rename_i e;obtain⟨h1,z,h2,h3⟩:=r.rows j s hj;refine⟨h1,z,by rw[T9,if_neg (fun h=>e h.1)];exact h2,?_⟩;cases z with
   |nil=>exact h3
   |«at» b' t' st=> obtain⟨g1,UY,g2,g3,g5⟩:=h3;exact⟨g1,UY,g2,g3,fun k a v ha hv=>(g5 k a v ha hv).aU kp (l6 a)⟩
 ·rw[T9]at hz;rw[Hp.bj];split at hz
  ·rename_i e;exact⟨_,by rw[if_pos e.1],by rw[e.2];exact Nat.zero_le _⟩
  ·obtain⟨r',h1,h2⟩:=r.cU j n z hz;have e:j≠i:=fun e=>by subst e;rw[hi]at h1;cases h1
   exact⟨r',by rw[if_neg e];exact h1,h2⟩
 ·rw[T9]at h1 h2;split at h1<;>split at h2
  ·rename_i e1 e2;rw[e1.1,e2.1]
  ·cases h1;exact(Te _ _ _ _ h2).elim
  ·cases h2;exact(Te _ _ _ _ h1).elim
  ·exact r.inj _ _ _ _ _ _ _ _ _ h1 h2
 ·rw[T9]at h;split at h
  ·cases h;exact hO
  ·exact r.own _ _ _ _ _ h
 ·have:=aw.pt (w:=w.name i 0 (.at b cur.size 0)) i 0 0 0 b cur.size 0 (NW.cw _ _ _ _);simpa using this
def QQ{w0 w:NW}{H0 H:Hp}(e:Ext w0 H0 w H)(r:aI w H){b sz:Nat}(hi:H.get i=none)(hb:w0.heap.size<=b)(hB:H'.B=H.B):Ext w0 H0 (w.name i 0 (.at b sz 0)) H':={
 size:=e.size,free:=e.free
 names:=fun j n z hq h=>by
  have:=e.names j n z hq h;show(if j=i/\n=0 then _ else _)=_;rw[if_neg]
  ·exact this
  ·rintro⟨rfl,rfl⟩;rw[r.none hi]at this;cases this
 os:=e.os,tape:=e.tape,output:=e.output
 rest:=fun c hc hO Te=>by
  obtain⟨e1,e2,e3⟩:=e.rest c hc hO Te;refine⟨e1,e2,fun j n t s h=>?_⟩;have h:(if j=i/\n=0 then some (Rz.at b sz 0)else w.nm j n)=some (.at c t s):=h;split at h
  ·cases h;omega
  ·exact e3 _ _ _ _ h
 base:=hB.trans e.base }
theorem GV{os:List Oper}{rs F:TB}{L:TK}{i:Nat}{r:AV}:∀(m:Nat) (s:Nat) (a:AV),(FL os (rs.set i r) L F m)[s]?=some a->(FL os rs L F m)[s]?=some a\/(a=r/\(FL os rs L F m)[s]?=some (rs.getD i .any)/\i<rs.length)
 |0=>fun s a h=>.inl h
 |m+1=>fun s a h=>by
  have ih:=GV (os:=os) (rs:=rs) (F:=F) (L:=L) (i:=i) (r:=r) m;have hl:(FL os (rs.set i r) L F m).length=(FL os rs L F m).length:=by rw[lz,lz]
  unfold FL at h ⊢;cases hL:L m with
  |false=>simp only[hL,Bool.false_eq_true,if_false]at h ⊢;exact ih s a h
  |true=>
   simp only[hL,if_true]at h ⊢;cases hd:(os[m]?).bind (·.dst)with
   |none=>rw[hd]at h;exact ih s a h
   |some d=>
    rw[hd]at h;simp only[cL]at h ⊢;rw[List.getElem?_set]at h ⊢;by_cases e:d=s
    ·subst e;simp only[if_true]at h ⊢;rw[hl]at h;split at h
     ·rename_i O';rw[if_pos O'];simp only[Option.some.injEq]at h;by_cases hm:i=m
      ·subst hm;by_cases hi:i<rs.length
       ·refine .inr ⟨?_,rfl,hi⟩;rw[<-h];simp[hi]
       ·refine .inl ?_;rw[<-h];simp[hi,List.getElem?_set]
      ·refine .inl ?_;rw[<-h];simp[List.getElem?_set,hm]
     ·cases h
    ·simp only[if_neg e]at h ⊢;exact ih s a h
section
variable {A:AS}{E:TE}{l:List Oper}{K:S7}{F:TB}(hok:ue l=true)(hE:Cg A P l E)
include hok
variable{done:TE}{i:Nat}
theorem Ay(hi:i<l.length)(hd:nT l (mem done))(hp:∀k∈(kq l).getD i [],k∈done):nT l (mem (i::done)):=fun j o ho hj e he hb=>by
 rw[lN]at hj ⊢;rcases List.mem_cons.1 hj with rfl|hj
 ·exact List.mem_cons_of_mem _ (hp _ (yL ho he hb))
 ·exact List.mem_cons_of_mem _ (lN.1 (hd j o ho (lN.2 hj) e he hb))
include hE
theorem Ao:∀(rest:TE) {L:TK} {done:TE} {rs:TB},Inv A E P l K F L done rest rs H->
  ∃done' UH Ul,Inv A E P l K F L done' UH Ul H/\(∀i r,UH=i::r->kR A l i=true)/\FL l Ul L F l.length=FL l rs L F l.length/\UH.length<=rest.length/\(∀w0 w β,Hid P l L done rs w0 w β->Hid P l L done' Ul w0 w β)
 |[],L,done,rs,h=>⟨done,[],rs,h,(fun i r e=>by cases e),rfl,Nat.le_refl _,fun _ _ _ h=>h⟩
 |i::rest,L,done,rs,h=>by
  obtain⟨O',Tc⟩:=v8 hok;cases he:kR A l i with
  |true=>exact⟨done,i::rest,rs,h,fun j r e=>by cases e;exact he,rfl,Nat.le_refl _,fun _ _ _ h=>h⟩
  |false=>
   obtain⟨hp,Zp,UX,_,h5⟩:=tH h.ord;have ho:=zO UX;have hw:=h.walk;rw[List.map_cons]at hw;rcases GN hw with⟨hx,_⟩|⟨_,r,q1,q2,q2',q3⟩
   ·unfold kR at he;rw[he]at hx;cases hx
   have XR:mem done i=false:=by rw[<-Bool.not_eq_true,lN];exact Zp
   have YH:L i=false:=by
    cases e:L i with
    |false=>rfl
    |true=>
     rcases h.sub i e with h6|h6
     ·exact(Zp h6).elim
     ·rw[(Kl (A:=A) hE h6).1]at he;cases he
   have UB:∀e∈(dJ l i).after.toList,Region.binds .any e=true->mem done e.on=true:=fun e he hb=>lN.2 (hp _ (yL ho he hb))
   have Td:∀D:TK,(∀k,D k=true->k∈done)->FL l (rs.set i r) D F l.length=FL l rs D F l.length:=fun D hD=>qT (by
    cases e:D i with
    |false=>rfl
    |true=>exact(Zp (hD i e)).elim) _
   have Ua:(rs.set i r).getD i .any=r:=by simp[h.len,UX]
   have UD:∀j,j≠i->(rs.set i r).getD j .any=rs.getD j .any:=fun j hj=>by simp[List.getElem?_set,Ne.symm hj]
   have Wp:=v6 (rs:=rs.set i r) (F:=F) O' Tc h.kI ho XR UB Ua (L2:=mem (i::done)) (fun k=>by rw[show mem (i::done) k=(fun k=>mem (i::done) k) k from rfl,Ad]);rw[Td _ (fun k hk=>lN.1 hk)]at Wp;have hinv:Inv A E P l K F L (i::done) rest (rs.set i r) H:=by
    refine⟨by simpa using h.len,fun k hk=>(h.sub k hk).imp_left (List.mem_cons_of_mem _),h.dP,Ay hok UX h.kI hp,h5,by rw[<-Wp];exact q3,fun j hj Vi=>?_⟩;rcases List.mem_cons.1 hj with rfl|hj
    ·exact⟨he,UX,mem done,h.kI,XR,fun k hk=>List.mem_cons_of_mem _ (lN.1 hk),UB,by rw[Td _ (fun k hk=>lN.1 hk),Ua];exact q1,fun hd H'=>by rw[Td _ (fun k hk=>lN.1 hk),Ua];exact q2 hd H',fun hd H' Ts=>by rw[Td _ (fun k hk=>lN.1 hk),Ua];exact q2' hd H' Ts⟩
    ·obtain⟨w1,w2,D,w3,w4,w5,w6,w7,w8,w9⟩:=h.wait j hj Vi;have Vd:j≠i:=fun e=>Zp (e ▸ hj)
     exact⟨w1,w2,D,w3,w4,fun k hk=>List.mem_cons_of_mem _ (w5 k hk),w6,by rw[Td _ w5,UD j Vd];exact w7,fun hd H'=>by rw[Td _ w5,UD j Vd];exact w8 hd H',fun hd H' Ts=>by rw[Td _ w5,UD j Vd];exact w9 hd H' Ts⟩
   obtain⟨d',r',Ul,g1,g2,g3,g4,g5⟩:=Ao rest hinv;refine⟨d',r',Ul,g1,g2,by rw[g3,qT YH],by simp;omega,fun w0 w β hh=>g5 w0 w β fun k TQ Tl=>?_⟩;have U0:k≠i:=fun e=>Tl (by simp[e])
   obtain⟨a,b⟩:=hh k TQ fun Wq=>Tl (List.mem_cons_of_mem _ Wq)
   rw[UD k U0];exact⟨a,fun j W6 VU=>b j W6 fun hj3=>VU (List.mem_cons_of_mem _ hj3)⟩
variable{L:TK}{rest:TE}
theorem Eb{L2:TK}{rs:TB}{r:AV}{H':Hp}(h:Inv A E P l K F L done (i::rest) rs H)(WM:kR A l i=true)(VE:∀k,L2 k=(L k || k == i))(Wr:ny A (dJ l i)=true->eo A H H')
  (TZ:∀k∈(kq l).getD i [],L k=true):∀j∈i::done,L2 j=false->kR A l j=false/\j<l.length/\∃D,nT l D/\D j=false/\(∀k,D k=true->k∈i::done)/\(∀e∈(dJ l j).after.toList,Region.binds .any e=true->D e.on=true)/\
  QV P l.toArray (dJ l j) (FL l (rs.set i r) D F l.length) H' ((rs.set i r).getD j .any)/\(oo (dJ l j)=false->∀Uh,QV P l.toArray (dJ l j) (FL l (rs.set i r) D F l.length) Uh ((rs.set i r).getD j .any))/\(oO (dJ l j)=true->∀Uh,eo A H' Uh->QV P l.toArray (dJ l j) (FL l (rs.set i r) D F l.length) Uh ((rs.set i r).getD j .any)):=by
 intro j hj Vi;obtain⟨hp,UD,Vk,h4,h5⟩:=tH h.ord;have Td:∀D:TK,(∀k,D k=true->k∈done)->FL l (rs.set i r) D F l.length=FL l rs D F l.length:=fun D hD=>qT (by
  cases e:D i with
  |false=>rfl
  |true=>exact(UD (hD i e)).elim) _
 have XS:∀j,j≠i->(rs.set i r).getD j .any=rs.getD j .any:=fun j hj=>by simp[List.getElem?_set,Ne.symm hj]
 rw[VE]at Vi;obtain⟨Vi,Vd⟩:=Bool.or_eq_false_iff.1 Vi;have Vd:j≠i:=by simpa using Vd
 have hj:j∈done:=by rcases List.mem_cons.1 hj with e|h;exact(Vd e).elim;exact h
 obtain⟨w1,w2,D,w3,w4,w5,w6,w7,w8,w9⟩:=h.wait j hj Vi;have hac:QV P l.toArray (dJ l j) (FL l rs D F l.length) H' (rs.getD j .any):=by
  rcases(h4 WM).2 j hj with h6|h6|h6|h6
  ·rw[w1]at h6;cases h6
  ·exact w8 h6 H'
  ·have:=TZ j h6;rw[Vi]at this;cases this
  ·exact w9 h6.2 H' (Wr h6.1)
 refine⟨w1,w2,D,w3,w4,fun k hk=>List.mem_cons_of_mem _ (w5 k hk),w6,by rw[Td _ w5,XS j Vd];exact hac,fun hd Uh=>by rw[Td _ w5,XS j Vd];exact w8 hd Uh,fun hd Uh Ts=>?_⟩;rw[Td _ w5,XS j Vd];rcases(h4 WM).2 j hj with h6|h6|h6|h6
 ·rw[w1]at h6;cases h6
 ·exact w8 h6 Uh
 ·have:=TZ j h6;rw[Vi]at this;cases this
 ·exact w9 h6.2 Uh ((Wr h6.1).trans Ts)
theorem G2{w0:NW}{H0:Hp}:∀(n:Nat) {L:TK} {done rest:TE} {rs:TB} {H:Hp} {w:NW} {tm:TI} {β:Nat->Nat},rest.length<=n->Inv A E P l K F L done rest rs H->aI w H->bq w (FL l rs L F l.length) tm->Ext w0 H0 w H->Hid P l L done rs w0 w β->
  ∃done' UH Ul H' w',NW.toWorld w'=w.toWorld/\Inv A E P l K F L done' UH Ul H'/\(∀i r,UH=i::r->kR A l i=true/\L i=false)/\aI w' H'/\bq w' (FL l Ul L F l.length) tm/\Ext w0 H0 w' H'/\Hid P l L done' Ul w0 w' β
 |n,L,done,rest,rs,H,w,tm,β,hn,h,h1,h2,h3,h4=>by
  obtain⟨O',Tc⟩:=v8 hok;obtain⟨d',r',Ul,g1,g2,g3,g4,g5⟩:=Ao hok hE rest h;have g5:=g5 _ _ _ h4;rw[<-g3]at h2;cases r' with
  |nil=>exact⟨d',[],Ul,H,w,rfl,g1,(fun i r e=>by cases e),h1,h2,h3,g5⟩
  |cons i r=>
   have WM:=g2 i r rfl;cases YH:L i with
   |false=>exact⟨d',i::r,Ul,H,w,rfl,g1,(fun j q e=>by cases e;exact⟨WM,YH⟩),h1,h2,h3,g5⟩
   |true=>
    obtain⟨hp,UD,Vk,c4,c5⟩:=tH g1.ord;obtain⟨⟨t,cur,a1,a2,a3,a4,a5,a6,a7,a8⟩,a9⟩:=g5 i YH UD;have Y3:i∈E:=(g1.sub i YH).resolve_left UD;have Xi:(dJ l i).guard=none:=by obtain⟨_,_,_,_,hg⟩:=zw hE.1 i Y3;exact hg
    have hw:=g1.walk;rw[List.map_cons]at hw;unfold fG at hw;rw[Xi]at hw;simp only at hw;rw[if_neg (by rw[(hE.2 i Y3).1];exact Bool.false_ne_true),if_neg (by rw[(hE.2 i Y3).2];exact Bool.false_ne_true)]at hw;obtain⟨_,hw⟩:=hw;rw[a1,D4 (by simp[ow]) (by simp[qd])]at hw;simp only[vc,nH,a2]at hw;obtain⟨id,hid,hv⟩:=hw;have ho:=zO Vk;obtain⟨k1,k2,k3⟩:=NQ h1 hid a4 a5 a7 a8;have XR:mem d' i=false:=by rw[<-Bool.not_eq_true,lN];exact UD
    have UQ:∀e∈(dJ l i).after.toList,Region.binds .any e=true->mem d' e.on=true:=fun e he hb=>lN.2 (hp _ (yL ho he hb))
    have Ua:(Ul.set i (.pt id 0 0 0)).getD i .any=.pt id 0 0 0:=by simp[g1.len,Vk]
    have Td:∀D:TK,(∀k,D k=true->k∈d')->FL l (Ul.set i (.pt id 0 0 0)) D F l.length=FL l Ul D F l.length:=fun D hD=>qT (by
     cases e:D i with
     |false=>rfl
     |true=>exact(UD (hD i e)).elim) _
    have Uf:=v6 (rs:=Ul.set i (.pt id 0 0 0)) (F:=F) O' Tc g1.kI ho XR UQ Ua (L2:=mem (i::d')) (fun k=>by rw[show mem (i::d') k=(fun k=>mem (i::d') k) k from rfl,Ad]);rw[Td _ (fun k hk=>lN.1 hk)]at Uf;have TZ:∀k∈(kq l).getD i [],L k=true:=vM g1.dP O' (i+1) i jB _ ho fun e he hb=>g1.dP i _ ho YH e he hb
    have hinv:Inv A E P l K F L (i::d') r (Ul.set i (.pt id 0 0 0)) (H.put id (.var t (cur.toList.map .raw))):=
     ⟨by simpa using g1.len,fun k hk=>(g1.sub k hk).imp_left (List.mem_cons_of_mem _),g1.dP,Ay hok Vk g1.kI hp,c5,by rw[<-Uf];exact hv,
      Eb hok hE g1 WM (fun k=>by
       by_cases e:k=i
       ·subst e;simp[YH]
       ·simp[e]) (fun _=>eo.put hid) TZ⟩
    have Tz:bq (w.name id 0 (.at (β i) cur.size 0)) (FL l (Ul.set i (.pt id 0 0 0)) L F l.length) tm:=by
     refine⟨by rw[lz];have:=h2.1;rw[lz]at this;exact this,fun s a v ha TO=>?_⟩;rcases GV l.length s a ha with h6|⟨rfl,h6,_⟩
     ·exact(h2.2 s a v h6 TO).aU k2 (l6 a)
     ·have:=h2.2 s _ v h6 TO;rw[a3]at this;have:=db this;subst this;exact k3
    have XT:Hid P l L (i::d') (Ul.set i (.pt id 0 0 0)) w0 (w.name id 0 (.at (β i) cur.size 0)) β:=fun k TQ Tl=>by
     have U0:k≠i:=fun e=>Tl (by simp[e])
     have Wq:k ∉ d':=fun e=>Tl (List.mem_cons_of_mem _ e)
     obtain⟨⟨t',UY,b1,b2,b3,b4,b5,b6,b7,b8⟩,b9⟩:=g5 k TQ Wq;refine⟨⟨t',UY,b1,b2,by rw[<-b3];simp[List.getElem?_set,Ne.symm U0],b4,b5,b6,b7,fun j m t1 s1 hh=>?_⟩,fun j W6 VU=>b9 j W6 fun e=>VU (List.mem_cons_of_mem _ e)⟩;have hh:(if j=id/\m=0 then some (Rz.at (β i) cur.size 0)else w.nm j m)=some (.at (β k) t1 s1):=hh;split at hh
     ·simp only[Option.some.injEq,Rz.at.injEq]at hh;exact U0 (a9 k TQ Wq hh.1).symm
     ·exact b8 _ _ _ _ hh
    simp only[List.length_cons]at g4;obtain⟨n,rfl⟩:∃k,n=k+1:=⟨n-1,jB⟩;obtain⟨d2,r2,rs2,H2,w2,x1,x2,x3,x4,x5,x6,x7⟩:=G2 n jB hinv k1 Tz (QQ h3 h1 hid a6 rfl) XT;exact⟨d2,r2,rs2,H2,w2,x1,x2,x3,x4,x5,x6,x7⟩
theorem Kn{rs:TB}(h:Inv A E P l K F L done rest rs H)(hs:∀i r,rest=i::r->kR A l i=true/\L i=false){o:Oper}(ho:l[i]?=some o)(hi:L i=false)(UB:∀e∈o.after.toList,Region.binds .any e=true->L e.on=true)
  {L2:TK} (VE:∀k,L2 k=(L k || k == i)) (hnE:i∈done\/i ∉ E\/∃r,rest=i::r) :
  mJ P l.toArray o (FL l rs L F l.length) H fun G' H'=>∃done' UH Ul,Inv A E P l K F L2 done' UH Ul H'/\G'=FL l Ul L2 F l.length/\∀w0 w β,Hid P l L done rs w0 w β->Hid P l L2 done' Ul w0 w β:=by
 obtain⟨O',Tc⟩:=v8 hok;have UX:=(List.getElem?_eq_some_iff.1 ho).1;obtain rfl:o=dJ l i:=by have:=(zO UX).symm.trans ho;cases this;rfl
 have Ws:nT l L2:=fun j o' hj Vi e he hb=>by
  rw[VE]at Vi ⊢;rcases Bool.or_eq_true_iff.1 Vi with h6|h6
  ·rw[h.dP j o' hj h6 e he hb];rfl
  ·obtain rfl:j=i:=by simpa using h6
   rw[ho]at hj;cases hj;rw[UB e he hb];rfl
 by_cases hd:i∈done
 ·obtain⟨w1,w2,D,w3,w4,w5,w6,w7,w8,w9⟩:=h.wait i hd hi;refine(w7 _ (Fl O' Tc w3 h.dP ho w4 hi w6 UB)).mono ?_;rintro G' H' ⟨rfl,rfl⟩;refine⟨done,rest,rs,⟨h.len,fun k hk=>?_,Ws,h.kI,h.ord,h.walk,fun j hj Vi=>h.wait j hj ?_⟩,v6 O' Tc h.dP ho hi UB rfl VE,fun w0 w β hh k TQ Tl=>?_⟩
  ·rw[VE]at hk;rcases Bool.or_eq_true_iff.1 hk with h6|h6
   ·exact h.sub k h6
   ·obtain rfl:k=i:=by simpa using h6
    exact .inl hd
  ·rw[VE]at Vi;exact(Bool.or_eq_false_iff.1 Vi).1
  ·have XI:∀k,L2 k=true->k ∉ done->L k=true:=fun k h1 h2=>by
    rw[VE]at h1;rcases Bool.or_eq_true_iff.1 h1 with h6|h6
    ·exact h6
    ·obtain rfl:k=i:=by simpa using h6
     exact(h2 hd).elim
   obtain⟨a,b⟩:=hh k (XI k TQ Tl) Tl;exact⟨a,fun j W6 VU=>b j (XI j W6 VU) VU⟩
 ·-- the next effect
  have Tr:i∈rest:=(CP h.ord i UX).resolve_left hd;obtain⟨e,UH,rfl⟩:∃e r,rest=e::r:=by cases rest with|nil=>simp at Tr|cons e r=>exact⟨e,r,rfl⟩
  obtain⟨WM,hLe⟩:=hs e UH rfl;obtain⟨hp,UD,Vk,h4,h5⟩:=tH h.ord;have TZ:=vM h.dP O' (i+1) i jB _ ho UB;obtain rfl:i=e:=by
   rcases List.mem_cons.1 Tr with h|hr
   ·exact h
   ·rcases(h4 WM).1 i hr with h6|h6
    ·have:=TZ e h6;rw[hLe]at this;cases this
    ·rcases hnE with h7|h7|⟨r,h7⟩
     ·exact(hd h7).elim
     ·exact(h7 h6).elim
     ·cases h7;rfl
  have XR:mem done i=false:=by rw[<-Bool.not_eq_true,lN];exact UD
  have UQ:∀e∈(dJ l i).after.toList,Region.binds .any e=true->mem done e.on=true:=fun e he hb=>lN.2 (hp _ (yL ho he hb))
  have hw:=h.walk;rw[List.map_cons]at hw;obtain⟨_,hx⟩:=(GN hw).resolve_right fun⟨hx,_⟩=>by unfold kR at WM;rw[WM]at hx;cases hx
  refine(hx _ (Fl O' Tc h.kI h.dP ho XR hi UQ UB)).mono ?_;rintro G' H' ⟨Wr,r,rfl,hv⟩;have Td:∀D:TK,(∀k,D k=true->k∈done)->FL l (rs.set i r) D F l.length=FL l rs D F l.length:=fun D hD=>qT (by
   cases e:D i with
   |false=>rfl
   |true=>exact(UD (hD i e)).elim) _
  have Ua:(rs.set i r).getD i .any=r:=by simp[h.len,UX]
  have Uf:=v6 (rs:=rs.set i r) (F:=F) O' Tc h.kI ho XR UQ Ua (L2:=mem (i::done)) (fun k=>by rw[show mem (i::done) k=(fun k=>mem (i::done) k) k from rfl,Ad]);rw[Td _ (fun k hk=>lN.1 hk)]at Uf;have Vs:=v6 (rs:=rs.set i r) (F:=F) O' Tc h.dP ho hi UB Ua VE;rw[qT hi]at Vs;refine⟨i::done,UH,rs.set i r,⟨by simpa using h.len,fun k hk=>?_,Ws,Ay hok UX h.kI hp,h5,by rw[<-Uf];exact hv,Eb hok hE h WM VE Wr TZ⟩,Vs,fun w0 w β hh k TQ Tl=>?_⟩
  ·rw[VE]at hk;rcases Bool.or_eq_true_iff.1 hk with h6|h6
   ·exact(h.sub k h6).imp_left (List.mem_cons_of_mem _)
   ·obtain rfl:k=i:=by simpa using h6
    simp
  ·have XI:∀k,L2 k=true->k ∉ i::done->L k=true/\k ∉ done/\k≠i:=fun k h1 h2=>by
    rw[VE]at h1;simp only[List.mem_cons,not_or]at h2;rcases Bool.or_eq_true_iff.1 h1 with h6|h6
    ·exact⟨h6,h2.2,h2.1⟩
    ·exact(h2.1 (by simpa using h6)).elim
   obtain⟨y1,y2,y3⟩:=XI k TQ Tl;obtain⟨⟨t,cur,b1,b2,b3,b4⟩,b⟩:=hh k y1 y2;exact⟨⟨t,cur,b1,b2,by rw[<-b3];simp[List.getElem?_set,Ne.symm y3],b4⟩,fun j W6 VU=>b j (XI j W6 VU).1 (XI j W6 VU).2.1⟩
theorem KE{rs:TB}(h:Inv A E P l K F L done rest rs H){o:Oper}(ho:l[i]?=some o)(hi:L i=false)(hd:i ∉ done)(Y3:i∈E)(UB:∀e∈o.after.toList,Region.binds .any e=true->L e.on=true)
  {L2:TK} (VE:∀k,L2 k=(L k || k == i)) {w0 w:NW} {H0:Hp} {tm:TI} {β:Nat->Nat} (h1:aI w H) (h2:bq w (FL l rs L F l.length) tm) (h3:Ext w0 H0 w H) (h4:Hid P l L done rs w0 w β) {Q:Exit->Act->World->Prop} {next:Act->World->Prop}
  (hn:∀T7 w' Ul β',Inv A E P l K F L2 done rest Ul H->aI w' H->bq w' (FL l Ul L2 F l.length) T7->Ext w0 H0 w' H->Hid P l L2 done Ul w0 w' β'->next ⟨T7,[]⟩ w'.toWorld):sL P l.toArray Q o next ⟨tm,[]⟩ w.toWorld:=by
 obtain⟨O',Tc⟩:=v8 hok;have UX:=(List.getElem?_eq_some_iff.1 ho).1;obtain rfl:o=dJ l i:=by have:=(zO UX).symm.trans ho;cases this;rfl
 obtain⟨t,zs,e1,e2,e3⟩:=zw hE.1 i Y3;obtain⟨z,B',rfl⟩:=zI (w:=w.toWorld) e2;have Ws:nT l L2:=fun j o' hj Vi e he hb=>by
  rw[VE]at Vi ⊢;rcases Bool.or_eq_true_iff.1 Vi with h6|h6
  ·rw[h.dP j o' hj h6 e he hb];rfl
  ·obtain rfl:j=i:=by simpa using h6
   rw[ho]at hj;cases hj;rw[UB e he hb];rfl
 have Ua:(rs.set i (.raw (.pointer (some ⟨w.heap.size,0,none⟩)))).getD i .any=.raw (.pointer (some ⟨w.heap.size,0,none⟩)):=by simp[h.len,UX]
 have UD:∀j,j≠i->∀r:AV,(rs.set i r).getD j .any=rs.getD j .any:=fun j hj r=>by simp[List.getElem?_set,Ne.symm hj]
 have Td:∀(r:AV) (D:TK),(∀k,D k=true->k∈done)->FL l (rs.set i r) D F l.length=FL l rs D F l.length:=fun r D hD=>qT (by
  cases e:D i with
  |false=>rfl
  |true=>exact(hd (hD i e)).elim) _
 have Vs:=v6 (rs:=rs.set i (.raw (.pointer (some ⟨w.heap.size,0,none⟩)))) (F:=F) O' Tc h.dP ho hi UB Ua VE;rw[qT hi]at Vs;have ex:Ext w H ((w.to (w.alloc (.cells z.cells t))).ga w.heap.size) H:={
  size:=by show w.heap.size<=(w.alloc _).heap.size;simp
  free:=fun b hb hn=>⟨RowKit.Below.heap_alloc w.toWorld _ b hb,fun h=>by
   rcases h with h|h
   ·omega
   ·exact hn h⟩
  names:=fun _ _ _ _ h=>h
  os:=rfl,tape:=rfl,output:=rfl
  rest:=fun b hb hO Te=>⟨RowKit.Below.heap_alloc w.toWorld _ b hb,.inr hO,Te⟩
  base:=rfl }
 have hW:aI ((w.to (w.alloc (.cells z.cells t))).ga w.heap.size) H:={
  rows:=fun j row hj=>by obtain⟨g1,y,g2,g3⟩:=h1.rows j row hj;refine⟨g1,y,g2,g3.ext ex fun b t' s e=>?_⟩;subst e;exact RowKit.Below.heap_alloc w.toWorld _ b (h1.lt g2)
  cU:=h1.cU,inj:=h1.inj,bO:=h1.bO.aU ex.toKeep
  own:=fun j n b t' s hh=>.inr (h1.own j n b t' s hh)
  fin:=fun b hb=>by
   show b<(w.alloc _).heap.size;rcases hb with hh|hh
   ·subst hh;simp
   ·have:=h1.fin b hh;simp;omega }
 have XI:∀k,L2 k=true->k≠i->L k=true:=fun k h1 h2=>by rw[VE]at h1;exact(Bool.or_eq_true_iff.1 h1).resolve_right (by simpa using h2)
 unfold sL;rw[if_pos (by simp[Region.wanted,e3])];refine .inl ?_;have hex:(execOp (Act.mk tm []).eval (dJ l i)).run P w.toWorld=.ok (.value (.pointer (some ⟨w.heap.size,0,none⟩))) (w.alloc (.cells z.cells t)):=by
  have:∀(o:Oper),o.op=.alloc t->(execOp (Act.mk tm []).eval o).run P w.toWorld=.ok (.value (.pointer (some ⟨w.heap.size,0,none⟩))) (w.alloc (.cells z.cells t)):=fun o ho=>by obtain⟨dst,op,ty,pos,after,guard⟩:=o;simp only at ho;subst ho;simp only[execOp,Sem.run_bind,Instr.alloc,B',Result.andThen_ok,newVar,newRow];simp
  exact this _ e1
 simp only[Oper.wp,hex,Oper.upon];rw[Act.put_eq];refine hn _ ((w.to (w.alloc (.cells z.cells t))).ga w.heap.size) (rs.set i (.raw (.pointer (some ⟨w.heap.size,0,none⟩)))) (fun k=>if k=i then w.heap.size else β k) ⟨by simpa using h.len,fun k hk=>?_,Ws,h.kI,h.ord,by rw[Td _ _ (fun k hk=>lN.1 hk)];exact h.walk,fun j hj Vi=>?_⟩ hW ?_ (h3.trans ex) ?_
 ·rw[VE]at hk;rcases Bool.or_eq_true_iff.1 hk with h6|h6
  ·exact h.sub k h6
  ·obtain rfl:k=i:=by simpa using h6
   exact .inr Y3
 ·rw[VE]at Vi;obtain⟨w1,w2,D,w3,w4,w5,w6,w7,w8,w9⟩:=h.wait j hj (Bool.or_eq_false_iff.1 Vi).1;have Vd:j≠i:=fun e=>hd (e ▸ hj)
  exact⟨w1,w2,D,w3,w4,w5,w6,by rw[Td _ _ w5,UD j Vd];exact w7,fun hd H'=>by rw[Td _ _ w5,UD j Vd];exact w8 hd H',fun hd H' Ts=>by rw[Td _ _ w5,UD j Vd];exact w9 hd H' Ts⟩
 ·rw[<-Vs];exact(h2.ext ex).put _ (.raw _) []
 ·intro k TQ Tl;by_cases U0:k=i
  ·subst U0;refine⟨⟨t,z.cells,e1,e2,by simp only[if_true];exact Ua,by simp only[if_true];exact heap_alloc_new w.toWorld _,by simp only[if_true];exact .inl rfl,by simp only[if_true];exact h3.size,by simp only[if_true];show w.heap.size<(w.alloc _).heap.size;simp,fun j m t' s hh=>?_⟩,fun j W6 VU e=>?_⟩
   ·simp only[if_true]at hh;have hh:w.nm j m=some (.at w.heap.size t' s):=hh;have:=h1.lt hh;omega
   ·by_cases Zq:j=k
    ·exact Zq.symm
    ·exfalso;obtain⟨⟨_,_,_,_,_,_,_,_,b7,_⟩,_⟩:=h4 j (XI j W6 Zq) VU;simp only[if_true,if_neg Zq]at e;omega
  ·obtain⟨⟨t',cur,b1,b2,b3,b4,b5,b6,b7,b8⟩,b9⟩:=h4 k (XI k TQ U0) Tl;simp only[if_neg U0];refine⟨⟨t',cur,b1,b2,by rw[UD k U0];exact b3,(RowKit.Below.heap_alloc w.toWorld _ _ b7).trans b4,.inr b5,b6,Nat.lt_of_lt_of_le b7 ex.size,b8⟩,fun j W6 VU e=>?_⟩;by_cases Vd:j=i
   ·subst Vd;simp only[if_true]at e;omega
   ·simp only[if_neg Vd]at e;exact b9 j (XI j W6 Vd) VU e
theorem Ms{Q:Exit->S7}(hQ:∀F H,K F H->Q .normal F H){H0:Hp}(w0:NW) :
  ∀(fuel:Nat) (listed:Array Bool),listed.size=l.length->(List.range l.length).countP (fun i=>!listed.getD i false)=fuel->
   ∀H done rest rs (w:NW) tm β,Inv A E P l K F (fun i=>listed.getD i false) done rest rs H->(∀i r,rest=i::r->kR A l i=true/\listed.getD i false=false)->
    aI w H->bq w (FL l rs (fun i=>listed.getD i false) F l.length) tm->Ext w0 H0 w H->Hid P l (fun i=>listed.getD i false) done rs w0 w β->wpAny P .any l.toArray (gO Q w0 H0) fuel listed ⟨tm,[]⟩ w.toWorld:=by
 obtain⟨O',Tc⟩:=v8 hok;have fin:∀(listed:Array Bool) H done rest rs,Inv A E P l K F (fun i=>listed.getD i false) done rest rs H->(∀i r,rest=i::r->kR A l i=true/\listed.getD i false=false)->(∀i,i<l.length->listed.getD i false=true)->∀(w:NW) tm,aI w H->bq w (FL l rs (fun i=>listed.getD i false) F l.length) tm->Ext w0 H0 w H->gO Q w0 H0 .normal ⟨tm,[]⟩ w.toWorld:=by
  intro listed H done rest rs h hs Tu w tm h1 h2 h3;obtain rfl:rest=[]:=by
   cases rest with
   |nil=>rfl
   |cons i r=> obtain⟨_,Zp,UX,_⟩:=tH h.ord;have h6:=(hs i r rfl).2;rw[Tu i UX]at h6;cases h6
  have e:FL l rs (fun i=>listed.getD i false) F l.length=FL l rs (mem done) F l.length:=by
   have gen:∀m,m<=l.length->FL l rs (fun i=>listed.getD i false) F m=FL l rs (mem done) F m:=by
    intro m;induction m with
    |zero=>intro _;rfl
    |succ m ih=> intro hm;have h4:=Tu m jB;have h5:mem done m=true:=lN.2 ((CP h.ord m jB).resolve_right jE);rw[FL,FL,ih jB,h4,h5]
   exact gen _ jl
  rw[e]at h2;exact⟨tm,_,H,w,rfl,rfl,hQ _ _ h.walk,h1,h2,h3.ph⟩
 intro fuel;induction fuel with
 |zero=>
  intro listed Ti Xh H done rest rs w tm β h hs h1 h2 h3 _;have Tu:∀i,i<l.length->listed.getD i false=true:=fun i hi=>by have:=(List.countP_eq_zero.1 Xh) i (List.mem_range.2 hi);simpa using this
  refine⟨?_,fin listed H done rest rs h hs Tu w tm h1 h2 h3⟩;rw[List.eq_nil_iff_forall_not_mem];intro j hj;obtain⟨YE,o,ho,_⟩:=mem_ready.1 hj;have XQ:j<l.length:=by have:=(Array.getElem?_eq_some_iff.1 ho).1;simpa using this
  have:=Tu j XQ;simp[Ti,XQ]at this YE;rw[this]at YE;cases YE
 |succ fuel ih=>
  intro listed Ti Xh H done rest rs w tm β h hs h1 h2 h3 XT;refine⟨fun YF=>?_,fun i hi=>?_⟩
  ·exfalso;have hex:∃i,i<l.length/\listed.getD i false=false:=by
    have UG:0<(List.range l.length).countP (fun i=>!listed.getD i false):=jB;obtain⟨i,hi,hp⟩:=List.countP_pos_iff.1 UG;exact⟨i,List.mem_range.1 hi,by simpa using hp⟩
   obtain⟨i,⟨hi,hf⟩,Wc⟩:=exists_least hex;have ho:l[i]?=some l[i]:=List.getElem?_eq_getElem hi;have:i∈Region.ready .any l.toArray listed:=mem_ready.2 ⟨by simp[Ti,hi]at hf ⊢;exact hf,l[i],by simp[hi],fun e he hb=>by
    have h4:=O' i _ ho e (by simpa using he) hb;cases hv:listed.getD e.on false with
    |true=>rfl
    |false=>have:=Wc e.on ⟨jB,hv⟩;omega⟩
   rw[YF]at this;cases this
  ·obtain⟨VD,o,ho,UB⟩:=mem_ready.1 hi;have Vw:l[i]?=some o:=by simpa using ho
   have UX:=(List.getElem?_eq_some_iff.1 Vw).1;have WL:listed.getD i false=false:=by simp[Ti,UX]at VD ⊢;exact VD
   have UQ:∀e∈o.after.toList,Region.binds .any e=true->listed.getD e.on false=true:=fun e he hb=>UB e (by simpa using he) hb
   have Vx:∀k,(listed.setIfInBounds i true).getD k false=(listed.getD k false || k == i):=fun k=>by
    by_cases hk:k=i
    ·subst hk;simp[Ti,UX]
    ·simp[Array.getElem?_setIfInBounds_ne (Ne.symm hk),hk]
   have Zr:(List.range l.length).countP (fun k=>!(listed.setIfInBounds i true).getD k false)=fuel:=by
    have:∀(n:Nat),i<n->(List.range n).countP (fun k=>!(listed.setIfInBounds i true).getD k false)+1=(List.range n).countP (fun k=>!listed.getD k false):=by
     intro n;induction n with
     |zero=>intro h;omega
     |succ n ihn=>
      intro h;rw[List.range_succ,List.countP_append,List.countP_append];by_cases hn:n=i
      ·subst hn;have:(List.range n).countP (fun k=>!(listed.setIfInBounds n true).getD k false)=(List.range n).countP (fun k=>!listed.getD k false):=by
        refine List.countP_congr fun k hk=>?_
        rw[Vx];have:k≠n:=by have:=List.mem_range.1 hk;omega
        simp[this]
       rw[this];simp only[List.countP_singleton,Vx,WL];simp
      ·rw[<-ihn jB];simp only[List.countP_singleton,Vx];have:(n == i)=false:=by simpa using hn
       rw[this,Bool.or_false];omega
    have:=this l.length UX;omega
   have go:∀{d' r' Ul H'} {w':NW} {T7} {β'},Inv A E P l K F (fun k=>(listed.setIfInBounds i true).getD k false) d' r' Ul H'->aI w' H'->bq w' (FL l Ul (fun k=>(listed.setIfInBounds i true).getD k false) F l.length) T7->Ext w0 H0 w' H'->Hid P l (fun k=>(listed.setIfInBounds i true).getD k false) d' Ul w0 w' β'->
     wpAny P .any l.toArray (gO Q w0 H0) fuel (listed.setIfInBounds i true) ⟨T7,[]⟩ w'.toWorld:=fun{d' r' Ul H' w' T7 β'} k1 k2 k3 k4 k5=>by
    obtain⟨d2,r2,rs2,H2,w2,x1,x2,x3,x4,x5,x6,x7⟩:=G2 hok hE r'.length jl k1 k2 k3 k4 k5;rw[<-x1];exact ih (listed.setIfInBounds i true) (by simpa using Ti) Zr H2 d2 r2 rs2 w2 T7 β' x2 x3 x4 x5 x6 x7
   unfold wpOp;rw[ho];by_cases We:i ∉ done/\i∈E/\¬ ∃r,rest=i::r
   ·have:=KE hok hE h Vw WL We.1 We.2.1 UQ (L2:=fun k=>(listed.setIfInBounds i true).getD k false) Vx h1 h2 h3 XT (Q:=gO Q w0 H0) (next:=wpAny P .any l.toArray (gO Q w0 H0) fuel (listed.setIfInBounds i true)) fun T7 w' Ul β' k1 k2 k3 k4 k5=>go k1 k2 k3 k4 k5
    exact this
   ·have hnE:i∈done\/i ∉ E\/∃r,rest=i::r:=by
     by_cases a:i∈done
     ·exact .inl a
     ·by_cases b:i∈E
      ·exact .inr (.inr (Classical.byContradiction fun c=>We ⟨a,b,c⟩))
      ·exact .inr (.inl b)
    have Vr:=Kn hok hE h hs Vw WL UQ (L2:=fun k=>(listed.setIfInBounds i true).getD k false) Vx hnE;have:=Vr w tm (gO Q w0 H0) (wpAny P .any l.toArray (gO Q w0 H0) fuel (listed.setIfInBounds i true)) h1 h2 (by rintro T7 w' F' H' ⟨d',r',Ul,k1,rfl,k2⟩ g1 g2 g3;exact go k1 g1 g2 (h3.trans g3) (k2 _ _ _ (XT.ext g3)))
    exact this
end
def Cb(A:AS)(E:TE){id:Nat}(ord:TE){Q:Exit->S7}(hm:P.follows .mixedOrders=true)(hok:pu A E l ord=true)(hE:ra P l E)(h:fG A P l.toArray (Q .normal) (ord.map (dJ l)) F H):dx P (.region id l.toArray true) Q F H:=fun w tm h1 h2=>by
 simp only[pu,Bool.and_eq_true,List.all_eq_true,Bool.not_eq_true']at hok;obtain⟨⟨Xj,had⟩,hqE⟩:=hok;have hE:Cg A P l E:=⟨hE,hqE⟩;have hz:∀i,(Array.replicate l.toArray.size false).getD i false=false:=fun i=>by by_cases hi:i<l.length<;>simp[Array.getElem?_replicate,hi]
 refine wp_region_any hm ?_;have e0:∀(rs:TB) (L:TK),(∀i,L i=false)->FL l rs L F l.length=F:=fun rs L hL=>by
  have gen:∀m,FL l rs L F m=F:=by
   intro m;induction m with
   |zero=>rfl
   |succ m ih=>rw[FL,hL,if_neg jE,ih]
  exact gen _
 have hinv:Inv A E P l (Q .normal) F (fun i=>(Array.replicate l.toArray.size false).getD i false) [] ord (List.replicate l.length .any) H:=
  ⟨jE,(fun i hi=>by have:=(hz i).symm.trans hi;cases this),(fun j o _ hj=>by have:=(hz j).symm.trans hj;cases this),(fun j o _ hj=>by simp[mem]at hj),had,
   (by rw[e0 _ _ (fun i=>by simp[mem])];exact h),(fun i hi=>by simp at hi)⟩
 obtain⟨d',r',Ul,k1,k2,k3,_⟩:=Ao Xj hE ord hinv;refine Ms Xj hE (fun _ _ h=>h) w l.toArray.size (Array.replicate l.toArray.size false) jE (by rw[List.countP_eq_length.2 (fun i _=>by rw[hz];rfl)];simp) H d' r' Ul (w.to w.drew) tm (fun _=>0) k1 (fun i r e=>⟨k2 i r e,hz i⟩) h1.drew (by rw[e0 _ _ hz];exact h2.ext (Ext.drew w H)) (Ext.drew w H) (fun i hi _=>by have:=(hz i).symm.trans hi;cases this)
end
variable{P:TL}{H:Hp}{id:Nat}{F:TB}{Q:Exit->S7}
def EG(A:AS){l:List Oper}(ord:TE)(hm:P.follows .mixedOrders=true)(hok:pu A [] l ord=true)(h:fG A P l.toArray (Q .normal) (ord.map (dJ l)) F H):dx P (.region id l.toArray true) Q F H:=Cb A [] ord hm hok trivial h
def Mq{l:List Oper}(ord:TE)(hm:P.follows .mixedOrders=true)(hok:pu ([],[],[]) [] l ord=true)(h:fG ([],[],[]) P l.toArray (Q .normal) (ord.map (dJ l)) F H):dx P (.region id l.toArray true) Q F H:=EG ([],[],[]) ord hm hok h
section
variable {P:TL}{ev:TH}{H:Hp}{ty:TG}{K:S8}
@[go_sem] def j57:(∀(x:Operand),fH P ev H ty K (.move x)=vc P ev H ty K (.move x))/\(∀(x:Operand),fH P ev H ty K (.assign x)=vc P ev H ty K (.assign x))/\(∀(c a b:Operand),fH P ev H ty K (.pick c a b)=vc P ev H ty K (.pick c a b))/\(∀(x:Operand),fH P ev H ty K (.nilCheck x)=vc P ev H ty K (.nilCheck x))/\(∀(op:UnOp) (t:TG) (x:Operand),fH P ev H ty K (.unOp op t x)=vc P ev H ty K (.unOp op t x))/\(∀(t:TG) (x:Operand),fH P ev H ty K (.load t x)=vc P ev H ty K (.load t x))/\(∀(t:TG) (x:Operand) (f:Nat),fH P ev H ty K (.fieldAddr t x f)=vc P ev H ty K (.fieldAddr t x f))/\(∀(t:TG) (x:Operand) (f:Nat),fH P ev H ty K (.field t x f)=vc P ev H ty K (.field t x f))/\(∀(t:TG) (x i:Operand),fH P ev H ty K (.indexAddr t x i)=vc P ev H ty K (.indexAddr t x i))/\(∀(t:TG) (x i:Operand),fH P ev H ty K (.index t x i)=vc P ev H ty K (.index t x i))/\(∀(x:Operand) (i:Nat),fH P ev H ty K (.extract x i)=vc P ev H ty K (.extract x i))/\(∀(t:TG) (a:Operand) (lo hi mx:Option Operand),fH P ev H ty K (.slice t a lo hi mx)=vc P ev H ty K (.slice t a lo hi mx))/\(∀(fn:Fn) (a b:Array Operand),fH P ev H ty K (.makeFunc fn a b)=vc P ev H ty K (.makeFunc fn a b))/\(∀(t:TG) (ps:Array (Nat×Operand)),fH P ev H ty K (.build t ps)=vc P ev H ty K (.build t ps))/\(∀(as:Array Operand) (ts:Array TG),fH P ev H ty K (.call ⟨.builtin .len,as,ts⟩)=vc P ev H ty K (.call ⟨.builtin .len,as,ts⟩))/\(∀(as:Array Operand) (ts:Array TG),fH P ev H ty K (.call ⟨.builtin .min,as,ts⟩)=vc P ev H ty K (.call ⟨.builtin .min,as,ts⟩)):=by and_intros<;>(intros;rfl)
@[go_sem] def j7G:(∀(t:TG) (x y:Operand) (t':TG),fH P ev H ty K (.binOp .add t x y t')=vc P ev H ty K (.binOp .add t x y t'))/\(∀(t:TG) (x y:Operand) (t':TG),fH P ev H ty K (.binOp .sub t x y t')=vc P ev H ty K (.binOp .sub t x y t'))/\(∀(t:TG) (x y:Operand) (t':TG),fH P ev H ty K (.binOp .lss t x y t')=vc P ev H ty K (.binOp .lss t x y t'))/\(∀(t:TG) (x y:Operand) (t':TG),fH P ev H ty K (.binOp .gtr t x y t')=vc P ev H ty K (.binOp .gtr t x y t'))/\(∀(t:TG) (x y:Operand) (t':TG),fH P ev H ty K (.binOp .geq t x y t')=vc P ev H ty K (.binOp .geq t x y t')):=by and_intros<;>(intros;rfl)
@[go_sem] def j7I(t:TG)(x y:Operand)(t':TG):fH P ev H ty K (.binOp .eql t x y t')=((fF P .eql t (ev x) (ev y)).1/\K (fF P .eql t (ev x) (ev y)).2 H):=by simp[fH,ow,vq]
@[go_sem] def j7O(t:TG)(x y:Operand)(t':TG):fH P ev H ty K (.binOp .neq t x y t')=((fF P .neq t (ev x) (ev y)).1/\K (fF P .neq t (ev x) (ev y)).2 H):=by simp[fH,ow,vq]
@[go_sem] def j7H:(∀(t:TG) (x:Operand),fH P ev H ty K (.box t x)=vc P ev H ty K (.box t x))/\(∀(t:TG),fH P ev H ty K (.alloc t)=vc P ev H ty K (.alloc t))/\(∀(t:TG) (a x:Operand),fH P ev H ty K (.store t a x)=vc P ev H ty K (.store t a x))/\(∀(t:TG) (n:Nat) (ps:Array (Nat×Operand)),fH P ev H ty K (.buildSlice t n ps)=pd P t n (ps.toList.map fun p=>(p.1,ev p.2)) fun r=>K r H)/\(∀(f:Operand) (as:Array Operand) (ts:Array TG),fH P ev H ty K (.call ⟨.value f,as,ts⟩)=vc P ev H ty K (.call ⟨.value f,as,ts⟩))/\(∀(f:Operand) (m:String) (as:Array Operand) (ts:Array TG),fH P ev H ty K (.call ⟨.invoke f m,as,ts⟩)=vc P ev H ty K (.call ⟨.invoke f m,as,ts⟩))/\(∀(t:TG) (a x:Operand),fH P ev H ty K (.call ⟨.builtin .append,#[a,x],#[t,t]⟩)=vc P ev H ty K (.call ⟨.builtin .append,#[a,x],#[t,t]⟩))/\(∀(as:Array Operand) (ts:Array TG),fH P ev H ty K (.call ⟨.builtin .copy,as,ts⟩)=vc P ev H ty K (.call ⟨.builtin .copy,as,ts⟩)):=by and_intros<;>(intros;rfl)
end
variable{C D:TE}
@[go_sem] def j5Q{ev:TH}(op:Op):iT ([],C,D) ev op=true:=by cases op<;>first|rfl|(rename_i t x;simp only[iT];generalize ev x=a;cases a<;>first|rfl|simp[sq])
variable{A:AS}
@[go_sem] def j3m{ev:TH}(t:TG)(x:Operand):iT A ev (.load t x)=sq A (ev x):=(rfl)
@[go_sem] def j1i{ev:TH}(t:TG)(a x:Operand):iT A ev (.store t a x)=((A.1.isEmpty || A.2.2.contains 1000000) || Bb A (ev a)):=(rfl)
@[go_sem] def j1N(A:AS)(i m k j:Nat):sq A (.pt i m k j)=(!A.1.contains i && (decide (1<=j) || !A.1.contains (i+16))):=(rfl)
@[go_sem] def j1M:(∀(A:AS) (cs:TB),sq A (.ip cs)=true)/\(∀(A:AS) (i m k j:Nat),Bb A (.pt i m k j)=A.1.contains i)/\(∀{A:AS} {ev:TH} (x:Operand),iT A ev (.move x)=true)/\(∀{A:AS} {ev:TH} (x:Operand),iT A ev (.assign x)=true)/\(∀{A:AS} {ev:TH} (c a b:Operand),iT A ev (.pick c a b)=true)/\(∀{A:AS} {ev:TH} (x:Operand),iT A ev (.nilCheck x)=true)/\(∀{A:AS} {ev:TH} (op:UnOp) (t:TG) (x:Operand),iT A ev (.unOp op t x)=true)/\(∀{A:AS} {ev:TH} (op:BinOp) (t:TG) (x y:Operand) (t':TG),iT A ev (.binOp op t x y t')=true)/\(∀{A:AS} {ev:TH} (t:TG) (x:Operand) (f:Nat),iT A ev (.fieldAddr t x f)=true)/\(∀{A:AS} {ev:TH} (t:TG) (x:Operand) (f:Nat),iT A ev (.field t x f)=true)/\(∀{A:AS} {ev:TH} (t:TG) (x i:Operand),iT A ev (.indexAddr t x i)=true)/\(∀{A:AS} {ev:TH} (t:TG) (x i:Operand),iT A ev (.index t x i)=true)/\(∀{A:AS} {ev:TH} (x:Operand) (i:Nat),iT A ev (.extract x i)=true)/\(∀{A:AS} {ev:TH} (t:TG) (ps:Array (Nat×Operand)),iT A ev (.build t ps)=true)/\(∀{A:AS} {ev:TH} (c:Call),iT A ev (.call c)=true)/\(∀{A:AS} {ev:TH} (t:TG),iT A ev (.alloc t)=true):=by and_intros<;>(intros;rfl)
@[go_sem] def j5P:(∀{A:AS} {ev:TH} (t:TG) (x:Operand),iT A ev (.box t x)=true)/\(∀{A:AS} {ev:TH} (t:TG) (n:Nat) (ps:Array (Nat×Operand)),iT A ev (.buildSlice t n ps)=true)/\(∀{A:AS} {P:TL} {ops:Array Oper} {K:S7} (F:TB) (H:Hp),fG A P ops K [] F H=K F H):=by and_intros<;>(intros;rfl)
variable{L:TE}{ops:Array Oper}{K:S7}
@[go_sem] def j4o(dst:Option Tmp)(op:Op)(ty:TG)(pos:String)(after:Array Edge)(rest:List Oper)(F:TB)(H:Hp) :
  fG (L,[],[]) P ops K (⟨dst,op,ty,pos,after,none⟩::rest) F H=(iT (L,[],[]) (cr F) op=true/\fH P (cr F) H ty (AP (fun r H'=>fG (L,[],[]) P ops K rest (cL F dst r) H') .mk) op):=by
 have e:tU (L,[],[]) ⟨dst,op,ty,pos,after,none⟩=false:=by cases dst<;>rfl
 have e':oF (L,[],[]) ⟨dst,op,ty,pos,after,none⟩=false:=by cases dst<;>rfl
 unfold fG;rw[show(⟨dst,op,ty,pos,after,none⟩:Oper).guard=none from rfl];simp only[e,e'];rfl
@[go_sem] def j1C(op:Op)(ty:TG)(pos:String)(after:Array Edge)(rest:List Oper)(F:TB)(H:Hp) :
  fG (L,C,D) P ops K (⟨none,op,ty,pos,after,none⟩::rest) F H=(iT (L,C,D) (cr F) op=true/\fH P (cr F) H ty (AP (fun r H'=>fG (L,C,D) P ops K rest (cL F none r) H') .mk) op):=(rfl)
variable{t:Nat}
@[go_sem] def j1A{c:Nat}(op:Op)(ty:TG)(pos:String)(after:Array Edge)(rest:List Oper)(F:TB)(H:Hp) :
  fG (L,c::C,D) P ops K (⟨some t,op,ty,pos,after,none⟩::rest) F H=o9 ((c::C).contains t) (z8 P (cr F) H (vj (fun r=>fG (L,c::C,D) P ops K rest (cL F (some t) r) H) .mk) op)
   (o9 (D.contains t) (tA P (L,c::C,D) (cr F) H (AP (fun r H'=>fG (L,c::C,D) P ops K rest (cL F (some t) r) H') .mk) op) (iT (L,c::C,D) (cr F) op=true/\fH P (cr F) H ty (AP (fun r H'=>fG (L,c::C,D) P ops K rest (cL F (some t) r) H') .mk) op) .mk .mk) .mk .mk:=(rfl)
@[go_sem] def j1B{c:Nat}(op:Op)(ty:TG)(pos:String)(after:Array Edge)(rest:List Oper)(F:TB)(H:Hp) :
  fG (L,[],c::D) P ops K (⟨some t,op,ty,pos,after,none⟩::rest) F H=o9 ((c::D).contains t) (tA P (L,[],c::D) (cr F) H (AP (fun r H'=>fG (L,[],c::D) P ops K rest (cL F (some t) r) H') .mk) op)
   (iT (L,[],c::D) (cr F) op=true/\fH P (cr F) H ty (AP (fun r H'=>fG (L,[],c::D) P ops K rest (cL F (some t) r) H') .mk) op) .mk .mk:=(rfl)
@[go_sem] def j6a:(∀{P:TL} {A:AS} {ev:TH} {H:Hp} {K:S8} (f:Operand) (as:Array Operand) (ts:Array TG),tA P A ev H K (.call ⟨.value f,as,ts⟩)=ff P (ev f) (as.toList.map ev) H (AP (fun r H'=>eo A H H'/\K r H') .mk))/\(∀{P:TL} {ev:TH} {H:Hp} {K:AV->Prop} (f:Operand) (as:Array Operand) (ts:Array TG),z8 P ev H K (.call ⟨.value f,as,ts⟩)=∃r,(ff P (ev f) (as.toList.map ev) H fun r' H'=>r'=r/\H'=H)/\K r):=by and_intros<;>(intros;rfl)
def rq(b:Bool)(X Y:Prop)(_:im X)(_:im Y):Prop:=(b=true->X)/\(b=false->Y)
@[go_sem] def j52(X Y:Prop)(d:im X)(e:im Y):rq true X Y d e=X:=by unfold rq;simp
@[go_sem] def j39(X Y:Prop)(d:im X)(e:im Y):rq false X Y d e=Y:=by unfold rq;simp
@[go_sem] def j1D(dst:Option Tmp)(op:Op)(ty:TG)(pos:String)(after:Array Edge)(j:Nat)(want:Bool)(rest:List Oper)(F:TB)(H:Hp) :
  fG (L,C,[]) P ops K (⟨dst,op,ty,pos,after,some (j,want)⟩::rest) F H=qO (lT ops F j want) (fun b=>(iU op || iJ op)=true/\eQ P F H b (vj (fun r=>fG (L,C,[]) P ops K rest (cL F dst r) H) .mk) op) .mk:=by
 have e:oe (L,C,[]) ⟨dst,op,ty,pos,after,some (j,want)⟩=false:=by unfold oe oF;cases dst<;>simp
 unfold qO;conv=>lhs;unfold fG
 simp only[e];rfl
def qe(F:TB):List Operand->Prop
 |[]=>True
 |x::l=>(jo (cr F x)).1=true/\qe F l
theorem Gt(F:TB):∀l:List Operand,((l.all fun x=>(jo (cr F x)).1)=true)=qe F l
 |[]=>by simp[qe]
 |x::l=>by have:=Gt F l;simp only[List.all_cons,Bool.and_eq_true,qe,this]
def ET(F:TB)(f:Operand)(as:Array Operand)(ts:Array TG):(gl F (.call ⟨.value f,as,ts⟩)=true)=((jo (cr F f)).1=true/\qe F as.toList):=by rw[<-Gt];unfold gl;simp[Op.operands,Call.operands]
def CL(P:TL)(A:AS)(F:TB)(H:Hp)(K:S8):Op->Prop
 |.call { callee:=.value f,args,.. }=>((jo (cr F f)).1=true/\qe F args.toList)/\ff P (bL F f) (args.toList.map (bL F)) H (AP (fun r H'=>eo A H H'/\K r H') .mk)
 |_=>False
variable{K:S8}
@[go_sem] def j4h(f:Operand)(as:Array Operand)(ts:Array TG):CL P A F H K (.call ⟨.value f,as,ts⟩)=(((jo (cr F f)).1=true/\qe F as.toList)/\ff P (bL F f) (as.toList.map (bL F)) H (AP (fun r H'=>eo A H H'/\K r H') .mk)):=(rfl)
def Ky{op:Op}(h:iU op=true):(gl F op=true/\tA P A (bL F) H K op)=CL P A F H K op:=by
 cases op<;>first|(cases h;done)|skip
 rename_i c;obtain⟨callee,args,ts⟩:=c;cases callee<;>first|(cases h;done)|skip
 rename_i f;rw[ET];rfl
@[go_sem] def j0u{c:Nat}{K:S7}(op:Op)(ty:TG)(pos:String)(after:Array Edge)(j:Nat)(want:Bool)(rest:List Oper)(F:TB)(H:Hp) :
  fG (L,C,c::D) P ops K (⟨some t,op,ty,pos,after,some (j,want)⟩::rest) F H=qO (lT ops F j want) (fun b=>o9 ((c::D).contains t && iU op)
   (rq b (CL P (L,C,c::D) F H (AP (fun r H'=>fG (L,C,c::D) P ops K rest (cL F (some t) r) H') .mk) op) (fG (L,C,c::D) P ops K rest (cL F (some t) (.gd false (.raw (.bool false)))) H) .mk .mk)
   ((iU op || iJ op)=true/\eQ P F H b (vj (fun r=>fG (L,C,c::D) P ops K rest (cL F (some t) r) H) .mk) op) .mk .mk) .mk:=by
 conv=>lhs;unfold fG
 simp only;unfold qO o9 rq;have Xi:oe (L,C,c::D) ⟨some t,op,ty,pos,after,some (j,want)⟩=((c::D).contains t && iU op):=by unfold oe oF;simp
 cases lT ops F j want with
 |none=>rfl
 |some b=>
  simp only;rw[Xi];by_cases hc:((c::D).contains t && iU op)=true
  ·rw[if_pos hc,if_pos hc];have hv:iU op=true:=by simp only[Bool.and_eq_true]at hc;exact hc.2
   rw[<-Ky hv];rfl
  ·rw[if_neg hc,if_neg hc];rfl
attribute [go_sem] qe
attribute [go_sem] dJ pd ra
universe u
def bc:Nat->Nat->TE
 |_,0=>[]
 |k,n+1=>k::bc (k+1) n
variable{q:Prop}
def du(e:q:=by first|(simp(disch:=first|omega|assumption|fail) only[go_sem,sr,W,↓reduceIte,Int.reduceEq,Int.reduceLE,Int.reduceLT,Int.reduceNe,Int.reduceToNat,Nat.reduceMul,Nat.reduceAdd,Nat.reduceLeDiff,Nat.reduceSub,Nat.reduceEqDiff,Nat.reduceBEq,List.nodup_cons,List.nodup_nil,List.mem_cons,List.not_mem_nil,List.mem_nil_iff];done)|(simp(disch:=first|omega|assumption|fail) only[go_sem,sr,↓reduceIte,Int.reduceEq,Int.reduceLE,Int.reduceLT,Int.reduceNe,Int.reduceToNat,Nat.reduceMul,Nat.reduceAdd,Nat.reduceLeDiff,Nat.reduceSub,Nat.reduceEqDiff,Nat.reduceBEq,List.nodup_cons,List.nodup_nil,List.mem_cons,List.not_mem_nil,List.mem_nil_iff];done)|fail):q:=e
def fj(e:q:=by first|(simp(disch:=first|omega|assumption|fail) only[go_sem,sr,W,↓reduceIte,Int.reduceEq,Int.reduceLE,Int.reduceLT,Int.reduceNe,Int.reduceToNat,Nat.reduceMul,Nat.reduceAdd,Nat.reduceLeDiff,Nat.reduceSub,Nat.reduceEqDiff,Nat.reduceBEq,List.nodup_cons,List.nodup_nil,List.mem_cons,List.not_mem_nil,List.mem_nil_iff];rfl)|(simp(disch:=first|omega|assumption|fail) only[go_sem,sr,↓reduceIte,Int.reduceEq,Int.reduceLE,Int.reduceLT,Int.reduceNe,Int.reduceToNat,Nat.reduceMul,Nat.reduceAdd,Nat.reduceLeDiff,Nat.reduceSub,Nat.reduceEqDiff,Nat.reduceBEq,List.nodup_cons,List.nodup_nil,List.mem_cons,List.not_mem_nil,List.mem_nil_iff];rfl)|rfl|fail):q:=e
def JJ(e:q:=by first|(simp(disch:=first|omega|assumption|fail) only[go_sem,sr,W,↓reduceIte,Int.reduceEq,Int.reduceLE,Int.reduceLT,Int.reduceNe,Int.reduceToNat,Nat.reduceMul,Nat.reduceAdd,Nat.reduceLeDiff,Nat.reduceSub,Nat.reduceEqDiff,Nat.reduceBEq,List.nodup_cons,List.nodup_nil,List.mem_cons,List.not_mem_nil,List.mem_nil_iff];rfl)|(simp(disch:=first|omega|assumption|fail) only[go_sem,sr,↓reduceIte,Int.reduceEq,Int.reduceLE,Int.reduceLT,Int.reduceNe,Int.reduceToNat,Nat.reduceMul,Nat.reduceAdd,Nat.reduceLeDiff,Nat.reduceSub,Nat.reduceEqDiff,Nat.reduceBEq,List.nodup_cons,List.nodup_nil,List.mem_cons,List.not_mem_nil,List.mem_nil_iff];rfl)|fail):q:=e
def Bf(e:q:=by first|(exact tS)|rfl|fail):q:=e
variable{α:Type}
@[go_sem] def jw3[Inhabited α](f:α->TB)(a:List α)(b:S9)(k:Nat)(h:k<a.length):(a.map f++b).getD k []=f (nth a k):=by rw[fJ h,List.getD_eq_getElem?_getD,List.getElem?_append_left (by simpa using h)];simp[h]
attribute [go_sem] List.isEmpty_nil
@[congr] theorem j1R{c:Code}{F':TB}{H':Hp}(h1:F=F')(h2:H=H'):dx P c Q F H=dx P c Q F' H':=by rw[h1,h2]
def nw(p q:Prop):Prop:=q->p
section
variable {P:TL}{Q:Exit->S7}{F:TB}{H:Hp}
variable{id:Nat}{q:Prop}
def Np{l:List Oper}(e:k7 P l.toArray (Q .normal) l F H=q):nw (dx P (.region id l.toArray false) Q F H) q:=fun h=>RO (e ▸ h)
def N4{c:Code}:nw (dx P (.block id c) Q F H) (dx P c (sI id Q) F H):=JU
def Ko(e:Q .normal F H=q):nw (dx P .skip Q F H) q:=fun h=>Nx (e ▸ h)
def SI(e:Q (.exit id) F H=q):nw (dx P (.exit id) Q F H) q:=fun h=>Qc (e ▸ h)
def NP(e:Q .ret F H=q):nw (dx P .ret Q F H) q:=fun h=>O0 (e ▸ h)
end
section
variable {P:TL}{H:Hp}{K:S8}
variable{t:TG}{q:Prop}
def KK{zs:TJ}(hz:dM P t=some zs)(e:K (.pt (nx H.l) 0 0 0) (H.put (nx H.l) (.var t (zs.map .raw)))=q):nw (nH P H t K) q:=fun h=>RV hz (e ▸ h)
def Qp{x:AV}(ho:cI x.cells=true)(e:K (.pt (nx H.l) 0 0 0) (H.put (nx H.l) (.var t x.cells))=q):nw (qE H t x K) q:=fun h=>Qj ho (e ▸ h)
def L9{A:Nat->Prop}{d:im A}(e:A (nx H.l)=q):nw (vR H A d) q:=fun h=>QG (e ▸ h)
def Js{sz:Nat}(h0:0<sz)(e:K (.rs (nx H.l) 0 sz 0) (H.put (nx H.l) (.aF t sz []))=q):nw (rT t sz [] H K) q:=fun h=>J2 h0 (e ▸ h)
def MW{sz:Nat}{css:S9}(h1:aW dU css.flatten=true)(e:K (.sl true sz css []) H=q):nw (rT t sz css H K) q:=fun h=>R4 h1 (e ▸ h)
def Jr{a x:AV}(e:zi P t a x H K=q):nw (p6 P t t a x H K) q:=fun h=>J8 (e ▸ h)
def OW{d:im K}{r:AV}(e:K r H=q):nw (AP K d r H) q:=fun h=>K2 (e ▸ h)
def RX{a b:Prop}(h:a):nw (a/\b) b:=fun k=>⟨h,k⟩
end
variable{p:Prop}
def au(h:q)(e:nw p q:=by first
 |((with_reducible apply Np);exact fj)
 |with_reducible exact N4
 |((with_reducible apply SI);exact Bf)
 |((with_reducible apply NP);exact Bf)
 |((with_reducible apply Ko);exact Bf)
 |fail):p:=e h
def ar(h:q)(e:nw p q:=by first
 |((with_reducible apply Jr);exact fj)
 |((with_reducible apply OW);exact fj)
 |((with_reducible apply Js);(focus (exact du));exact fj)
 |((with_reducible apply MW);(focus (simp only[go_sem]));exact fj)
 |((with_reducible apply KK);(focus (simp only[go_sem];rfl));exact fj)
 |((with_reducible apply Qp);(focus (simp only[go_sem]));exact fj)
 |((with_reducible apply L9);exact fj)
 |((with_reducible apply RX);first|omega|(simp +contextual;done)|(simp +contextual;intros;omega)|fail)
 |fail):p:=e h
def S(h:q)(e:p=q:=by exact JJ):p:=e ▸ h
def Sd(e:p=True:=by exact du):p:=of_eq_true e
def ap{c:Operand}{x y:Code}{b:Bool}{pt pf:Prop}(ht:pt->dx P x Q F H)(hf:pf->dx P y Q F H)(hc:cr F c=.raw (.bool b):=by rfl)
 (et:(b=true)=pt:=by first|(simp only[Int.reduceEq,Int.reduceLE,Int.reduceLT,Int.reduceNe,false_and,and_false,true_and,and_true,or_false,false_or,true_or,or_true,Bool.false_eq_true,Bool.true_eq_false,eq_self,reduceCtorEq,Bool.not_true,Bool.not_false,Bool.and_eq_true,Bool.or_eq_true,Bool.and_eq_false_iff,Bool.or_eq_false_iff,decide_eq_true_eq,decide_eq_false_iff_not,Bool.not_eq_true',Bool.not_eq_false',Int.not_lt,Int.not_le];rfl)|rfl) (ef:(b=false)=pf:=by first|(simp only[Int.reduceEq,Int.reduceLE,Int.reduceLT,Int.reduceNe,false_and,and_false,true_and,and_true,or_false,false_or,true_or,or_true,Bool.false_eq_true,Bool.true_eq_false,eq_self,reduceCtorEq,Bool.not_true,Bool.not_false,Bool.and_eq_true,Bool.or_eq_true,Bool.and_eq_false_iff,Bool.or_eq_false_iff,decide_eq_true_eq,decide_eq_false_iff_not,Bool.not_eq_true',Bool.not_eq_false',Int.not_lt,Int.not_le];rfl)|rfl):dx P (.cond c x y) Q F H:=Jz hc (fun h=>ht (et ▸ h)) (fun h=>hf (ef ▸ h))
section
variable {P:TL}{f:FuncId}{args:TB}{H:Hp}{K:S8}{q:Prop}
variable{r0:AV}
def cm{l l0:TA}(hc:ab P f args l fun r l'=>r=r0/\l'=l0)(k:q)(h1:qx l H:=by exact du)(h0:aT P f=true:=by exact du)(h2:aW (fun i=>(ids l).contains i) args=true:=by exact du)(h3:qX (fun i=>(ids l).contains i) l:=by exact du)
 (h4:ot (ids l) H l0:=by exact du) (h5:(ids l0).Nodup:=by exact du) (e:K r0 ⟨H.B,gu H.l l0⟩=q:=by exact fj):ff P (.raw (.func (.func f) #[] #[])) args H K:=nG h0 (v7 hc h1 h2 h3 h4 h5 (e ▸ k))
def cp(hc:aB P f args r0)(k:q)(h0:aT P f=true:=by exact du)(h2:aW dU args=true:=by exact du)(e:K r0 H=q:=by exact fj):ff P (.raw (.func (.func f) #[] #[])) args H K:=nG h0 (zG hc h2 (e ▸ k))
def cg{g:Prop}{R:AV->Prop}{A:Prop}(hc:aB P f args r0)(k:q)(h0:aT P f=true:=by exact du)(h2:aW dU args=true:=by exact du)(hA:g->A:=by first|exact id|(intro _;exact jI)|fail)(e:R r0=q:=by exact fj) :
  ∃r,(g->A/\ff P (.raw (.func (.func f) #[] #[])) args H fun r' H'=>r'=r/\H'=H)/\R r:=⟨r0,fun hg=>⟨hA hg,nG h0 (zG hc h2 ⟨rfl,rfl⟩)⟩,e ▸ k⟩
def tF{g:Prop}{R:AV->Prop}(hc:aB P f args r0)(k:q)(h0:aT P f=true:=by exact du)(h2:aW dU args=true:=by exact du)(e:R r0=q:=by exact fj) :
  ∃r,(g->ff P (.raw (.func (.func f) #[] #[])) args H fun r' H'=>r'=r/\H'=H)/\R r:=⟨r0,fun _=>nG h0 (zG hc h2 ⟨rfl,rfl⟩),e ▸ k⟩
end
def dO.perm{B:TE}{l:TA}(l':TA)(h:∀i,aA l i=aA l' i):dO F ⟨B,l⟩ F ⟨B,l'⟩:=fun w tm h1 h2=>by
 have hg:∀i,(Hp.mk B l').get i=(Hp.mk B l).get i:=fun i=>(h i).symm
 exact⟨w,rfl,{ rows:=fun i r hi=>h1.rows i r ((hg i) ▸ hi),cU:=fun i m z hz=>by rw[hg];exact h1.cU i m z hz,inj:=h1.inj,own:=h1.own,fin:=h1.fin,bO:=h1.bO },h2,{ ExtQ.refl _ w with base:=rfl }⟩
variable{t:TG}
def al(i:Nat){zs:TJ}(k:q)(hi:H.get i=none:=by rfl)(hz:dM P t=some zs:=by(simp only[go_sem];rfl))(e:K (.pt i 0 0 0) (H.put i (.var t (zs.map .raw)))=q:=by exact fj):nH P H t K:=yH i hz hi (e ▸ k)
def bx(i:Nat){x:AV}(k:q)(hi:H.get i=none:=by rfl)(ho:cI x.cells=true:=by simp only[go_sem])(e:K (.pt i 0 0 0) (H.put i (.var t x.cells))=q:=by exact fj):qE H t x K:=zE i ho hi (e ▸ k)
def rA{enc:α->TB}(vars more ys:List α){i:Nat}{m sz n:Nat}{css yss:S9}(k:q)(hm:m=vars.length+more.length:=by first|rfl|(simp only[go_sem];done)|omega)(hn:n=vars.length:=by rfl)(hc:css=(vars++more).map enc:=by first|rfl|exact List.map_append.symm|(simp only[go_sem,List.map_append];done))(hy:yss=ys.map enc:=by rfl)
 (e:K (.rs i (vars.length+ys.length+(more.drop ys.length).length) sz (vars.length+ys.length)) (H.put i (.aF t sz ((vars++ys++more.drop ys.length).map enc)))=q:=by exact fj):uc i t m sz n css yss H K:=Sx vars more ys hm hn hc hy (e ▸ k)
section
variable {P:TL}{Q:Exit->S7}{F:TB}{H:Hp}
def gR{P:TL}{Q:Exit->S7}{F:TB}{H:Hp}(id:Nat){l:Array Oper}{b:Bool}(h:dx P (.region id l b) Q F H):dx P (.region id l b) Q F H:=h
variable{l:List Oper}{q:Prop}
def dE(id:Nat)(ord:TE)(hm:P.follows .mixedOrders=true)(h:q)(hok:pu ([],[],[]) [] l ord=true:=by decide +kernel)(e:fG ([],[],[]) P l.toArray (Q .normal) (ord.map (dJ l)) F H=q:=by(simp only[bc,List.map_cons,List.map_nil,dJ,List.getD_cons_zero,List.getD_cons_succ];exact fj)):dx P (.region id l.toArray true) Q F H:=Mq ord hm hok (e ▸ h)
def dA(id:Nat)(A ord:TE)(hm:P.follows .mixedOrders=true)(h:q)(hok:pu (A,[],[]) [] l ord=true:=by decide +kernel)(e:fG (A,[],[]) P l.toArray (Q .normal) (ord.map (dJ l)) F H=q:=by(simp only[bc,List.map_cons,List.map_nil,dJ,List.getD_cons_zero,List.getD_cons_succ];exact fj)):dx P (.region id l.toArray true) Q F H:=EG (A,[],[]) ord hm hok (e ▸ h)
def dC(id:Nat)(A:AS)(E ord:TE)(hm:P.follows .mixedOrders=true)(h:q)(hok:pu A E l ord=true:=by decide +kernel)(hE:ra P l E:=by simp only[ra,dJ,List.getD_cons_zero,List.getD_cons_succ,go_sem])(e:fG A P l.toArray (Q .normal) (ord.map (dJ l)) F H=q:=by(simp only[bc,List.map_cons,List.map_nil,dJ,List.getD_cons_zero,List.getD_cons_succ];exact fj)):dx P (.region id l.toArray true) Q F H:=Cb A E ord hm hok hE (e ▸ h)
def dQ(id:Nat)(hm:P.follows .mixedOrders=true)(h:q)(hok:ue l=true:=by decide +kernel)(e:p8 P l.toArray H (fun F'=>Q .normal F' H) l F=q:=by exact fj):dx P (.region id l.toArray true) Q F H:=Oe hm hok (e ▸ h)
def Ip{c:Code}(L:TE)(slot:Nat)(a:AV)(hB:H.B.all (gU fun i=>L.contains i)=true)(hl:iH (fun i=>L.contains i) H.l)(hv:bt (fun i=>L.contains i) H F (F.set slot a))(h:dx P c Q (F.set slot a) ⟨H.B,fz (fun i=>L.contains i) H.l⟩):dx P c Q F H:=jq (dO.free _ hB hl hv) h
def Od{c:Code}(L:TE)(W:List (Nat×Nat))(J:List (Nat×AV))(h0:(L.any fun i=>(H.get i).isSome)=true)(hB:H.B.all (gU fun i=>L.contains i)=true)(hl:iH (fun i=>L.contains i) H.l)(hv:bt (fun i=>L.contains i) H F (mB J (ng W F)))(h:dx P c Q (mB J (ng W F)) ⟨H.B,fz (fun i=>L.contains i) H.l⟩):dx P c Q F H:=jq (dO.free _ hB hl hv) h
end
def jM{H':Hp}(e:H=H':=by first|(simp only[go_sem];done)|(simp only[go_sem];rfl)|rfl|fail):H=H':=e
def cH{F':TB}(e:kU F F':=by(simp only[go_sem,kU,Nat.reduceAdd,AV.raw.injEq,Value.int.injEq,Value.slice.injEq,Value.pointer.injEq,AV.rs.injEq];try omega)):kU F F':=e
def jh{D:TK}{l m:TB}(e:bt D H l m:=by(simp only[go_sem,↓reduceIte,Int.reduceEq,Int.reduceLE,Int.reduceLT,Int.reduceNe,Int.reduceToNat,Nat.reduceMul,Nat.reduceAdd,Nat.reduceLeDiff,Nat.reduceSub,Nat.reduceEqDiff,Nat.reduceBEq,List.nodup_cons,List.nodup_nil,List.mem_cons,List.not_mem_nil,List.mem_nil_iff];repeat' (first|exact jI|exact Po _|exact cW.nil _ _|exact cW.lit _ _ _ _ _|exact cW.same _ rfl|(exact cW.same _ (by exact vg))|(exact cW.row _ (by first|rfl|(exact vg)) (by first|(exact vg)|rfl|(exact tS)) (by first|rfl|(simp only[go_sem];done)|omega))|refine jA ?_ ?_|fail))):bt D H l m:=e
def EM{l:List Oper}{b:Bool}(L:TE)(W:List (Nat×Nat))(J:List (Nat×AV))(h:q)(h0:(L.any fun i=>(H.get i).isSome)=true:=by rfl)(hB:H.B.all (gU fun i=>L.contains i)=true:=by exact du)(hl:iH (fun i=>L.contains i) H.l:=by exact du)
 (hv:bt (fun i=>L.contains i) H F (mB J (ng W F)):=by exact jh) (e:dx P (.region id l.toArray b) Q (mB J (ng W F)) ⟨H.B,fz (fun i=>L.contains i) H.l⟩=q:=by exact fj):dx P (.region id l.toArray b) Q F H:=Od L W J h0 hB hl hv (e ▸ h)
def bM{f:FuncId}{fn:Func}{c:Code}{args:TB}{r:AV}{k:Nat}(hf:P.funcs[f]?=some fn)(hn:fn.ntmps=k)(h:dx P c (lM P fn fun r' l'=>r'=r/\l'=[]) F ⟨[],[]⟩)(hb:fn.body=some c:=by rfl)
 (hF:args++List.replicate (k-args.length) .any=F:=by(simp only[List.length_cons,List.length_nil,Nat.reduceAdd,Nat.reduceSub,List.replicate,List.cons_append,List.nil_append];rfl)):aB P f args r:=NL hf hb (by rw[hn];exact hF) h
def aL{f:FuncId}{fn:Func}{c:Code}{args:TB}{l:TA}{R:AV->List TN->Prop}{k:Nat}(hf:P.funcs[f]?=some fn)(hn:fn.ntmps=k)(h:dx P c (lM P fn R) F ⟨L,l⟩)(hb:fn.body=some c:=by rfl)(hL:ids l=L:=by rfl)
 (hF:args++List.replicate (k-args.length) .any=F:=by(simp only[List.length_cons,List.length_nil,Nat.reduceAdd,Nat.reduceSub,List.replicate,List.cons_append,List.nil_append];rfl)):ab P f args l R:=P7 hf hb (by rw[hn];exact hF) hL h
section
variable {P:TL}{fn:Func}{F:TB}{H:Hp}{out:TB}{e:Exit}{r:AV}{l:TA}
def bW(rs:List ResultVar)(h1:ku out=r)(h2:H.l=l)(VI:fn.results.toList=rs:=by rfl)(he:e=.normal\/e=.ret:=by first|exact Or.inr rfl|exact Or.inl rfl|fail)(ho:ju P H F rs=some out:=by(exact tS))(hok:kF P H F rs:=by exact vg) :
  lM P fn (fun r' l'=>r'=r/\l'=l) e F H:=Kd rs VI he ho hok h1 h2
def aZ(rs:List ResultVar)(hv:ku out=r)(VI:fn.results.toList=rs:=by rfl)(he:e=.normal\/e=.ret:=by first|exact Or.inr rfl|exact Or.inl rfl|fail)(ho:ju P H F rs=some out:=by(exact tS))(hok:kF P H F rs:=by exact vg)(hl:iH (mA H.B) H.l:=by exact du)
 (hq:(ku out).all (gU (mA H.B))=true:=by exact du) (h2:fz (mA H.B) H.l=l:=by first|rfl|(exact du)|(exact tS)|fail):lM P fn (fun r' l'=>r'=r/\l'=l) e F H:=DR rs VI he ho hok hl (zJ hv hq) h2
def fC(rs:List ResultVar)(hv:cW (mA H.B) H (ku out) r)(VI:fn.results.toList=rs:=by rfl)(he:e=.normal\/e=.ret:=by first|exact Or.inr rfl|exact Or.inl rfl|fail)(ho:ju P H F rs=some out:=by(exact tS))(hok:kF P H F rs:=by exact vg)(hl:iH (mA H.B) H.l:=by exact du)
 (h2:fz (mA H.B) H.l=l:=by first|rfl|(exact du)|(exact tS)|fail):lM P fn (fun r' l'=>r'=r/\l'=l) e F H:=DR rs VI he ho hok hl hv h2
end
@[go_sem] def jzw(enc:α->TB)(l:List α)(k:Nat)(x:α):(l.map enc).set k (enc x)=(l.set k x).map enc:=List.map_set.symm
attribute [go_sem] List.length_set
def eI(x:Int):TB:=[.raw (.int .i64 x)]
instance:bC eI 1:=⟨fun _=>rfl,fun _=>rfl,fun _=>rfl⟩
@[go_sem] def qaB:(∀(x:Int),(eI x).length=1)/\(∀(x:Int),(eI x).getD 0 .any=.raw (.int .i64 x))/\(∀(x:Int),(eI x).drop 1=[]):=by and_intros<;>(intros;rfl)
@[go_sem] def qaC(l:TD)(k:Nat)(x:Int):(l.map eI).set k [.raw (.int .i64 x)]=(l.set k x).map eI:=(List.map_set (f:=eI)).symm
def eS(x:TF):TB:=[.raw (.string x)]
instance:bC eS 1:=⟨fun _=>rfl,fun _=>rfl,fun _=>rfl⟩
@[go_sem] def qaD:(∀(x:TF),(eS x).length=1)/\(∀(x:TF),(eS x).getD 0 .any=.raw (.string x)):=by and_intros<;>(intros;rfl)
def eB(x:Bool):TB:=[.raw (.bool x)]
instance:bC eB 1:=⟨fun _=>rfl,fun _=>rfl,fun _=>rfl⟩
def eU(x:Int):TB:=[.raw (.int .u8 x)]
instance:bC eU 1:=⟨fun _=>rfl,fun _=>rfl,fun _=>rfl⟩
def sJ(x:TD):TB:=[aM eI 1 x]
instance:bC sJ 1:=⟨fun _=>rfl,fun _=>rfl,fun _=>rfl⟩
structure cz where
 kind:Int
 text:ByteArray
 at_:Int
 deriving Inhabited,DecidableEq
def mb(x:cz):TB:=[.raw (.int .i64 x.kind),.raw (.string x.text),.raw (.int .i64 x.at_)]
section
variable (x y:cz)
@[go_sem] def jyI:((mb x).length=3)/\((mb x).all AV.one=true):=by and_intros<;>(intros;rfl)
@[go_sem] def SU(q:TK):aW q (mb x)=true:=by simp[mb,aW,AV.all]
instance:bC mb 3:=⟨fun _=>rfl,fun _=>rfl,fun x=>SU x _⟩
@[go_sem] def jwT:((mb x).take 3=mb x)/\((mb x).getD 0 .any=.raw (.int .i64 x.kind))/\((mb x).getD 1 .any=.raw (.string x.text))/\((mb x).getD 2 .any=.raw (.int .i64 x.at_)):=by and_intros<;>(intros;rfl)
end
structure br where
 kind:Int
 cO:Int
 n:Int
 name:ByteArray
 l:List Int
 deriving Inhabited,DecidableEq
def eF(x:br):TB:=[.raw (.int .i64 x.kind),.raw (.int .i64 x.cO),.raw (.int .i64 x.n),.raw (.string x.name),aM eI 1 x.l]
section
variable (x y:br)
@[go_sem] def j0P:((eF x).length=5)/\((eF x).all AV.one=true):=by and_intros<;>(intros;rfl)
@[go_sem] def NI(q:TK):aW q (eF x)=true:=by simp[eF,aW,AV.all]
instance:bC eF 5:=⟨fun _=>rfl,fun _=>rfl,fun x=>NI x _⟩
@[go_sem] def jyD:((eF x).take 5=eF x)/\((eF x).getD 0 .any=.raw (.int .i64 x.kind))/\((eF x).getD 1 .any=.raw (.int .i64 x.cO))/\((eF x).getD 2 .any=.raw (.int .i64 x.n))/\((eF x).getD 3 .any=.raw (.string x.name))/\((eF x).getD 4 .any=aM eI 1 x.l):=by and_intros<;>(intros;rfl)
end
structure aj where
 ty:Int
 n:Int
 s:ByteArray
 deriving Inhabited,DecidableEq
def bS(x:aj):TB:=[.raw (.int .i64 x.ty),.raw (.int .i64 x.n),.raw (.string x.s)]
section
variable (x y:aj)
@[go_sem] def jyL:((bS x).length=3)/\((bS x).all AV.one=true):=by and_intros<;>(intros;rfl)
@[go_sem] def Nv(q:TK):aW q (bS x)=true:=by simp[bS,aW,AV.all]
instance:bC bS 3:=⟨fun _=>rfl,fun _=>rfl,fun x=>Nv x _⟩
@[go_sem] def jwV:((bS x).take 3=bS x)/\((bS x).getD 0 .any=.raw (.int .i64 x.ty))/\((bS x).getD 1 .any=.raw (.int .i64 x.n))/\(∀(v:Int),List.take 1 (bS x)++[.raw (.int .i64 v)]++List.drop 2 (bS x)=bS { x with n:=v })/\((bS x).getD 2 .any=.raw (.string x.s)):=by and_intros<;>(intros;rfl)
end
structure bK where
 name:ByteArray
 ty:Int
 deriving Inhabited,DecidableEq
def mF(x:bK):TB:=[.raw (.string x.name),.raw (.int .i64 x.ty)]
section
variable (x y:bK)
@[go_sem] def jyE:((mF x).length=2)/\((mF x).all AV.one=true):=by and_intros<;>(intros;rfl)
@[go_sem] def J1(q:TK):aW q (mF x)=true:=by simp[mF,aW,AV.all]
instance:bC mF 2:=⟨fun _=>rfl,fun _=>rfl,fun x=>J1 x _⟩
@[go_sem] def jwR:((mF x).take 2=mF x)/\((mF x).getD 0 .any=.raw (.string x.name))/\((mF x).getD 1 .any=.raw (.int .i64 x.ty)):=by and_intros<;>(intros;rfl)
end
structure bh where
 name:ByteArray
 cO:Int
 params:List bK
 ret:Int
 body:Int
 deriving Inhabited,DecidableEq
def fX(x:bh):TB:=[.raw (.string x.name),.raw (.int .i64 x.cO),aM mF 2 x.params,.raw (.int .i64 x.ret),.raw (.int .i64 x.body)]
section
variable (x y:bh)
@[go_sem] def j0J:((fX x).length=5)/\((fX x).all AV.one=true):=by and_intros<;>(intros;rfl)
@[go_sem] def R3(q:TK):aW q (fX x)=true:=by simp[fX,aW,AV.all]
instance:bC fX 5:=⟨fun _=>rfl,fun _=>rfl,fun x=>R3 x _⟩
@[go_sem] def jyz:((fX x).take 5=fX x)/\((fX x).getD 0 .any=.raw (.string x.name))/\((fX x).getD 2 .any=aM mF 2 x.params)/\((fX x).getD 3 .any=.raw (.int .i64 x.ret))/\((fX x).getD 4 .any=.raw (.int .i64 x.body)):=by and_intros<;>(intros;rfl)
end
structure aG where
 nodes:List br
 av:List bh
 deriving Inhabited,DecidableEq
def lr(x:aG):TB:=[aM eF 5 x.nodes,aM fX 5 x.av]
section
variable (x y:aG)
@[go_sem] def j00:((lr x).length=2)/\((lr x).all AV.one=true):=by and_intros<;>(intros;rfl)
@[go_sem] def SM(q:TK):aW q (lr x)=true:=by simp[lr,aW,AV.all]
instance:bC lr 2:=⟨fun _=>rfl,fun _=>rfl,fun x=>SM x _⟩
@[go_sem] def jyK:((lr x).take 2=lr x)/\((lr x).getD 0 .any=aM eF 5 x.nodes)/\((lr x).getD 1 .any=aM fX 5 x.av):=by and_intros<;>(intros;rfl)
end
structure bD where
 name:ByteArray
 ty:Int
 slot:Int
 deriving Inhabited,DecidableEq
def kY(x:bD):TB:=[.raw (.string x.name),.raw (.int .i64 x.ty),.raw (.int .i64 x.slot)]
section
variable (x y:bD)
@[go_sem] def j2C:((kY x).length=3)/\((kY x).all AV.one=true):=by and_intros<;>(intros;rfl)
@[go_sem] def Qd(q:TK):aW q (kY x)=true:=by simp[kY,aW,AV.all]
instance:bC kY 3:=⟨fun _=>rfl,fun _=>rfl,fun x=>Qd x _⟩
@[go_sem] def j06:((kY x).take 3=kY x)/\((kY x).getD 0 .any=.raw (.string x.name))/\((kY x).getD 1 .any=.raw (.int .i64 x.ty))/\((kY x).getD 2 .any=.raw (.int .i64 x.slot)):=by and_intros<;>(intros;rfl)
end
structure af where
 aa:aG
 types:List Int
 slots:List Int
 fn:List Int
 size:List Int
 deriving Inhabited,DecidableEq
def ci(x:af):TB:=[aM eF 5 x.aa.nodes,aM fX 5 x.aa.av,aM eI 1 x.types,aM eI 1 x.slots,aM eI 1 x.fn,aM eI 1 x.size]
section
variable (x y:af)
@[go_sem] def j0T:((ci x).length=6)/\((ci x).all AV.one=true):=by and_intros<;>(intros;rfl)
@[go_sem] def NN(q:TK):aW q (ci x)=true:=by simp[ci,aW,AV.all]
instance:bC ci 6:=⟨fun _=>rfl,fun _=>rfl,fun x=>NN x _⟩
@[go_sem] def jyG:((ci x).take 6=ci x)/\((ci x).getD 0 .any=aM eF 5 x.aa.nodes)/\((ci x).getD 1 .any=aM fX 5 x.aa.av)/\((ci x).getD 2 .any=aM eI 1 x.types)/\((ci x).getD 3 .any=aM eI 1 x.slots)/\((ci x).getD 4 .any=aM eI 1 x.fn):=by and_intros<;>(intros;rfl)
end
structure mm where
 fn:Int
 node:Int
 slots:List aj
 deriving Inhabited,DecidableEq
def qQ(x:mm):TB:=[.raw (.int .i64 x.fn),.raw (.int .i64 x.node),aM bS 3 x.slots]
section
variable (x y:mm)
@[go_sem] def j0V:(qQ x).length=3:=(rfl)
@[go_sem] def O7(q:TK):aW q (qQ x)=true:=by simp[qQ,aW,AV.all]
instance:bC qQ 3:=⟨fun _=>rfl,fun _=>rfl,fun x=>O7 x _⟩
@[go_sem] def j2z:(qQ x).getD 1 .any=.raw (.int .i64 x.node):=(rfl)
end
structure kZ where
 calls:List mm
 heap:List (List Int)
 in_:Int
 bz:List ByteArray
 status:Int
 cY:Int
 time:Int
 deriving Inhabited,DecidableEq
def lj(x:kZ):TB:=[aM qQ 3 x.calls,aM sJ 1 x.heap,.raw (.int .i64 x.in_),aM eS 1 x.bz,.raw (.int .i64 x.status),.raw (.int .i64 x.cY),.raw (.int .i64 x.time)]
section
variable (x y:kZ)
@[go_sem] def j0U:((lj x).length=7)/\((lj x).all AV.one=true):=by and_intros<;>(intros;rfl)
@[go_sem] def KZ(q:TK):aW q (lj x)=true:=by simp[lj,aW,AV.all]
instance:bC lj 7:=⟨fun _=>rfl,fun _=>rfl,fun x=>KZ x _⟩
@[go_sem] def j2v:((lj x).getD 0 .any=aM qQ 3 x.calls)/\((lj x).getD 2 .any=.raw (.int .i64 x.in_))/\((lj x).getD 4 .any=.raw (.int .i64 x.status))/\((lj x).getD 6 .any=.raw (.int .i64 x.time)):=by and_intros<;>(intros;rfl)
end
structure ax where
 op:Int
 a:Int
 b:Int
 s:ByteArray
 deriving Inhabited,DecidableEq
def dj(x:ax):TB:=[.raw (.int .i64 x.op),.raw (.int .i64 x.a),.raw (.int .i64 x.b),.raw (.string x.s)]
section
variable (x y:ax)
@[go_sem] def jyA:((dj x).length=4)/\((dj x).all AV.one=true):=by and_intros<;>(intros;rfl)
@[go_sem] def Su(q:TK):aW q (dj x)=true:=by simp[dj,aW,AV.all]
instance:bC dj 4:=⟨fun _=>rfl,fun _=>rfl,fun x=>Su x _⟩
@[go_sem] def jwP:((dj x).take 4=dj x)/\((dj x).getD 0 .any=.raw (.int .i64 x.op))/\((dj x).getD 1 .any=.raw (.int .i64 x.a))/\(∀(v:Int),List.take 1 (dj x)++[.raw (.int .i64 v)]++List.drop 2 (dj x)=dj { x with a:=v })/\((dj x).getD 2 .any=.raw (.int .i64 x.b))/\((dj x).getD 3 .any=.raw (.string x.s)):=by and_intros<;>(intros;rfl)
end
structure aH where
 ins:List ax
 entry:List Int
 deriving Inhabited,DecidableEq
def xt(x:aH):TB:=[aM dj 4 x.ins,aM eI 1 x.entry]
section
variable (x y:aH)
@[go_sem] def Mm(q:TK):aW q (xt x)=true:=by simp[xt,aW,AV.all]
instance:bC xt 2:=⟨fun _=>rfl,fun _=>rfl,fun x=>Mm x _⟩
end
structure aD where
 at_:Int
 name:ByteArray
 v:aj
 deriving Inhabited,DecidableEq
def bA(x:aD):TB:=[.raw (.int .i64 x.at_),.raw (.string x.name),.raw (.int .i64 x.v.ty),.raw (.int .i64 x.v.n),.raw (.string x.v.s)]
section
variable (x y:aD)
@[go_sem] def j0I:((bA x).length=5)/\((bA x).all AV.one=true):=by and_intros<;>(intros;rfl)
@[go_sem] def FW(q:TK):aW q (bA x)=true:=by simp[bA,aW,AV.all]
instance:bC bA 5:=⟨fun _=>rfl,fun _=>rfl,fun x=>FW x _⟩
@[go_sem] def jyx:((bA x).take 5=bA x)/\((bA x).getD 0 .any=.raw (.int .i64 x.at_))/\((bA x).getD 1 .any=.raw (.string x.name))/\((bA x).getD 2 .any=.raw (.int .i64 x.v.ty))/\(((bA x).drop 2).take 3=bS x.v)/\((bA x).map jT=[some (.int .i64),some .str,some (.int .i64),some (.int .i64),some .str]):=by and_intros<;>(intros;rfl)
@[go_sem] def j2a:jc (bA x) (bA y)=decide (x=y):=by rw[Bool.eq_iff_iff];obtain⟨a31,a32,⟨a33,a34,a35⟩⟩:=x;obtain⟨b36,b37,⟨b38,b39,b40⟩⟩:=y;simp[bA,jc]
end
structure na where
 name:ByteArray
 text:ByteArray
 deriving Inhabited,DecidableEq
def yR(x:na):TB:=[.raw (.string x.name),.raw (.string x.text)]
section
variable (x y:na)
@[go_sem] def Sm(q:TK):aW q (yR x)=true:=by simp[yR,aW,AV.all]
instance:bC yR 2:=⟨fun _=>rfl,fun _=>rfl,fun x=>Sm x _⟩
end
structure pe where
 name:ByteArray
 cO:Int
 vars:List na
 deriving Inhabited,DecidableEq
def zU(x:pe):TB:=[.raw (.string x.name),.raw (.int .i64 x.cO),aM yR 2 x.vars]
section
variable (x y:pe)
@[go_sem] def JC(q:TK):aW q (zU x)=true:=by simp[zU,aW,AV.all]
instance:bC zU 3:=⟨fun _=>rfl,fun _=>rfl,fun x=>JC x _⟩
end
structure so where
 calls:List pe
 bz:List ByteArray
 in_:Int
 status:Int
 cY:Int
 deriving Inhabited,DecidableEq
def BB(x:so):TB:=[aM zU 3 x.calls,aM eS 1 x.bz,.raw (.int .i64 x.in_),.raw (.int .i64 x.status),.raw (.int .i64 x.cY)]
section
variable (x y:so)
@[go_sem] def Mc(q:TK):aW q (BB x)=true:=by simp[BB,aW,AV.all]
instance:bC BB 5:=⟨fun _=>rfl,fun _=>rfl,fun x=>Mc x _⟩
end
structure ay where
 name:ByteArray
 aR:List Int
 base:List aD
 own:List aD
 deriving Inhabited,DecidableEq
def bu(x:ay):TB:=[.raw (.string x.name),aM eI 1 x.aR,aM bA 5 x.base,aM bA 5 x.own]
section
variable (x y:ay)
@[go_sem] def jwM:((bu x).length=4)/\((bu x).all AV.one=true):=by and_intros<;>(intros;rfl)
@[go_sem] def Em(q:TK):aW q (bu x)=true:=by simp[bu,aW,AV.all]
instance:bC bu 4:=⟨fun _=>rfl,fun _=>rfl,fun x=>Em x _⟩
@[go_sem] def juW:((bu x).take 4=bu x)/\((bu x).getD 0 .any=.raw (.string x.name))/\(∀(v:TF),.raw (.string v)::List.drop 1 (bu x)=bu { x with name:=v })/\((bu x).getD 1 .any=aM eI 1 x.aR)/\((bu x).getD 2 .any=aM bA 5 x.base)/\((bu x).getD 3 .any=aM bA 5 x.own):=by and_intros<;>(intros;rfl)
end
structure aX where
 l:List ay
 cur:Int
 time:Int
 deriving Inhabited,DecidableEq
def cS(x:aX):TB:=[aM bu 4 x.l,.raw (.int .i64 x.cur),.raw (.int .i64 x.time)]
section
variable (x y:aX)
@[go_sem] def j07:((cS x).length=3)/\((cS x).all AV.one=true):=by and_intros<;>(intros;rfl)
@[go_sem] def QN(q:TK):aW q (cS x)=true:=by simp[cS,aW,AV.all]
instance:bC cS 3:=⟨fun _=>rfl,fun _=>rfl,fun x=>QN x _⟩
@[go_sem] def jyN:((cS x).take 3=cS x)/\((cS x).getD 0 .any=aM bu 4 x.l)/\((cS x).getD 1 .any=.raw (.int .i64 x.cur))/\(∀(v:Int),List.take 1 (cS x)++[.raw (.int .i64 v)]++List.drop 2 (cS x)=cS { x with cur:=v })/\((cS x).getD 2 .any=.raw (.int .i64 x.time))/\(∀(v:Int),List.take 2 (cS x)++[.raw (.int .i64 v)]++List.drop 3 (cS x)=cS { x with time:=v }):=by and_intros<;>(intros;rfl)
end
structure fW where
 block:Int
 at_:Int
 deriving Inhabited,DecidableEq
def tj(x:fW):TB:=[.raw (.int .i64 x.block),.raw (.int .i64 x.at_)]
section
variable (x y:fW)
@[go_sem] def N3(q:TK):aW q (tj x)=true:=by simp[tj,aW,AV.all]
instance:bC tj 2:=⟨fun _=>rfl,fun _=>rfl,fun x=>N3 x _⟩
end
structure fD where
 fn:Int
 slots:List aj
 path:List fW
 deriving Inhabited,DecidableEq
def yX(x:fD):TB:=[.raw (.int .i64 x.fn),aM bS 3 x.slots,aM tj 2 x.path]
section
variable (x y:fD)
@[go_sem] def LJ(q:TK):aW q (yX x)=true:=by simp[yX,aW,AV.all]
instance:bC yX 3:=⟨fun _=>rfl,fun _=>rfl,fun x=>LJ x _⟩
end
structure gw where
 j7:List fD
 heap:List (List Int)
 in_:Int
 bz:List ByteArray
 status:Int
 cY:Int
 time:Int
 deriving Inhabited,DecidableEq
def BF(x:gw):TB:=[aM yX 3 x.j7,aM sJ 1 x.heap,.raw (.int .i64 x.in_),aM eS 1 x.bz,.raw (.int .i64 x.status),.raw (.int .i64 x.cY),.raw (.int .i64 x.time)]
section
variable (x y:gw)
@[go_sem] def KI(q:TK):aW q (BF x)=true:=by simp[BF,aW,AV.all]
instance:bC BF 7:=⟨fun _=>rfl,fun _=>rfl,fun x=>KI x _⟩
end
end Go.Gd