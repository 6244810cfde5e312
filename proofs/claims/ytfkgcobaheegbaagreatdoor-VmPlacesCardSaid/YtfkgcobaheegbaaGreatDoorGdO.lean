/- Lemmas. No conditions. -/
import Derived.Test.YtfkgcobaheegbaaGreatDoorGdL
set_option linter.all false
namespace Go.Gd
open Go
section
variable {P:Program}{ops:Array Oper}{H:Hp}
variable{ty:TypeId}{K:AV->Hp->Prop}
theorem uG{ev ev':Operand->AV}(o:Op)(h:∀x∈o.operands.toList,ev x=ev' x):vc P ev H ty K o=vc P ev' H ty K o:=by
 have quiet:((vq P ev H o).1/\K (vq P ev H o).2 H)=((vq P ev' H o).1/\K (vq P ev' H o).2 H):=by rw[tO o h]
 have other:iZ P o ty ev H K=iZ P o ty ev' H K:=by
  unfold iZ;apply propext;constructor<;>intro hh w ρ dst pos after guard h1 h2
  ·exact hh w ρ dst pos after guard h1 fun x hx=>by rw[h x hx];exact h2 x hx
  ·exact hh w ρ dst pos after guard h1 fun x hx=>by rw[<-h x hx];exact h2 x hx
 cases o
 case box t x=>simp only[vc];rw[h x (by simp[Op.operands])]
 case store t a x=>simp only[vc];rw[h x (by simp[Op.operands]),h a (by simp[Op.operands])]
 case buildSlice t n ps=>
  simp only[Op.operands]at h;simp only[vc];rw[List.map_congr_left (g:=fun p=>(p.1,ev' p.2)) (fun x hx=>by rw[h x.2 (by simp at hx ⊢;exact⟨_,hx⟩)])]
 case binOp op t x y t'=>
  cases op<;>first
   |(simp only[vc];rw[h x (by simp[Op.operands]),h y (by simp[Op.operands])];done)
   |exact quiet
 case call c=>
  obtain⟨callee,args,ts⟩:=c;cases callee
  case value f=>
   simp only[Op.operands,Call.operands]at h;simp only[vc];rw[h f jE,List.map_congr_left (fun x hx=>h x (by simp at hx ⊢;exact .inr hx))]
  case builtin b=>
   have hm:args.toList.map ev=args.toList.map ev':=List.map_congr_left fun x hx=>h x (by simpa[Op.operands,Call.operands]using hx)
   cases b
   case append=>
    simp only[vc];split
    ·rename_i t t' a x ht ha
     rw[h a (by simp[Op.operands,Call.operands];rw[<-Array.mem_toList_iff,ha];simp),h x (by simp[Op.operands,Call.operands];rw[<-Array.mem_toList_iff,ha];simp)]
    ·rfl
   case len=>exact quiet
   case cap=>exact quiet
   case max=>exact quiet
   case min=>exact quiet
   all_goals(simp only[vc,db,Bool.false_eq_true,if_false];rw[hm])
  all_goals exact other
 all_goals first
  |rfl
  |exact quiet
  |exact other
variable{t:TypeId}{K':AV->Hp->Prop}
theorem Em{n:Nat}{parts:List (Nat×AV)}(h:nj P H t n parts K)(hk:∀r H,K r H->K' r H):nj P H t n parts K':=by
 unfold nj at*;split at h
 ·rename_i e he
  split at h
  ·refine⟨h.1,?_⟩
   rcases h.2 with h2|⟨h2,i,h3,h4⟩
   ·exact .inl ⟨h2.1,hk _ _ h2.2⟩
   ·exact .inr ⟨h2,i,h3,hk _ _ h4⟩
  ·exact h.elim
 ·exact h.elim
theorem EO{ev:Operand->AV}(o:Op)(hk:∀r H',K r H'->K' r H')(h:vc P ev H ty K o):vc P ev H ty K' o:=by
 have quiet:((vq P ev H o).1/\K (vq P ev H o).2 H)->((vq P ev H o).1/\K' (vq P ev H o).2 H):=fun h=>⟨h.1,hk _ _ h.2⟩
 have other:iZ P o ty ev H K->iZ P o ty ev H K':=fun hh w ρ dst pos after guard h1 h2=>by
  obtain⟨w',H',r,g1,g2⟩:=hh w ρ dst pos after guard h1 h2;exact⟨w',H',r,hk _ _ g1,g2⟩
 cases o
 case box t x=>obtain⟨h1,i,h2,h3⟩:=h;exact⟨h1,i,h2,hk _ _ h3⟩
 case alloc t=>
  simp only[vc,nz]at h ⊢;split at h
  ·obtain⟨i,h2,h3⟩:=h;exact⟨i,h2,hk _ _ h3⟩
  ·exact h.elim
 case store t a x=>
  simp only[vc,tX]at h ⊢;split at h
  ·split at h
   ·exact⟨h.1,hk _ _ h.2⟩
   ·exact h.elim
  ·exact h.elim
 case buildSlice t n ps=>exact Em h hk
 case binOp op t x y t'=>
  have nileq:∀ne,p6 P ne t (ev x) (ev y) H K->p6 P ne t (ev x) (ev y) H K':=fun ne h=>by
   unfold p6 at h ⊢;split at h
   ·exact⟨h.1,fun b hb=>hk _ _ (h.2 b hb)⟩
   ·exact⟨h.1,fun b hb=>hk _ _ (h.2 b hb)⟩
   ·rename_i hno
    exact⟨h.1,hk _ _ h.2⟩
  cases op<;>first
   |exact nileq false h
   |exact nileq true h
   |exact quiet h
 case call c=>
  obtain⟨callee,args,ts⟩:=c;cases callee
  case value f=>exact zB h hk
  case builtin b=>
   have bvc:sa P b ts.toList (args.toList.map ev) H K->sa P b ts.toList (args.toList.map ev) H K':=fun hh w vs ty cs h1 h2=>by
    obtain⟨w',H',r,v,g1,g2,g3⟩:=hh w vs ty cs h1 h2;exact⟨w',H',r,v,g1,hk _ _ g2,g3⟩
   cases b
   case append=>
    simp only[vc]at h ⊢;split at h
    ·intro w va vx ty h1 h2 h3
     obtain⟨w',H',r,v,g1,g2,g3⟩:=h w va vx ty h1 h2 h3;exact⟨w',H',r,v,g1,hk _ _ g2,g3⟩
    ·exact h.elim
   case len=>exact quiet h
   case cap=>exact quiet h
   case max=>exact quiet h
   case min=>exact quiet h
   all_goals exact bvc h
  all_goals exact other h
 all_goals first
  |exact quiet h
  |exact other h
-- what is quiet, what is an effect
def qa:Op->Bool
 |.buildSlice ..=>true
 |_=>false
abbrev AS:=List Nat×List Nat×List Nat
def tc(A:AS)(o:Oper):Bool:=match o.dst with
 |some t=>A.2.1.contains t
 |none=>false
def oI(A:AS)(o:Oper):Bool:=match o.dst with
 |some t=>A.2.2.contains t
 |none=>false
def pJ(A:AS)(o:Oper):Bool:=o.guard.isSome && oI A o && kV o.op
def mT(A:AS)(o:Oper):Bool:=(o.guard.isNone && !db o.op && !ov o.op && !(qa o.op && !oI A o) && !tc A o) || pJ A o
def Ai(P:Program)(ev:Operand->AV)(H:Hp)(K:AV->Prop):Op->Prop
 |.call { callee:=.value f,args,.. }=>∃r,(fF P (ev f) (args.toList.map ev) H fun r' H'=>r'=r/\H'=H)/\K r
 |.lookup t m k c=>∃r,iZ P (.lookup t m k c) 0 ev H (fun r' H'=>r'=r/\H'=H)/\K r
 |_=>False
def oJ(o:Oper):Bool:=match o.op with
 |.load ..=>true
 |.lookup ..=>true
 |.call { callee:=.value _,.. }=>true
 |.call { callee:=.builtin .len,argTypes,.. }=>jh.contains (argTypes.toList.headD 0)
 |_=>false
def mU(A:AS)(o:Oper):Bool:=match o.op with
 |.alloc _=>true
 |.box ..=>true
 |.store ..=>!A.1.isEmpty && !A.2.2.contains 1000000
 |.call { callee:=.value _,.. }=>oI A o
 |.call { callee:=.builtin .append,.. }=>oI A o
 |.buildSlice ..=>oI A o
 |.makeSlice ..=>oI A o
 |_=>false
def oC(o:Oper):Bool:=match o.op with
 |.load ..=>o.guard.isNone
 |_=>false
def dS(A:AS)(H H':Hp):Prop:=∀i r,A.1.contains i=false->H.get i=some r->H'.get i=some r\/(A.1.contains (i+16)=true/\∃t c c' cs,r=.var t (c::cs)/\H'.get i=some (.var t (c'::cs)))
theorem dS.refl(A:AS)(H:Hp):dS A H H:=fun _ _ _ h=>.inl h
theorem dS.trans{L:AS}{A B C:Hp}(h:dS L A B)(k:dS L B C):dS L A C:=fun i r ha e=>by
 rcases h i r ha e with h1|⟨h0,t,c,c',cs,rfl,h1⟩
 ·exact k i r ha h1
 ·rcases k i _ ha h1 with k1|⟨_,t',d,d',ds,e',k1⟩
  ·exact .inr ⟨h0,t,c,c',cs,rfl,k1⟩
  ·cases e';exact .inr ⟨h0,t,c,d',cs,rfl,k1⟩
theorem dS.put{A:AS}{H:Hp}{i:Nat}{r:Row}(h:H.get i=none):dS A H (H.put i r):=fun j s _ hj=>by
 left
 rw[Hp.bf,if_neg (by rintro rfl;rw[h]at hj;cases hj)];exact hj
variable{A:AS}{i:Nat}
theorem dS.set{H:Hp}{r:Row}(h:A.1.contains i=true):dS A H (H.put i r):=fun j s ha hj=>by
 left
 rw[Hp.bf,if_neg (by rintro rfl;rw[h]at ha;cases ha)];exact hj
def sA(A:AS):AV->Bool
 |.pt i _ _ j=>!A.1.contains i && (decide (1<=j) || !A.1.contains (i+16))
 |_=>true
def AF(A:AS):AV->Bool
 |.pt i _ _ _=>A.1.contains i
 |_=>false
def iL(A:AS)(ev:Operand->AV):Op->Bool
 |.load _ x=>sA A (ev x)
 |.store _ a _=>(A.1.isEmpty || A.2.2.contains 1000000) || AF A (ev a)
 |_=>true
variable{H':Hp}
theorem NF{H:Hp}(h:dS A H H'){a:AV}(ha:sA A a=true){x:Prop×List AV}(hc:pH H a=some x):pH H' a=some x:=by
 unfold pH at*;split at hc
 ·exact hc
 ·rename_i i m k j
  have ha:A.1.contains i=false/\(1<=j\/A.1.contains (i+16)=false):=by
   simp only[sA,Bool.and_eq_true,Bool.or_eq_true,Bool.not_eq_true',decide_eq_true_eq]at ha;exact ha
  cases e:H.get i with
  |none=>rw[e]at hc;cases hc
  |some r=>
   rw[e]at hc;rcases h i r ha.1 e with h1|⟨h0,t,c,c',cs,rfl,h1⟩
   ·simp only[h1];exact hc
   ·rcases ha.2 with h2|h2
    ·obtain⟨j',rfl⟩:∃j',j=j'+1:=⟨j-1,jB⟩
     simp only[h1,List.drop_succ_cons]at hc ⊢;exact hc
    ·rw[h0]at h2;cases h2
 ·cases hc
theorem NV{H:Hp}(h:dS A H H'){a:AV}(ha:sA A a=true)(hq:(oM P H t a).1):oM P H' t a=oM P H t a:=by
 unfold oM at*;cases e:pH H a with
 |none=>rw[e]at hq;exact hq.elim
 |some x=>rw[NF h ha e]
def fT(P:Program)(ev:Operand->AV)(H:Hp)(ty:TypeId)(K:AV->Hp->Prop)(op:Op):Prop:=if ov op then(vq P ev H op).1/\K (vq P ev H op).2 H else match op with
 |.buildSlice t n parts=>o0 P t n (parts.toList.map fun p=>(p.1,ev p.2)) fun r=>K r H
 |op=>vc P ev H ty K op
theorem Ib{ev:Operand->AV}(t:TypeId)(n:Nat)(parts:Array (Nat×Operand)):fT P ev H ty K (.buildSlice t n parts)=o0 P t n (parts.toList.map fun p=>(p.1,ev p.2)) fun r=>K r H:=rfl
theorem Gj{ev:Operand->AV}{op:Op}(h1:¬ov op=true)(h2:¬qa op=true):fT P ev H ty K op=vc P ev H ty K op:=by
 unfold fT;rw[if_neg h1];cases op<;>first|rfl|(exact(h2 rfl).elim)
def sr(P:Program)(A:AS)(ev:Operand->AV)(H:Hp)(K:AV->Hp->Prop):Op->Prop
 |.call { callee:=.value f,args,.. }=>fF P (ev f) (args.toList.map ev) H fun r H'=>dS A H H'/\K r H'
 |.buildSlice t n parts=>nj P H t n (parts.toList.map fun p=>(p.1,ev p.2)) fun r H'=>dS A H H'/\K r H'
 |.makeSlice t l c=>iZ P (.makeSlice t l c) 0 ev H fun r H'=>dS A H H'/\K r H'
 |.call { callee:=.builtin .append,args,argTypes }=>vc P ev H 0 (fun r H'=>dS A H H'/\K r H') (.call ⟨.builtin .append,args,argTypes⟩)
 |_=>False
def fR(A:AS)(P:Program)(ops:Array Oper)(K:List AV->Hp->Prop):List Oper->List AV->Hp->Prop
 |[],F,H=>K F H
 |o::rest,F,H=>match o.guard with
  |none=>if tc A o=true then Ai P (cf F) H (fun r=>fR A P ops K rest (cM F o.dst r) H) o.op else if oI A o=true then sr P A (cf F) H (fun r H'=>fR A P ops K rest (cM F o.dst r) H') o.op else iL A (cf F) o.op=true/\fT P (cf F) H o.type (fun r H'=>fR A P ops K rest (cM F o.dst r) H') o.op
  |some (j,want)=>match mw ops F j want with
   |some b=>if pJ A o=true then(b=true->gi F o.op=true/\sr P A (bQ F) H (fun r H'=>fR A P ops K rest (cM F o.dst r) H') o.op)/\(b=false->fR A P ops K rest (cM F o.dst (.gd false (.raw (.bool false)))) H)
    else(kV o.op || iy o.op)=true/\eu P F H b (fun r=>fR A P ops K rest (cM F o.dst r) H) o.op
   |none=>False
theorem PG(ts:List TypeId)(args:List AV)(h:jh.contains (ts.headD 0)=false):mJ P H .len ts args=mJ P H' .len ts args:=by
 unfold mJ;cases ts with
 |nil=>rfl
 |cons t ts=>
  cases args with
  |nil=>rfl
  |cons x l=>
   show sY P H t x=sY P H' t x;unfold sY;have h:jh.contains t=false:=h;have hn:¬(jh.contains t=true):=by rw[h];exact Bool.false_ne_true
   cases x with
   |raw v=>cases v<;>rfl
   |mr i=>
    show(if jh.contains t=true then _ else gy)=(if jh.contains t=true then _ else gy);rw[if_neg hn,if_neg hn]
   |_=>rfl
variable{o:Oper}
theorem vg{ev:Operand->AV}(h:oJ o=false):vq P ev H o.op=vq P ev H' o.op:=by
 obtain⟨dst,op,ty,pos,after,guard⟩:=o;cases op<;>first
  |rfl
  |(simp[oJ]at h;done)
  |skip
 rename_i c;obtain⟨callee,args,ts⟩:=c;cases callee
 case builtin b=>
  cases b
  case len=>exact PG _ _ h
  all_goals(simp only[vq];unfold mJ;generalize ts.toList=a;generalize args.toList.map ev=b;cases a<;>cases b<;>rfl)
 all_goals rfl
variable{F:List AV}
theorem Of{g:Bool}{K:AV->Prop}(h:oJ o=false):eu P F H g K o.op=eu P F H' g K o.op:=by
 have hc:kV o.op=false:=by
  obtain⟨dst,op,ty,pos,after,guard⟩:=o;cases op<;>first
   |rfl
   |(rename_i c;obtain⟨callee,args,ts⟩:=c;cases callee<;>first|rfl|simp[oJ]at h)
 by_cases hp:wT o.op=true
 ·obtain⟨dst,op,ty,pos,after,guard⟩:=o
  cases op<;>first|(cases hp;done)|rfl
 have hp:wT o.op=false:=by simpa using hp
 rw[xU _ hc hp,xU _ hc hp,vg h]
theorem OM{ev:Operand->AV}{o:Op}(h:db o=true):vc P ev H ty K o=((vq P ev H o).1/\K (vq P ev H o).2 H):=by
 cases o
 case binOp op t x y t'=>cases op<;>first|(simp[db]at h;done)|simp[vc,db]
 case call c=>
  obtain⟨callee,args,ts⟩:=c;cases callee
  case builtin b=>cases b<;>first|(simp[db]at h;done)|simp[vc,db]
  all_goals(simp[db]at h;done)
 all_goals first
  |(simp[db]at h;done)
  |simp[vc,db]
theorem Ha{K:List AV->Hp->Prop}{rest:List Oper}(h:fR A P ops K (o::rest) F H) :
  (mT A o=true/\∀G,dL ops o F G->me P ops o G H fun G' H'=>(mU A o=true->dS A H H')/\∃r,G'=cM G o.dst r/\fR A P ops K rest (cM F o.dst r) H')\/
  (mT A o=false/\∃r,QV P ops o F H r/\(oJ o=false->∀H',QV P ops o F H' r)/\(oC o=true->∀H',dS A H H'->QV P ops o F H' r)/\fR A P ops K rest (cM F o.dst r) H):=by
 unfold fR at h;split at h
 ·rename_i hg
  by_cases hqc:tc A o=true
  ·rw[if_pos hqc]at h
   refine .inr ⟨by simp[mT,pJ,hg,hqc],?_⟩;obtain⟨dst,op,ty,pos,after,guard⟩:=o;simp only at hg;subst hg;cases op<;>first|exact h.elim|skip
   case call=>
    rename_i c;obtain⟨callee,args,ts⟩:=c;cases callee<;>first|exact h.elim|skip
    obtain⟨r,h1,h2⟩:=h;exact⟨r,MX h1,fun hd=>by simp[oJ]at hd,fun hld=>by simp[oC]at hld,h2⟩
   case lookup=>
    rename_i t m k c;obtain⟨r,h1,h2⟩:=h;refine⟨r,fun G hG=>?_,fun hd=>by simp[oJ]at hd,fun hld=>by simp[oC]at hld,h2⟩;refine pM (K:=fun F' H'=>F'=cM G dst r/\H'=H) rfl ?_;rw[uG _ hG.1];have e:∀K:AV->Hp->Prop,vc P (cf F) H ty K (.lookup t m k c)=iZ P (.lookup t m k c) ty (cf F) H K:=fun K=>by simp[vc,db]
    show vc P (cf F) H ty _ (.lookup t m k c);rw[e];intro w ρ dst' pos' after' guard' g1 g2;obtain⟨w',H',r',hk,g⟩:=h1 w ρ dst' pos' after' guard' g1 g2;exact⟨w',H',r',⟨by rw[hk.1],hk.2⟩,g⟩
  rw[if_neg hqc]at h;by_cases hgc:oI A o=true
  ·rw[if_pos hgc]at h
   have hqc:tc A o=false:=by simpa using hqc
   obtain⟨dst,op,ty,pos,after,guard⟩:=o;simp only at hg;subst hg;cases op
   case call=>
    rename_i c _;obtain⟨callee,args,ts⟩:=c;cases callee
    case value f _=>
     refine .inl ⟨by simp[mT,db,ov,qa,hqc],fun G hG=>?_⟩;refine pM rfl ?_;rw[uG _ hG.1];exact zB (f:=cf F f) (args:=args.toList.map (cf F)) h fun r H' hk=>⟨fun _=>hk.1,r,rfl,hk.2⟩
    case builtin bi _=>
     cases bi
     case append=>
      refine .inl ⟨by simp[mT,db,ov,qa,hqc],fun G hG=>?_⟩;refine pM rfl ?_;rw[uG _ hG.1];exact EO (K:=fun r H'=>dS A H H'/\fR A P ops K rest (cM F dst r) H') (.call ⟨.builtin .append,args,ts⟩) (fun r H' hk=>⟨fun _=>hk.1,r,rfl,hk.2⟩) h
     all_goals exact h.elim
    all_goals exact h.elim
   case buildSlice=>
    refine .inl ⟨by simp[mT,db,ov,qa,hqc,hgc],fun G hG=>?_⟩;refine pM rfl ?_;rw[uG _ hG.1];exact Em h fun r H' hk=>⟨fun _=>hk.1,r,rfl,hk.2⟩
   case makeSlice=>
    rename_i t l c _;refine .inl ⟨by simp[mT,db,ov,qa,hqc],fun G hG=>?_⟩;refine pM rfl ?_;rw[uG _ hG.1];have e:∀K:AV->Hp->Prop,vc P (cf F) H ty K (.makeSlice t l c)=iZ P (.makeSlice t l c) ty (cf F) H K:=fun K=>by simp[vc,db]
    show vc P (cf F) H ty _ (.makeSlice t l c);rw[e];intro w ρ dst' pos' after' guard' h1 h2;obtain⟨w',H',r,hk,g⟩:=h w ρ dst' pos' after' guard' h1 h2;exact⟨w',H',r,⟨fun _=>hk.1,r,rfl,hk.2⟩,g⟩
   all_goals exact h.elim
  rw[if_neg hgc]at h;obtain⟨hA,h⟩:=h;by_cases he:ov o.op=true
  ·unfold fT at h
   rw[if_pos he]at h;exact .inr ⟨by simp[mT,pJ,hg,he],_,vp hg h.1,fun hd H'=>by rw[vg hd];exact vp hg (by rw[<-vg (H:=H) hd];exact h.1),fun hld=>by
    obtain⟨dst,op,ty,pos,after,guard⟩:=o;cases op<;>first|(simp[ov]at he;done)|(simp[oC]at hld;done),h.2⟩
  ·by_cases hl:qa o.op=true
   ·refine .inr ⟨by simp[mT,pJ,hg,hl,hgc],?_⟩
    obtain⟨dst,op,ty,pos,after,guard⟩:=o;simp only at hg;subst hg;cases op<;>first|(simp[qa]at hl;done)|skip
    rename_i t n parts;rw[Ib]at h;obtain⟨r,h1,h2⟩:=Cr h;exact⟨r,C0 (h2 _ rfl),fun _ H'=>C0 (h2 _ rfl),fun hld=>by simp[oC]at hld,h1⟩
   ·rw[Gj he hl]at h
    by_cases hq:db o.op=true
    ·have h':(vq P (cf F) H o.op).1/\fR A P ops K rest (cM F o.dst (vq P (cf F) H o.op).2) H:=by
      rw[OM hq]at h;exact h
     refine .inr ⟨by simp[mT,pJ,hg,hq],_,vp hg h'.1,fun hd H'=>by rw[vg hd];exact vp hg (by rw[<-vg (H:=H) hd];exact h'.1),fun hld H' hle=>?_,h'.2⟩;obtain⟨dst,op,ty,pos,after,guard⟩:=o;cases op<;>first|(simp[oC]at hld;done)|skip
     rename_i t a;have e:vq P (cf F) H' (.load t a)=vq P (cf F) H (.load t a):=NV hle hA h'.1;have:=vp (P:=P) (ops:=ops) (H:=H') (o:=⟨dst,.load t a,ty,pos,after,guard⟩) (F:=F) hg (by rw[e];exact h'.1);rw[e]at this;exact this
    ·refine .inl ⟨by simp[mT,pJ,hg];simp at hq he hl hqc;exact⟨⟨⟨hq,he⟩,.inl hl⟩,hqc⟩,fun G hG=>?_⟩
     refine pM hg ?_;rw[uG o.op hG.1];by_cases hgr:mU A o=true
     ·obtain⟨dst,op,ty,pos,after,guard⟩:=o
      cases op<;>first|(simp[mU]at hgr;done)|(exact(hgc hgr).elim)|skip
      case call c=>
       obtain⟨callee,args,ts⟩:=c;cases callee
       case builtin bi=>cases bi<;>first|(exact(hgc hgr).elim)|(simp[mU]at hgr;done)
       all_goals first|(exact(hgc hgr).elim)|(simp[mU]at hgr;done)
      case alloc t=>
       simp only[vc,nz]at h ⊢;split at h
       ·obtain⟨i,h2,h3⟩:=h;exact⟨i,h2,fun _=>dS.put h2,_,rfl,h3⟩
       ·exact h.elim
      case box t x=>obtain⟨h1,i,h2,h3⟩:=h;exact⟨h1,i,h2,fun _=>dS.put h2,_,rfl,h3⟩
      case store t a x=>
       simp only[mU,Bool.and_eq_true,Bool.not_eq_true']at hgr;simp only[iL,hgr.1,hgr.2,Bool.false_or]at hA;simp only[vc,tX]at h ⊢;split at h
       ·rename_i i m k j n ha hn
        have hi:A.1.contains i=true:=by rw[ha]at hA;exact hA
        split at h
        ·rename_i r hr
         obtain⟨h1,h2⟩:=h;exact⟨h1,fun _=>dS.set hi,_,rfl,h2⟩
        ·exact h.elim
       ·exact h.elim
     ·exact EO o.op (fun r H' hk=>⟨fun hgr'=>(hgr hgr').elim,r,rfl,hk⟩) h
 ·rename_i j want hg
  split at h
  ·rename_i b hb
   by_cases hgd:pJ A o=true
   ·rw[if_pos hgd]at h
    refine .inl ⟨by simp[mT,hgd],fun G hG=>?_⟩;obtain⟨dst,op,ty,pos,after,guard⟩:=o;simp only at hg;subst hg;have hc:kV op=true:=by unfold pJ at hgd;simp only[Bool.and_eq_true]at hgd;exact hgd.2
    cases op<;>first|(cases hc;done)|skip
    rename_i c;obtain⟨callee,args,ts⟩:=c;cases callee<;>first|(cases hc;done)|skip
    rename_i f;have hev:∀x∈(Op.call ⟨.value f,args,ts⟩).operands.toList,cf G x=cf F x:=hG.1;have hbG:=hG.2 j want rfl;rw[hb]at hbG;have hGg:∀x∈(Op.call ⟨.value f,args,ts⟩).operands.toList,bQ G x=bQ F x:=fun x hx=>by unfold bQ;rw[hev x hx]
    refine pS rfl hbG (fun hbw w tm Q next h1 h2 hn=>?_) (fun hbw=>⟨.gd false (.raw (.bool false)),rn rfl,⟨fun _=>dS.refl _ _,_,rfl,h.2 hbw⟩⟩);obtain⟨ok,hcall⟩:=h.1 hbw;have ok:gi G (.call ⟨.value f,args,ts⟩)=true:=by
     unfold gi at ok ⊢;rw[List.all_eq_true]at ok ⊢;exact fun x hx=>by rw[hev x hx];exact ok x hx
    have hcg:=rM ok;have e1:mh G f=bQ F f:=(hcg f (by simp[Op.operands,Call.operands])).trans (hGg f (by simp[Op.operands,Call.operands]));have e2:args.toList.map (mh G)=args.toList.map (bQ F):=List.map_congr_left fun x hx=>(hcg x (by simp[Op.operands,Call.operands]at hx ⊢;exact .inr hx)).trans (hGg x (by simp[Op.operands,Call.operands]at hx ⊢;exact .inr hx))
    refine wc (ev:=mh G) e1 e2 hcall h1 (uc h2) fun v r' w' H' hR g1 g2 g3=>?_
    rw[Act.put_eq];exact hn _ w' _ H' ⟨fun _=>hR.1,r',rfl,hR.2⟩ g1 ((h2.ext g3).put dst g2 []) g3
   rw[if_neg hgd]at h;obtain⟨hq,hv⟩:=h;obtain⟨r,h1,h2⟩:=Ef hv;have h3:=h2 F (fun r'=>r'=.gd b r) (fun _ _=>rfl) rfl;exact .inr ⟨by simp[mT,hg,hgd],_,ER hg hb hq h3,fun hd H'=>ER hg hb hq (by rw[Of hd]at h3;exact h3),(fun hld=>by
    unfold oC at hld;split at hld
    ·rw[hg]at hld;cases hld
    ·cases hld),h1⟩
  ·exact h.elim
def dB(l:List Oper)(i:Nat):Oper:=l.getD i default
def ka(A:AS)(l:List Oper)(i:Nat):Bool:=mT A (dB l i)
def oK(A:AS)(E:List Nat)(l:List Oper)(ps:List (List Nat)):List Nat->List Nat->Bool
 |done,[]=>(List.range l.length).all fun i=>done.contains i
 |done,i::rest=>((ps.getD i []).all fun k=>done.contains k) && !done.contains i && decide (i<l.length) &&
   (!ka A l i || ((rest.all fun k=>(ps.getD k []).contains i || E.contains k) && done.all fun q=>ka A l q || !oJ (dB l q) || (ps.getD i []).contains q || (mU A (dB l i) && oC (dB l q)))) && oK A E l ps (i::done) rest
def pB(A:AS)(E:List Nat)(l:List Oper)(ord:List Nat):Bool:=xY l && oK A E l (j8 l) [] ord && E.all fun i=>!tc A (dB l i) && !oI A (dB l i)
def mem(done:List Nat)(i:Nat):Bool:=done.contains i
variable{l:List Oper}{done:List Nat}
theorem sH{E:List Nat}{rest:List Nat}(h:oK A E l (j8 l) done (i::rest)=true) :
  (∀k∈(j8 l).getD i [],k∈done)/\i ∉ done/\i<l.length/\(ka A l i=true->(∀k∈rest,i∈(j8 l).getD k []\/k∈E)/\∀q∈done,ka A l q=true\/oJ (dB l q)=false\/q∈(j8 l).getD i []\/(mU A (dB l i)=true/\oC (dB l q)=true))/\oK A E l (j8 l) (i::done) rest=true:=by
 simp only[oK,Bool.and_eq_true,List.all_eq_true,List.contains_iff_mem,Bool.not_eq_true',decide_eq_true_eq,Bool.or_eq_true]at h;obtain⟨⟨⟨⟨h1,h2⟩,h3⟩,h4⟩,h5⟩:=h;refine⟨h1,by simpa using h2,h3,fun he=>?_,h5⟩;rcases h4 with h4|h4
 ·rw[he]at h4;cases h4
 ·exact⟨h4.1,fun q hq=>by
   rcases h4.2 q hq with((h|h)|h)|h
   ·exact .inl h
   ·exact .inr (.inl h)
   ·exact .inr (.inr (.inl h))
   ·exact .inr (.inr (.inr h))⟩
theorem N3{A:AS}{E:List Nat}{l:List Oper}:∀{rest done:List Nat},oK A E l (j8 l) done rest=true->∀e∈rest,ka A l e=true->∀q∈done,ka A l q=true\/oJ (dB l q)=false\/q∈(j8 l).getD e []\/(mU A (dB l e)=true/\oC (dB l q)=true)
 |[],_,_=>fun e he=>by simp at he
 |i::rest,done,h=>fun e he hef q hq=>by
  obtain⟨_,_,_,h4,h5⟩:=sH h;rcases List.mem_cons.1 he with rfl|he
  ·exact(h4 hef).2 q hq
  ·exact N3 h5 e he hef q (List.mem_cons_of_mem _ hq)
theorem Bm{A:AS}{E:List Nat}{l:List Oper}:∀{rest done:List Nat},oK A E l (j8 l) done rest=true->∀i,i<l.length->i∈done\/i∈rest
 |[],done,h=>fun i hi=>by
  simp only[oK,List.all_eq_true,List.mem_range,List.contains_iff_mem]at h;exact .inl (h i hi)
 |j::rest,done,h=>fun i hi=>by
  obtain⟨_,_,_,_,h5⟩:=sH h;rcases Bm h5 i hi with h|h
  ·rcases List.mem_cons.1 h with rfl|h
   ·exact .inr jE
   ·exact .inl h
  ·exact .inr (List.mem_cons_of_mem _ h)
theorem lA:mem done i=true<->i∈done:=by simp[mem]
theorem An(done:List Nat)(i:Nat):(fun k=>mem (i::done) k)=fun k=>mem done k || k == i:=by
 funext k
 rw[Bool.eq_iff_iff];simp[mem,or_comm]
theorem yG(ho:l[i]?=some o){e:Edge}(he:e∈o.after.toList)(hb:Region.binds .any e=true):e.on∈(j8 l).getD i []:=by
 rw[F7 ho,Bb];exact List.mem_flatMap.2 ⟨e,List.mem_filter.2 ⟨he,hb⟩,jE⟩
theorem E0{os:List Oper}{rs F:List AV}{L L':Nat->Bool}{s:Nat}(h:∀k o,os[k]?=some o->o.dst=some s->L k=L' k):∀m,n7 os rs L F s m=n7 os rs L' F s m
 |0=>rfl
 |m+1=>by
  unfold n7;rw[E0 h m];cases ho:os[m]? with
  |none=>simp
  |some o=>
   simp only[Option.bind_some];by_cases hd:o.dst=some s
   ·rw[h m o ho hd]
   ·simp[hd]
theorem qn{os:List Oper}{rs F:List AV}{L:Nat->Bool}{i:Nat}{r:AV}(hL:L i=false):∀m,FL os (rs.set i r) L F m=FL os rs L F m
 |0=>rfl
 |m+1=>by
  unfold FL;rw[qn hL m];by_cases hm:m=i
  ·subst hm;simp[hL]
  ·have:(rs.set i r).getD m .any=rs.getD m .any:=by simp[List.getElem?_set,Ne.symm hm]
   rw[this]
section
variable {l:List Oper}(hlt:∀j o,l[j]?=some o->∀e∈o.after.toList,Region.binds .any e=true->e.on<j)
 (hcl:∀i j a b,i<j->l[i]?=some a->l[j]?=some b->vQ l a b=true->i∈(j8 l).getD j [])
include hlt hcl
variable{L:Nat->Bool}
theorem zm(hcls:nI l L){i:Nat}{o:Oper}(ho:l[i]?=some o)(hif:L i=false)(hpre:∀e∈o.after.toList,Region.binds .any e=true->L e.on=true) :
  ∀k o' s,l[k]?=some o'->o'.dst=some s->(s∈looks l o\/o.dst=some s)->L k=decide (k<i):=by
 intro k o' s hk hs hcase;have hbefore:=yy hcls hlt (i+1) i jB o ho hpre;rcases Nat.lt_trichotomy k i with h|h|h
 ·rw[decide_eq_true h]
  refine hbefore k (hcl k i o' o h hk ho ?_);unfold vQ;rw[hs];rcases hcase with h5|h5
  ·simp[h5]
  ·simp[h5]
 ·subst h;simpa using hif
 ·rw[decide_eq_false jB]
  cases hv:L k with
  |false=>rfl
  |true=>
   have hki:i∈(j8 l).getD k []:=hcl i k o o' h ho hk (by
    unfold vQ;rw[hs];rcases hcase with h5|h5
    ·simp[h5]
    ·simp[h5])
   have:=yy hcls hlt (k+1) k jB o' hk (fun e he hb=>hcls k o' hk hv e he hb) i hki;rw[hif]at this;cases this
theorem FZ{rs F:List AV}{L':Nat->Bool}(hL:nI l L)(hL':nI l L'){i:Nat}{o:Oper}(ho:l[i]?=some o)(h1:L i=false)(h2:L' i=false)
  (h3:∀e∈o.after.toList,Region.binds .any e=true->L e.on=true) (h4:∀e∈o.after.toList,Region.binds .any e=true->L' e.on=true):dL l.toArray o (FL l rs L F l.length) (FL l rs L' F l.length):=by
 refine Jr (by rw[nA,nA]) fun s hs hlen=>?_
 rw[nA]at hlen;rw[vw _ _ _ _ hlen,vw _ _ _ _ hlen];exact(E0 (fun k o' hk hd=>by rw[zm hlt hcl hL ho h1 h3 k o' s hk hd (.inl hs),zm hlt hcl hL' ho h2 h4 k o' s hk hd (.inl hs)]) _).symm
theorem uv{rs F:List AV}{L2:Nat->Bool}(hL:nI l L){i:Nat}{o:Oper}(ho:l[i]?=some o)(h1:L i=false)(h3:∀e∈o.after.toList,Region.binds .any e=true->L e.on=true){r:AV}(hr:rs.getD i .any=r)(hL2:∀k,L2 k=(L k || k == i)) :
  cM (FL l rs L F l.length) o.dst r=FL l rs L2 F l.length:=by
 have hil:=(List.getElem?_eq_some_iff.1 ho).1;refine Kc (m':=0) (L':=fun _=>true) (by cases o.dst<;>simp[cM,nA]) fun s hs=>?_
 by_cases hd:o.dst=some s
 ·rw[Gi (L:=L) ho hL2 (fun k o' hk hd'=>zm hlt hcl hL ho h1 h3 k o' s hk hd' (.inr hd)) hd _ hil,hd,hr]
  simp[cM,nA,hs]
 ·rw[CX (L:=L) ho hL2 hd,<-vw _ _ _ _ hs]
  cases hd':o.dst with
  |none=>rfl
  |some d=>
   have:d≠s:=fun e=>hd (by rw[hd',e])
   simp[cM,List.getElem?_set,this]
end
structure Inv(A:AS)(E:List Nat)(P:Program)(l:List Oper)(K:List AV->Hp->Prop)(F:List AV)(L:Nat->Bool)(done rest:List Nat)(rs:List AV)(H:Hp):Prop where
 len:rs.length=l.length
 sub:∀i,L i=true->i∈done\/i∈E
 fK:nI l L
 j3:nI l (mem done)
 ord:oK A E l (j8 l) done rest=true
 walk:fR A P l.toArray K (rest.map (dB l)) (FL l rs (mem done) F l.length) H
 wait:∀i∈done,L i=false->ka A l i=false/\i<l.length/\∃D,nI l D/\D i=false/\(∀k,D k=true->k∈done)/\(∀e∈(dB l i).after.toList,Region.binds .any e=true->D e.on=true)/\
  QV P l.toArray (dB l i) (FL l rs D F l.length) H (rs.getD i .any)/\(oJ (dB l i)=false->∀H',QV P l.toArray (dB l i) (FL l rs D F l.length) H' (rs.getD i .any))/\(oC (dB l i)=true->∀H',dS A H H'->QV P l.toArray (dB l i) (FL l rs D F l.length) H' (rs.getD i .any))
theorem xt(hi:i<l.length):l[i]?=some (dB l i):=by simp[dB,hi]
def qY(P:Program)(l:List Oper):List Nat->Prop
 |[]=>True
 |i::E=>(match (dB l i).op with|.alloc t=>(ee P t).isSome=true|_=>False)/\(dB l i).guard=none/\qY P l E
theorem yk{P:Program}{l:List Oper}:∀{E:List Nat},qY P l E->∀i∈E,∃t zs,(dB l i).op=.alloc t/\ee P t=some zs/\(dB l i).guard=none
 |[],_,i,hi=>by simp at hi
 |j::E,h,i,hi=>by
  obtain⟨h1,h2,h3⟩:=h;rcases List.mem_cons.1 hi with rfl|hi
  ·split at h1
   ·rename_i t e
    obtain⟨zs,hz⟩:=Option.isSome_iff_exists.1 h1;exact⟨t,zs,e,hz,h2⟩
   ·exact h1.elim
  ·exact yk h3 i hi
def AE(A:AS)(P:Program)(l:List Oper)(E:List Nat):Prop:=qY P l E/\∀i∈E,tc A (dB l i)=false/\oI A (dB l i)=false
theorem PV{P:Program}{E:List Nat}(h:AE A P l E)(hi:i∈E):ka A l i=true/\mU A (dB l i)=true:=by
 obtain⟨t,zs,e,_,hg⟩:=yk h.1 i hi;simp[ka,mT,mU,e,hg,db,ov,qa,(h.2 i hi).1]
def Hid(P:Program)(l:List Oper)(L:Nat->Bool)(done:List Nat)(rs:List AV)(w0 w:NW)(β:Nat->Nat):Prop:=∀i,L i=true->i ∉ done->
 (∃t cur,(dB l i).op=.alloc t/\ee P t=some cur.toList/\rs.getD i .any=.raw (.pointer (some ⟨β i,0,none⟩))/\w.heap[β i]?=some (.cells cur t (0,0))/\w.O (β i)/\w0.heap.size<=β i/\β i<w.heap.size/\∀j m t s,w.nm j m≠some (.at (β i) t s))/\∀j,L j=true->j ∉ done->β i=β j->i=j
theorem Hid.ext{P:Program}{L:Nat->Bool}{rs:List AV}{w0 w w':NW}{β:Nat->Nat}{H:Hp}(h:Hid P l L done rs w0 w β)(e:Ext w H w' H'):Hid P l L done rs w0 w' β:=fun i h1 h2=>by
 obtain⟨⟨t,cur,a1,a2,a3,a4,a5,a6,a7,a8⟩,b⟩:=h i h1 h2;obtain⟨e1,e2,e3⟩:=e.rest (β i) a7 a5 a8;exact⟨⟨t,cur,a1,a2,a3,e1.trans a4,e2,a6,Nat.lt_of_lt_of_le a7 e.size,e3⟩,b⟩
theorem PX{w:NW}{H:Hp}(r:aP w H){b:Nat}{cur:Array Value}(hi:H.get i=none)(hb:w.heap[b]?=some (.cells cur t (0,0)))(hO:w.O b)(hlt:b<w.heap.size)(hno:∀j m t s,w.nm j m≠some (.at b t s)) :
  aP (w.name i 0 (.at b cur.size 0)) (H.put i (.var t (cur.toList.map .raw)))/\Keep rm w (w.name i 0 (.at b cur.size 0))/\av (w.name i 0 (.at b cur.size 0)) (.pt i 0 0 0) (.pointer (some ⟨b,0,none⟩)):=by
 have nmE:∀j n,(w.name i 0 (.at b cur.size 0)).nm j n=if j=i/\n=0 then some (Rz.at b cur.size 0)else w.nm j n:=fun _ _=>rfl
 have kp:Keep rm w (w.name i 0 (.at b cur.size 0)):=⟨Nat.le_refl _,fun _ _ h=>⟨rfl,h⟩,fun j n z _ h=>by
  rw[nmE,if_neg]
  ·exact h
  ·rintro⟨rfl,rfl⟩;rw[r.none hi]at h;cases h⟩
 refine⟨{ rows:=fun j s hj=>?_,dF:=fun j n z hz=>?_,inj:=fun j n j' n' b' t1 s1 t2 s2 h1 h2=>?_,own:=fun j n b' t1 s1 h=>?_,fin:=r.fin,ct:=r.ct.aX kp },kp,?_⟩
 ·rw[Hp.bf]at hj
  split at hj
  ·rename_i e;subst e;cases hj
   refine⟨trivial,.at b cur.size 0,by rw[nmE];exact if_pos ⟨rfl,rfl⟩,rfl,cur,hb,⟨rfl,by show(cur.toList.map AV.raw).length<=_;simp⟩,fun k a v ha hv=>?_⟩;have ha:(cur.toList.map AV.raw)[k]?=some a:=ha;simp only[List.getElem?_map,Array.getElem?_toList,hv,Option.map_some,Option.some.injEq]at ha;subst ha;exact .raw _
  ·rename_i e
   obtain⟨h1,z,h2,h3⟩:=r.rows j s hj;refine⟨h1,z,by rw[nmE,if_neg (fun h=>e h.1)];exact h2,?_⟩;cases z with
   |nil=>exact h3
   |«at» b' t' st=>
    obtain⟨g1,cur',g2,g3,g5⟩:=h3;exact⟨g1,cur',g2,g3,fun k a v ha hv=>(g5 k a v ha hv).aX kp (oN a)⟩
 ·rw[nmE]at hz
  rw[Hp.bf];split at hz
  ·rename_i e;exact⟨_,by rw[if_pos e.1],by rw[e.2];exact Nat.zero_le _⟩
  ·obtain⟨r',h1,h2⟩:=r.dF j n z hz
   have e:j≠i:=fun e=>by subst e;rw[hi]at h1;cases h1
   exact⟨r',by rw[if_neg e];exact h1,h2⟩
 ·rw[nmE]at h1 h2
  split at h1<;>split at h2
  ·rename_i e1 e2;rw[e1.1,e2.1]
  ·cases h1;exact(hno _ _ _ _ h2).elim
  ·cases h2;exact(hno _ _ _ _ h1).elim
  ·exact r.inj _ _ _ _ _ _ _ _ _ h1 h2
 ·rw[nmE]at h
  split at h
  ·cases h;exact hO
  ·exact r.own _ _ _ _ _ h
 ·have:=av.pt (w:=w.name i 0 (.at b cur.size 0)) i 0 0 0 b cur.size 0 (NW.bY _ _ _ _)
  simpa using this
theorem MT{w0 w:NW}{H0 H:Hp}(e:Ext w0 H0 w H)(r:aP w H){b sz:Nat}(hi:H.get i=none)(hb:w0.heap.size<=b)(hB:H'.B=H.B):Ext w0 H0 (w.name i 0 (.at b sz 0)) H':={
 size:=e.size,free:=e.free
 names:=fun j n z hq h=>by
  have:=e.names j n z hq h;show(if j=i/\n=0 then _ else _)=_;rw[if_neg]
  ·exact this
  ·rintro⟨rfl,rfl⟩;rw[r.none hi]at this;cases this
 os:=e.os,tape:=e.tape,output:=e.output
 rest:=fun c hc hO hno=>by
  obtain⟨e1,e2,e3⟩:=e.rest c hc hO hno;refine⟨e1,e2,fun j n t s h=>?_⟩;have h:(if j=i/\n=0 then some (Rz.at b sz 0)else w.nm j n)=some (.at c t s):=h;split at h
  ·cases h;omega
  ·exact e3 _ _ _ _ h
 base:=hB.trans e.base }
theorem F9{os:List Oper}{rs F:List AV}{L:Nat->Bool}{i:Nat}{r:AV}:∀(m:Nat) (s:Nat) (a:AV),(FL os (rs.set i r) L F m)[s]?=some a->(FL os rs L F m)[s]?=some a\/(a=r/\(FL os rs L F m)[s]?=some (rs.getD i .any)/\i<rs.length)
 |0=>fun s a h=>.inl h
 |m+1=>fun s a h=>by
  have ih:=F9 (os:=os) (rs:=rs) (F:=F) (L:=L) (i:=i) (r:=r) m;have hl:(FL os (rs.set i r) L F m).length=(FL os rs L F m).length:=by rw[nA,nA]
  unfold FL at h ⊢;cases hL:L m with
  |false=>simp only[hL,Bool.false_eq_true,if_false]at h ⊢;exact ih s a h
  |true=>
   simp only[hL,if_true]at h ⊢;cases hd:(os[m]?).bind (·.dst)with
   |none=>rw[hd]at h;exact ih s a h
   |some d=>
    rw[hd]at h;simp only[cM]at h ⊢;rw[List.getElem?_set]at h ⊢;by_cases e:d=s
    ·subst e
     simp only[if_true]at h ⊢;rw[hl]at h;split at h
     ·rename_i hlt
      rw[if_pos hlt];simp only[Option.some.injEq]at h;by_cases hm:i=m
      ·subst hm
       by_cases hi:i<rs.length
       ·refine .inr ⟨?_,rfl,hi⟩
        rw[<-h];simp[hi]
       ·refine .inl ?_
        rw[<-h];simp[hi,List.getElem?_set]
      ·refine .inl ?_
       rw[<-h];simp[List.getElem?_set,hm]
     ·cases h
    ·simp only[if_neg e]at h ⊢;exact ih s a h
section
variable {A:AS}{E:List Nat}{l:List Oper}{K:List AV->Hp->Prop}{F:List AV}(hok:xY l=true)(hE:AE A P l E)
include hok
variable{done:List Nat}{i:Nat}
theorem Az(hi:i<l.length)(hd:nI l (mem done))(hp:∀k∈(j8 l).getD i [],k∈done):nI l (mem (i::done)):=fun j o ho hj e he hb=>by
 rw[lA]at hj ⊢;rcases List.mem_cons.1 hj with rfl|hj
 ·exact List.mem_cons_of_mem _ (hp _ (yG ho he hb))
 ·exact List.mem_cons_of_mem _ (lA.1 (hd j o ho (lA.2 hj) e he hb))
include hE
theorem zH:∀(rest:List Nat) {L:Nat->Bool} {done:List Nat} {rs:List AV},Inv A E P l K F L done rest rs H->
  ∃done' rest' rs',Inv A E P l K F L done' rest' rs' H/\(∀i r,rest'=i::r->ka A l i=true)/\FL l rs' L F l.length=FL l rs L F l.length/\rest'.length<=rest.length/\(∀w0 w β,Hid P l L done rs w0 w β->Hid P l L done' rs' w0 w β)
 |[],L,done,rs,h=>⟨done,[],rs,h,(fun i r e=>by cases e),rfl,Nat.le_refl _,fun _ _ _ h=>h⟩
 |i::rest,L,done,rs,h=>by
  obtain⟨hlt,hcl⟩:=wW hok;cases he:ka A l i with
  |true=>exact⟨done,i::rest,rs,h,fun j r e=>by cases e;exact he,rfl,Nat.le_refl _,fun _ _ _ h=>h⟩
  |false=>
   obtain⟨hp,hni,hil,_,h5⟩:=sH h.ord;have ho:=xt hil;have hw:=h.walk;rw[List.map_cons]at hw;rcases Ha hw with⟨hx,_⟩|⟨_,r,q1,q2,q2',q3⟩
   ·unfold ka at he;rw[he]at hx;cases hx
   have hmi:mem done i=false:=by rw[<-Bool.not_eq_true,lA];exact hni
   have hLi:L i=false:=by
    cases e:L i with
    |false=>rfl
    |true=>
     rcases h.sub i e with h6|h6
     ·exact(hni h6).elim
     ·rw[(PV (A:=A) hE h6).1]at he;cases he
   have hpre:∀e∈(dB l i).after.toList,Region.binds .any e=true->mem done e.on=true:=fun e he hb=>lA.2 (hp _ (yG ho he hb))
   have hset:∀D:Nat->Bool,(∀k,D k=true->k∈done)->FL l (rs.set i r) D F l.length=FL l rs D F l.length:=fun D hD=>qn (by
    cases e:D i with
    |false=>rfl
    |true=>exact(hni (hD i e)).elim) _
   have hget:(rs.set i r).getD i .any=r:=by simp[h.len,hil]
   have hne:∀j,j≠i->(rs.set i r).getD j .any=rs.getD j .any:=fun j hj=>by simp[List.getElem?_set,Ne.symm hj]
   have hnext:=uv (rs:=rs.set i r) (F:=F) hlt hcl h.j3 ho hmi hpre hget (L2:=mem (i::done)) (fun k=>by rw[show mem (i::done) k=(fun k=>mem (i::done) k) k from rfl,An]);rw[hset _ (fun k hk=>lA.1 hk)]at hnext;have hinv:Inv A E P l K F L (i::done) rest (rs.set i r) H:=by
    refine⟨by simpa using h.len,fun k hk=>(h.sub k hk).imp_left (List.mem_cons_of_mem _),h.fK,Az hok hil h.j3 hp,h5,by rw[<-hnext];exact q3,fun j hj hLj=>?_⟩;rcases List.mem_cons.1 hj with rfl|hj
    ·exact⟨he,hil,mem done,h.j3,hmi,fun k hk=>List.mem_cons_of_mem _ (lA.1 hk),hpre,by rw[hset _ (fun k hk=>lA.1 hk),hget];exact q1,fun hd H'=>by rw[hset _ (fun k hk=>lA.1 hk),hget];exact q2 hd H',fun hd H' hle=>by rw[hset _ (fun k hk=>lA.1 hk),hget];exact q2' hd H' hle⟩
    ·obtain⟨w1,w2,D,w3,w4,w5,w6,w7,w8,w9⟩:=h.wait j hj hLj
     have hji:j≠i:=fun e=>hni (e ▸ hj)
     exact⟨w1,w2,D,w3,w4,fun k hk=>List.mem_cons_of_mem _ (w5 k hk),w6,by rw[hset _ w5,hne j hji];exact w7,fun hd H'=>by rw[hset _ w5,hne j hji];exact w8 hd H',fun hd H' hle=>by rw[hset _ w5,hne j hji];exact w9 hd H' hle⟩
   obtain⟨d',r',rs',g1,g2,g3,g4,g5⟩:=zH rest hinv;refine⟨d',r',rs',g1,g2,by rw[g3,qn hLi],by simp;omega,fun w0 w β hh=>g5 w0 w β fun k hk1 hk2=>?_⟩;have hki:k≠i:=fun e=>hk2 (by simp[e])
   obtain⟨a,b⟩:=hh k hk1 fun hk3=>hk2 (List.mem_cons_of_mem _ hk3)
   rw[hne k hki];exact⟨a,fun j hj1 hj2=>b j hj1 fun hj3=>hj2 (List.mem_cons_of_mem _ hj3)⟩
variable{L:Nat->Bool}{rest:List Nat}
theorem GY{L2:Nat->Bool}{rs:List AV}{r:AV}{H':Hp}(h:Inv A E P l K F L done (i::rest) rs H)(hef:ka A l i=true)(hL2:∀k,L2 k=(L k || k == i))(hgrow:mU A (dB l i)=true->dS A H H')
  (hbefore:∀k∈(j8 l).getD i [],L k=true):∀j∈i::done,L2 j=false->ka A l j=false/\j<l.length/\∃D,nI l D/\D j=false/\(∀k,D k=true->k∈i::done)/\(∀e∈(dB l j).after.toList,Region.binds .any e=true->D e.on=true)/\
  QV P l.toArray (dB l j) (FL l (rs.set i r) D F l.length) H' ((rs.set i r).getD j .any)/\(oJ (dB l j)=false->∀H'',QV P l.toArray (dB l j) (FL l (rs.set i r) D F l.length) H'' ((rs.set i r).getD j .any))/\(oC (dB l j)=true->∀H'',dS A H' H''->QV P l.toArray (dB l j) (FL l (rs.set i r) D F l.length) H'' ((rs.set i r).getD j .any)):=by
 intro j hj hLj;obtain⟨hp,hne,hel,h4,h5⟩:=sH h.ord;have hset:∀D:Nat->Bool,(∀k,D k=true->k∈done)->FL l (rs.set i r) D F l.length=FL l rs D F l.length:=fun D hD=>qn (by
  cases e:D i with
  |false=>rfl
  |true=>exact(hne (hD i e)).elim) _
 have hgn:∀j,j≠i->(rs.set i r).getD j .any=rs.getD j .any:=fun j hj=>by simp[List.getElem?_set,Ne.symm hj]
 rw[hL2]at hLj;obtain⟨hLj,hji⟩:=Bool.or_eq_false_iff.1 hLj;have hji:j≠i:=by simpa using hji
 have hj:j∈done:=by rcases List.mem_cons.1 hj with e|h;exact(hji e).elim;exact h
 obtain⟨w1,w2,D,w3,w4,w5,w6,w7,w8,w9⟩:=h.wait j hj hLj;have hnow:QV P l.toArray (dB l j) (FL l rs D F l.length) H' (rs.getD j .any):=by
  rcases(h4 hef).2 j hj with h6|h6|h6|h6
  ·rw[w1]at h6;cases h6
  ·exact w8 h6 H'
  ·have:=hbefore j h6;rw[hLj]at this;cases this
  ·exact w9 h6.2 H' (hgrow h6.1)
 refine⟨w1,w2,D,w3,w4,fun k hk=>List.mem_cons_of_mem _ (w5 k hk),w6,by rw[hset _ w5,hgn j hji];exact hnow,fun hd H''=>by rw[hset _ w5,hgn j hji];exact w8 hd H'',fun hd H'' hle=>?_⟩;rw[hset _ w5,hgn j hji];rcases(h4 hef).2 j hj with h6|h6|h6|h6
 ·rw[w1]at h6;cases h6
 ·exact w8 h6 H''
 ·have:=hbefore j h6;rw[hLj]at this;cases this
 ·exact w9 h6.2 H'' ((hgrow h6.1).trans hle)
theorem settle{w0:NW}{H0:Hp}:∀(n:Nat) {L:Nat->Bool} {done rest:List Nat} {rs:List AV} {H:Hp} {w:NW} {tm:Array Value} {β:Nat->Nat},rest.length<=n->Inv A E P l K F L done rest rs H->aP w H->bp w (FL l rs L F l.length) tm->Ext w0 H0 w H->Hid P l L done rs w0 w β->
  ∃done' rest' rs' H' w',NW.toWorld w'=w.toWorld/\Inv A E P l K F L done' rest' rs' H'/\(∀i r,rest'=i::r->ka A l i=true/\L i=false)/\aP w' H'/\bp w' (FL l rs' L F l.length) tm/\Ext w0 H0 w' H'/\Hid P l L done' rs' w0 w' β
 |n,L,done,rest,rs,H,w,tm,β,hn,h,h1,h2,h3,h4=>by
  obtain⟨hlt,hcl⟩:=wW hok;obtain⟨d',r',rs',g1,g2,g3,g4,g5⟩:=zH hok hE rest h;have g5:=g5 _ _ _ h4;rw[<-g3]at h2;cases r' with
  |nil=>exact⟨d',[],rs',H,w,rfl,g1,(fun i r e=>by cases e),h1,h2,h3,g5⟩
  |cons i r=>
   have hef:=g2 i r rfl;cases hLi:L i with
   |false=>exact⟨d',i::r,rs',H,w,rfl,g1,(fun j q e=>by cases e;exact⟨hef,hLi⟩),h1,h2,h3,g5⟩
   |true=>
    obtain⟨hp,hne,hel,c4,c5⟩:=sH g1.ord;obtain⟨⟨t,cur,a1,a2,a3,a4,a5,a6,a7,a8⟩,a9⟩:=g5 i hLi hne;have hiE:i∈E:=(g1.sub i hLi).resolve_left hne;have hgd:(dB l i).guard=none:=by obtain⟨_,_,_,_,hg⟩:=yk hE.1 i hiE;exact hg
    have hw:=g1.walk;rw[List.map_cons]at hw;unfold fR at hw;rw[hgd]at hw;simp only at hw;rw[if_neg (by rw[(hE.2 i hiE).1];exact Bool.false_ne_true),if_neg (by rw[(hE.2 i hiE).2];exact Bool.false_ne_true)]at hw;obtain⟨_,hw⟩:=hw;rw[a1,Gj (by simp[ov]) (by simp[qa])]at hw;simp only[vc,nz,a2]at hw;obtain⟨id,hid,hv⟩:=hw;have ho:=xt hel;obtain⟨k1,k2,k3⟩:=PX h1 hid a4 a5 a7 a8;have hmi:mem d' i=false:=by rw[<-Bool.not_eq_true,lA];exact hne
    have hpre':∀e∈(dB l i).after.toList,Region.binds .any e=true->mem d' e.on=true:=fun e he hb=>lA.2 (hp _ (yG ho he hb))
    have hget:(rs'.set i (.pt id 0 0 0)).getD i .any=.pt id 0 0 0:=by simp[g1.len,hel]
    have hset:∀D:Nat->Bool,(∀k,D k=true->k∈d')->FL l (rs'.set i (.pt id 0 0 0)) D F l.length=FL l rs' D F l.length:=fun D hD=>qn (by
     cases e:D i with
     |false=>rfl
     |true=>exact(hne (hD i e)).elim) _
    have hn1:=uv (rs:=rs'.set i (.pt id 0 0 0)) (F:=F) hlt hcl g1.j3 ho hmi hpre' hget (L2:=mem (i::d')) (fun k=>by rw[show mem (i::d') k=(fun k=>mem (i::d') k) k from rfl,An]);rw[hset _ (fun k hk=>lA.1 hk)]at hn1;have hbefore:∀k∈(j8 l).getD i [],L k=true:=yy g1.fK hlt (i+1) i jB _ ho fun e he hb=>g1.fK i _ ho hLi e he hb
    have hinv:Inv A E P l K F L (i::d') r (rs'.set i (.pt id 0 0 0)) (H.put id (.var t (cur.toList.map .raw))):=
     ⟨by simpa using g1.len,fun k hk=>(g1.sub k hk).imp_left (List.mem_cons_of_mem _),g1.fK,Az hok hel g1.j3 hp,c5,by rw[<-hn1];exact hv,
      GY hok hE g1 hef (fun k=>by
       by_cases e:k=i
       ·subst e;simp[hLi]
       ·simp[e]) (fun _=>dS.put hid) hbefore⟩
    have hrel:bp (w.name id 0 (.at (β i) cur.size 0)) (FL l (rs'.set i (.pt id 0 0 0)) L F l.length) tm:=by
     refine⟨by rw[nA];have:=h2.1;rw[nA]at this;exact this,fun s a v ha hv'=>?_⟩;rcases F9 l.length s a ha with h6|⟨rfl,h6,_⟩
     ·exact(h2.2 s a v h6 hv').aX k2 (oN a)
     ·have:=h2.2 s _ v h6 hv'
      rw[a3]at this;have:=de this;subst this;exact k3
    have hhid:Hid P l L (i::d') (rs'.set i (.pt id 0 0 0)) w0 (w.name id 0 (.at (β i) cur.size 0)) β:=fun k hk1 hk2=>by
     have hki:k≠i:=fun e=>hk2 (by simp[e])
     have hk3:k ∉ d':=fun e=>hk2 (List.mem_cons_of_mem _ e)
     obtain⟨⟨t',cur',b1,b2,b3,b4,b5,b6,b7,b8⟩,b9⟩:=g5 k hk1 hk3;refine⟨⟨t',cur',b1,b2,by rw[<-b3];simp[List.getElem?_set,Ne.symm hki],b4,b5,b6,b7,fun j m t1 s1 hh=>?_⟩,fun j hj1 hj2=>b9 j hj1 fun e=>hj2 (List.mem_cons_of_mem _ e)⟩;have hh:(if j=id/\m=0 then some (Rz.at (β i) cur.size 0)else w.nm j m)=some (.at (β k) t1 s1):=hh;split at hh
     ·simp only[Option.some.injEq,Rz.at.injEq]at hh
      exact hki (a9 k hk1 hk3 hh.1).symm
     ·exact b8 _ _ _ _ hh
    simp only[List.length_cons]at g4;obtain⟨n,rfl⟩:∃k,n=k+1:=⟨n-1,jB⟩;obtain⟨d2,r2,rs2,H2,w2,x1,x2,x3,x4,x5,x6,x7⟩:=settle n jB hinv k1 hrel (MT h3 h1 hid a6 rfl) hhid;exact⟨d2,r2,rs2,H2,w2,x1,x2,x3,x4,x5,x6,x7⟩
theorem IL{rs:List AV}(h:Inv A E P l K F L done rest rs H)(hs:∀i r,rest=i::r->ka A l i=true/\L i=false){o:Oper}(ho:l[i]?=some o)(hi:L i=false)(hpre:∀e∈o.after.toList,Region.binds .any e=true->L e.on=true)
  {L2:Nat->Bool} (hL2:∀k,L2 k=(L k || k == i)) (hnE:i∈done\/i ∉ E\/∃r,rest=i::r) :
  me P l.toArray o (FL l rs L F l.length) H fun G' H'=>∃done' rest' rs',Inv A E P l K F L2 done' rest' rs' H'/\G'=FL l rs' L2 F l.length/\∀w0 w β,Hid P l L done rs w0 w β->Hid P l L2 done' rs' w0 w β:=by
 obtain⟨hlt,hcl⟩:=wW hok;have hil:=(List.getElem?_eq_some_iff.1 ho).1;obtain rfl:o=dB l i:=by have:=(xt hil).symm.trans ho;cases this;rfl
 have hclo2:nI l L2:=fun j o' hj hLj e he hb=>by
  rw[hL2]at hLj ⊢;rcases Bool.or_eq_true_iff.1 hLj with h6|h6
  ·rw[h.fK j o' hj h6 e he hb];rfl
  ·obtain rfl:j=i:=by simpa using h6
   rw[ho]at hj;cases hj;rw[hpre e he hb];rfl
 by_cases hd:i∈done
 ·obtain⟨w1,w2,D,w3,w4,w5,w6,w7,w8,w9⟩:=h.wait i hd hi
  refine(w7 _ (FZ hlt hcl w3 h.fK ho w4 hi w6 hpre)).mono ?_;rintro G' H' ⟨rfl,rfl⟩;refine⟨done,rest,rs,⟨h.len,fun k hk=>?_,hclo2,h.j3,h.ord,h.walk,fun j hj hLj=>h.wait j hj ?_⟩,uv hlt hcl h.fK ho hi hpre rfl hL2,fun w0 w β hh k hk1 hk2=>?_⟩
  ·rw[hL2]at hk
   rcases Bool.or_eq_true_iff.1 hk with h6|h6
   ·exact h.sub k h6
   ·obtain rfl:k=i:=by simpa using h6
    exact .inl hd
  ·rw[hL2]at hLj
   exact(Bool.or_eq_false_iff.1 hLj).1
  ·have hLk:∀k,L2 k=true->k ∉ done->L k=true:=fun k h1 h2=>by
    rw[hL2]at h1;rcases Bool.or_eq_true_iff.1 h1 with h6|h6
    ·exact h6
    ·obtain rfl:k=i:=by simpa using h6
     exact(h2 hd).elim
   obtain⟨a,b⟩:=hh k (hLk k hk1 hk2) hk2;exact⟨a,fun j hj1 hj2=>b j (hLk j hj1 hj2) hj2⟩
 ·-- the next effect
  have hrest:i∈rest:=(Bm h.ord i hil).resolve_left hd;obtain⟨e,rest',rfl⟩:∃e r,rest=e::r:=by cases rest with|nil=>simp at hrest|cons e r=>exact⟨e,r,rfl⟩
  obtain⟨hef,hLe⟩:=hs e rest' rfl;obtain⟨hp,hne,hel,h4,h5⟩:=sH h.ord;have hbefore:=yy h.fK hlt (i+1) i jB _ ho hpre;obtain rfl:i=e:=by
   rcases List.mem_cons.1 hrest with h|hr
   ·exact h
   ·rcases(h4 hef).1 i hr with h6|h6
    ·have:=hbefore e h6;rw[hLe]at this;cases this
    ·rcases hnE with h7|h7|⟨r,h7⟩
     ·exact(hd h7).elim
     ·exact(h7 h6).elim
     ·cases h7;rfl
  have hmi:mem done i=false:=by rw[<-Bool.not_eq_true,lA];exact hne
  have hpre':∀e∈(dB l i).after.toList,Region.binds .any e=true->mem done e.on=true:=fun e he hb=>lA.2 (hp _ (yG ho he hb))
  have hw:=h.walk;rw[List.map_cons]at hw;obtain⟨_,hx⟩:=(Ha hw).resolve_right fun⟨hx,_⟩=>by unfold ka at hef;rw[hef]at hx;cases hx
  refine(hx _ (FZ hlt hcl h.j3 h.fK ho hmi hi hpre' hpre)).mono ?_;rintro G' H' ⟨hgrow,r,rfl,hv⟩;have hset:∀D:Nat->Bool,(∀k,D k=true->k∈done)->FL l (rs.set i r) D F l.length=FL l rs D F l.length:=fun D hD=>qn (by
   cases e:D i with
   |false=>rfl
   |true=>exact(hne (hD i e)).elim) _
  have hget:(rs.set i r).getD i .any=r:=by simp[h.len,hil]
  have hn1:=uv (rs:=rs.set i r) (F:=F) hlt hcl h.j3 ho hmi hpre' hget (L2:=mem (i::done)) (fun k=>by rw[show mem (i::done) k=(fun k=>mem (i::done) k) k from rfl,An]);rw[hset _ (fun k hk=>lA.1 hk)]at hn1;have hn2:=uv (rs:=rs.set i r) (F:=F) hlt hcl h.fK ho hi hpre hget hL2;rw[qn hi]at hn2;refine⟨i::done,rest',rs.set i r,⟨by simpa using h.len,fun k hk=>?_,hclo2,Az hok hil h.j3 hp,h5,by rw[<-hn1];exact hv,GY hok hE h hef hL2 hgrow hbefore⟩,hn2,fun w0 w β hh k hk1 hk2=>?_⟩
  ·rw[hL2]at hk
   rcases Bool.or_eq_true_iff.1 hk with h6|h6
   ·exact(h.sub k h6).imp_left (List.mem_cons_of_mem _)
   ·obtain rfl:k=i:=by simpa using h6
    simp
  ·have hLk:∀k,L2 k=true->k ∉ i::done->L k=true/\k ∉ done/\k≠i:=fun k h1 h2=>by
    rw[hL2]at h1;simp only[List.mem_cons,not_or]at h2;rcases Bool.or_eq_true_iff.1 h1 with h6|h6
    ·exact⟨h6,h2.2,h2.1⟩
    ·exact(h2.1 (by simpa using h6)).elim
   obtain⟨y1,y2,y3⟩:=hLk k hk1 hk2;obtain⟨⟨t,cur,b1,b2,b3,b4⟩,b⟩:=hh k y1 y2;exact⟨⟨t,cur,b1,b2,by rw[<-b3];simp[List.getElem?_set,Ne.symm y3],b4⟩,fun j hj1 hj2=>b j (hLk j hj1 hj2).1 (hLk j hj1 hj2).2.1⟩
theorem MG{rs:List AV}(h:Inv A E P l K F L done rest rs H){o:Oper}(ho:l[i]?=some o)(hi:L i=false)(hd:i ∉ done)(hiE:i∈E)(hpre:∀e∈o.after.toList,Region.binds .any e=true->L e.on=true)
  {L2:Nat->Bool} (hL2:∀k,L2 k=(L k || k == i)) {w0 w:NW} {H0:Hp} {tm:Array Value} {β:Nat->Nat} (h1:aP w H) (h2:bp w (FL l rs L F l.length) tm) (h3:Ext w0 H0 w H) (h4:Hid P l L done rs w0 w β) {Q:Exit->Act->World->Prop} {next:Act->World->Prop}
  (hn:∀tm' w' rs' β',Inv A E P l K F L2 done rest rs' H->aP w' H->bp w' (FL l rs' L2 F l.length) tm'->Ext w0 H0 w' H->Hid P l L2 done rs' w0 w' β'->next ⟨tm',[]⟩ w'.toWorld):se P l.toArray Q o next ⟨tm,[]⟩ w.toWorld:=by
 obtain⟨hlt,hcl⟩:=wW hok;have hil:=(List.getElem?_eq_some_iff.1 ho).1;obtain rfl:o=dB l i:=by have:=(xt hil).symm.trans ho;cases this;rfl
 obtain⟨t,zs,e1,e2,e3⟩:=yk hE.1 i hiE;obtain⟨z,hrun,rfl⟩:=xh (w:=w.toWorld) e2;have hclo2:nI l L2:=fun j o' hj hLj e he hb=>by
  rw[hL2]at hLj ⊢;rcases Bool.or_eq_true_iff.1 hLj with h6|h6
  ·rw[h.fK j o' hj h6 e he hb];rfl
  ·obtain rfl:j=i:=by simpa using h6
   rw[ho]at hj;cases hj;rw[hpre e he hb];rfl
 have hget:(rs.set i (.raw (.pointer (some ⟨w.heap.size,0,none⟩)))).getD i .any=.raw (.pointer (some ⟨w.heap.size,0,none⟩)):=by simp[h.len,hil]
 have hne:∀j,j≠i->∀r:AV,(rs.set i r).getD j .any=rs.getD j .any:=fun j hj r=>by simp[List.getElem?_set,Ne.symm hj]
 have hset:∀(r:AV) (D:Nat->Bool),(∀k,D k=true->k∈done)->FL l (rs.set i r) D F l.length=FL l rs D F l.length:=fun r D hD=>qn (by
  cases e:D i with
  |false=>rfl
  |true=>exact(hd (hD i e)).elim) _
 have hn2:=uv (rs:=rs.set i (.raw (.pointer (some ⟨w.heap.size,0,none⟩)))) (F:=F) hlt hcl h.fK ho hi hpre hget hL2;rw[qn hi]at hn2;have ex:Ext w H ((w.to (w.alloc (.cells z.cells t))).fM w.heap.size) H:={
  size:=by show w.heap.size<=(w.alloc _).heap.size;simp
  free:=fun b hb hn=>⟨RowKit.Below.heap_alloc w.toWorld _ b hb,fun h=>by
   rcases h with h|h
   ·omega
   ·exact hn h⟩
  names:=fun _ _ _ _ h=>h
  os:=rfl,tape:=rfl,output:=rfl
  rest:=fun b hb hO hno=>⟨RowKit.Below.heap_alloc w.toWorld _ b hb,.inr hO,hno⟩
  base:=rfl }
 have hW:aP ((w.to (w.alloc (.cells z.cells t))).fM w.heap.size) H:={
  rows:=fun j row hj=>by
   obtain⟨g1,y,g2,g3⟩:=h1.rows j row hj;refine⟨g1,y,g2,g3.ext ex fun b t' s e=>?_⟩;subst e;exact RowKit.Below.heap_alloc w.toWorld _ b (h1.lt g2)
  dF:=h1.dF,inj:=h1.inj,ct:=h1.ct.aX ex.toKeep
  own:=fun j n b t' s hh=>.inr (h1.own j n b t' s hh)
  fin:=fun b hb=>by
   show b<(w.alloc _).heap.size;rcases hb with hh|hh
   ·subst hh;simp
   ·have:=h1.fin b hh;simp;omega }
 have hLk:∀k,L2 k=true->k≠i->L k=true:=fun k h1 h2=>by
  rw[hL2]at h1;exact(Bool.or_eq_true_iff.1 h1).resolve_right (by simpa using h2)
 unfold se;rw[if_pos (by simp[Region.wanted,e3])];refine .inl ?_;have hex:(execOp (Act.mk tm []).eval (dB l i)).run P w.toWorld=.ok (.value (.pointer (some ⟨w.heap.size,0,none⟩))) (w.alloc (.cells z.cells t)):=by
  have:∀(o:Oper),o.op=.alloc t->(execOp (Act.mk tm []).eval o).run P w.toWorld=.ok (.value (.pointer (some ⟨w.heap.size,0,none⟩))) (w.alloc (.cells z.cells t)):=fun o ho=>by
   obtain⟨dst,op,ty,pos,after,guard⟩:=o;simp only at ho;subst ho;simp only[execOp,Sem.run_bind,Instr.alloc,hrun,Result.andThen_ok,newVar,newRow];simp
  exact this _ e1
 simp only[Oper.wp,hex,Oper.upon];rw[Act.put_eq];refine hn _ ((w.to (w.alloc (.cells z.cells t))).fM w.heap.size) (rs.set i (.raw (.pointer (some ⟨w.heap.size,0,none⟩)))) (fun k=>if k=i then w.heap.size else β k) ⟨by simpa using h.len,fun k hk=>?_,hclo2,h.j3,h.ord,by rw[hset _ _ (fun k hk=>lA.1 hk)];exact h.walk,fun j hj hLj=>?_⟩ hW ?_ (h3.trans ex) ?_
 ·rw[hL2]at hk
  rcases Bool.or_eq_true_iff.1 hk with h6|h6
  ·exact h.sub k h6
  ·obtain rfl:k=i:=by simpa using h6
   exact .inr hiE
 ·rw[hL2]at hLj
  obtain⟨w1,w2,D,w3,w4,w5,w6,w7,w8,w9⟩:=h.wait j hj (Bool.or_eq_false_iff.1 hLj).1;have hji:j≠i:=fun e=>hd (e ▸ hj)
  exact⟨w1,w2,D,w3,w4,w5,w6,by rw[hset _ _ w5,hne j hji];exact w7,fun hd H'=>by rw[hset _ _ w5,hne j hji];exact w8 hd H',fun hd H' hle=>by rw[hset _ _ w5,hne j hji];exact w9 hd H' hle⟩
 ·rw[<-hn2]
  exact(h2.ext ex).put _ (.raw _) []
 ·intro k hk1 hk2
  by_cases hki:k=i
  ·subst hki
   refine⟨⟨t,z.cells,e1,e2,by simp only[if_true];exact hget,by simp only[if_true];exact heap_alloc_new w.toWorld _,by simp only[if_true];exact .inl rfl,by simp only[if_true];exact h3.size,by simp only[if_true];show w.heap.size<(w.alloc _).heap.size;simp,fun j m t' s hh=>?_⟩,fun j hj1 hj2 e=>?_⟩
   ·simp only[if_true]at hh
    have hh:w.nm j m=some (.at w.heap.size t' s):=hh;have:=h1.lt hh;omega
   ·by_cases hjk:j=k
    ·exact hjk.symm
    ·exfalso
     obtain⟨⟨_,_,_,_,_,_,_,_,b7,_⟩,_⟩:=h4 j (hLk j hj1 hjk) hj2;simp only[if_true,if_neg hjk]at e;omega
  ·obtain⟨⟨t',cur,b1,b2,b3,b4,b5,b6,b7,b8⟩,b9⟩:=h4 k (hLk k hk1 hki) hk2
   simp only[if_neg hki];refine⟨⟨t',cur,b1,b2,by rw[hne k hki];exact b3,(RowKit.Below.heap_alloc w.toWorld _ _ b7).trans b4,.inr b5,b6,Nat.lt_of_lt_of_le b7 ex.size,b8⟩,fun j hj1 hj2 e=>?_⟩;by_cases hji:j=i
   ·subst hji
    simp only[if_true]at e;omega
   ·simp only[if_neg hji]at e
    exact b9 j (hLk j hj1 hji) hj2 e
theorem ND{Q:Exit->List AV->Hp->Prop}(hQ:∀F H,K F H->Q .normal F H){H0:Hp}(w0:NW) :
  ∀(fuel:Nat) (listed:Array Bool),listed.size=l.length->(List.range l.length).countP (fun i=>!listed.getD i false)=fuel->
   ∀H done rest rs (w:NW) tm β,Inv A E P l K F (fun i=>listed.getD i false) done rest rs H->(∀i r,rest=i::r->ka A l i=true/\listed.getD i false=false)->
    aP w H->bp w (FL l rs (fun i=>listed.getD i false) F l.length) tm->Ext w0 H0 w H->Hid P l (fun i=>listed.getD i false) done rs w0 w β->wpAny P .any l.toArray (iG Q w0 H0) fuel listed ⟨tm,[]⟩ w.toWorld:=by
 obtain⟨hlt,hcl⟩:=wW hok;have fin:∀(listed:Array Bool) H done rest rs,Inv A E P l K F (fun i=>listed.getD i false) done rest rs H->(∀i r,rest=i::r->ka A l i=true/\listed.getD i false=false)->(∀i,i<l.length->listed.getD i false=true)->∀(w:NW) tm,aP w H->bp w (FL l rs (fun i=>listed.getD i false) F l.length) tm->Ext w0 H0 w H->iG Q w0 H0 .normal ⟨tm,[]⟩ w.toWorld:=by
  intro listed H done rest rs h hs hall w tm h1 h2 h3;obtain rfl:rest=[]:=by
   cases rest with
   |nil=>rfl
   |cons i r=>
    obtain⟨_,hni,hil,_⟩:=sH h.ord;have h6:=(hs i r rfl).2;rw[hall i hil]at h6;cases h6
  have e:FL l rs (fun i=>listed.getD i false) F l.length=FL l rs (mem done) F l.length:=by
   have gen:∀m,m<=l.length->FL l rs (fun i=>listed.getD i false) F m=FL l rs (mem done) F m:=by
    intro m;induction m with
    |zero=>intro _;rfl
    |succ m ih=>
     intro hm;have h4:=hall m jB;have h5:mem done m=true:=lA.2 ((Bm h.ord m jB).resolve_right jE);rw[FL,FL,ih jB,h4,h5]
   exact gen _ jl
  rw[e]at h2;exact⟨tm,_,H,w,rfl,rfl,hQ _ _ h.walk,h1,h2,h3.qB⟩
 intro fuel;induction fuel with
 |zero=>
  intro listed hsz hcnt H done rest rs w tm β h hs h1 h2 h3 _;have hall:∀i,i<l.length->listed.getD i false=true:=fun i hi=>by
   have:=(List.countP_eq_zero.1 hcnt) i (List.mem_range.2 hi);simpa using this
  refine⟨?_,fin listed H done rest rs h hs hall w tm h1 h2 h3⟩;rw[List.eq_nil_iff_forall_not_mem];intro j hj;obtain⟨hj0,o,ho,_⟩:=mem_ready.1 hj;have hjl:j<l.length:=by have:=(Array.getElem?_eq_some_iff.1 ho).1;simpa using this
  have:=hall j hjl;simp[hsz,hjl]at this hj0;rw[this]at hj0;cases hj0
 |succ fuel ih=>
  intro listed hsz hcnt H done rest rs w tm β h hs h1 h2 h3 hhid;refine⟨fun hnil=>?_,fun i hi=>?_⟩
  ·exfalso
   have hex:∃i,i<l.length/\listed.getD i false=false:=by
    have hpos:0<(List.range l.length).countP (fun i=>!listed.getD i false):=jB
    obtain⟨i,hi,hp⟩:=List.countP_pos_iff.1 hpos;exact⟨i,List.mem_range.1 hi,by simpa using hp⟩
   obtain⟨i,⟨hi,hf⟩,hleast⟩:=exists_least hex;have ho:l[i]?=some l[i]:=List.getElem?_eq_getElem hi;have:i∈Region.ready .any l.toArray listed:=mem_ready.2 ⟨by simp[hsz,hi]at hf ⊢;exact hf,l[i],by simp[hi],fun e he hb=>by
    have h4:=hlt i _ ho e (by simpa using he) hb;cases hv:listed.getD e.on false with
    |true=>rfl
    |false=>have:=hleast e.on ⟨jB,hv⟩;omega⟩
   rw[hnil]at this;cases this
  ·obtain⟨hi0,o,ho,hpre⟩:=mem_ready.1 hi
   have ho':l[i]?=some o:=by simpa using ho
   have hil:=(List.getElem?_eq_some_iff.1 ho').1;have hif:listed.getD i false=false:=by simp[hsz,hil]at hi0 ⊢;exact hi0
   have hpre':∀e∈o.after.toList,Region.binds .any e=true->listed.getD e.on false=true:=fun e he hb=>hpre e (by simpa using he) hb
   have hL':∀k,(listed.setIfInBounds i true).getD k false=(listed.getD k false || k == i):=fun k=>by
    by_cases hk:k=i
    ·subst hk;simp[hsz,hil]
    ·simp[Array.getElem?_setIfInBounds_ne (Ne.symm hk),hk]
   have hcnt':(List.range l.length).countP (fun k=>!(listed.setIfInBounds i true).getD k false)=fuel:=by
    have:∀(n:Nat),i<n->(List.range n).countP (fun k=>!(listed.setIfInBounds i true).getD k false)+1=(List.range n).countP (fun k=>!listed.getD k false):=by
     intro n;induction n with
     |zero=>intro h;omega
     |succ n ihn=>
      intro h;rw[List.range_succ,List.countP_append,List.countP_append];by_cases hn:n=i
      ·subst hn
       have:(List.range n).countP (fun k=>!(listed.setIfInBounds n true).getD k false)=(List.range n).countP (fun k=>!listed.getD k false):=by
        refine List.countP_congr fun k hk=>?_
        rw[hL'];have:k≠n:=by have:=List.mem_range.1 hk;omega
        simp[this]
       rw[this];simp only[List.countP_singleton,hL',hif];simp
      ·rw[<-ihn jB]
       simp only[List.countP_singleton,hL'];have:(n == i)=false:=by simpa using hn
       rw[this,Bool.or_false];omega
    have:=this l.length hil;omega
   have go:∀{d' r' rs' H'} {w':NW} {tm'} {β'},Inv A E P l K F (fun k=>(listed.setIfInBounds i true).getD k false) d' r' rs' H'->aP w' H'->bp w' (FL l rs' (fun k=>(listed.setIfInBounds i true).getD k false) F l.length) tm'->Ext w0 H0 w' H'->Hid P l (fun k=>(listed.setIfInBounds i true).getD k false) d' rs' w0 w' β'->
     wpAny P .any l.toArray (iG Q w0 H0) fuel (listed.setIfInBounds i true) ⟨tm',[]⟩ w'.toWorld:=fun{d' r' rs' H' w' tm' β'} k1 k2 k3 k4 k5=>by
    obtain⟨d2,r2,rs2,H2,w2,x1,x2,x3,x4,x5,x6,x7⟩:=settle hok hE r'.length jl k1 k2 k3 k4 k5;rw[<-x1];exact ih (listed.setIfInBounds i true) (by simpa using hsz) hcnt' H2 d2 r2 rs2 w2 tm' β' x2 x3 x4 x5 x6 x7
   unfold wpOp;rw[ho];by_cases hearly:i ∉ done/\i∈E/\¬ ∃r,rest=i::r
   ·have:=MG hok hE h ho' hif hearly.1 hearly.2.1 hpre' (L2:=fun k=>(listed.setIfInBounds i true).getD k false) hL' h1 h2 h3 hhid (Q:=iG Q w0 H0) (next:=wpAny P .any l.toArray (iG Q w0 H0) fuel (listed.setIfInBounds i true)) fun tm' w' rs' β' k1 k2 k3 k4 k5=>go k1 k2 k3 k4 k5
    exact this
   ·have hnE:i∈done\/i ∉ E\/∃r,rest=i::r:=by
     by_cases a:i∈done
     ·exact .inl a
     ·by_cases b:i∈E
      ·exact .inr (.inr (Classical.byContradiction fun c=>hearly ⟨a,b,c⟩))
      ·exact .inr (.inl b)
    have hop:=IL hok hE h hs ho' hif hpre' (L2:=fun k=>(listed.setIfInBounds i true).getD k false) hL' hnE;have:=hop w tm (iG Q w0 H0) (wpAny P .any l.toArray (iG Q w0 H0) fuel (listed.setIfInBounds i true)) h1 h2 (by
     rintro tm' w' F' H' ⟨d',r',rs',k1,rfl,k2⟩ g1 g2 g3;exact go k1 g1 g2 (h3.trans g3) (k2 _ _ _ (hhid.ext g3)))
    exact this
end
theorem Br(A:AS)(E:List Nat){id:Nat}(ord:List Nat){Q:Exit->List AV->Hp->Prop}(hm:P.follows .mixedOrders=true)(hok:pB A E l ord=true)(hE:qY P l E)(h:fR A P l.toArray (Q .normal) (ord.map (dB l)) F H):dH P (.region id l.toArray true) Q F H:=fun w tm h1 h2=>by
 simp only[pB,Bool.and_eq_true,List.all_eq_true,Bool.not_eq_true']at hok;obtain⟨⟨hdr,hord⟩,hqE⟩:=hok;have hE:AE A P l E:=⟨hE,hqE⟩;have hz:∀i,(Array.replicate l.toArray.size false).getD i false=false:=fun i=>by
  by_cases hi:i<l.length<;>simp[Array.getElem?_replicate,hi]
 refine wp_region_any hm ?_;have e0:∀(rs:List AV) (L:Nat->Bool),(∀i,L i=false)->FL l rs L F l.length=F:=fun rs L hL=>by
  have gen:∀m,FL l rs L F m=F:=by
   intro m;induction m with
   |zero=>rfl
   |succ m ih=>rw[FL,hL,if_neg jE,ih]
  exact gen _
 have hinv:Inv A E P l (Q .normal) F (fun i=>(Array.replicate l.toArray.size false).getD i false) [] ord (List.replicate l.length .any) H:=
  ⟨jE,(fun i hi=>by have:=(hz i).symm.trans hi;cases this),(fun j o _ hj=>by have:=(hz j).symm.trans hj;cases this),(fun j o _ hj=>by simp[mem]at hj),hord,
   (by rw[e0 _ _ (fun i=>by simp[mem])];exact h),(fun i hi=>by simp at hi)⟩
 obtain⟨d',r',rs',k1,k2,k3,_⟩:=zH hdr hE ord hinv;refine ND hdr hE (fun _ _ h=>h) w l.toArray.size (Array.replicate l.toArray.size false) jE (by
  rw[List.countP_eq_length.2 (fun i _=>by rw[hz];rfl)];simp) H d' r' rs' (w.to w.drew) tm (fun _=>0) k1 (fun i r e=>⟨k2 i r e,hz i⟩) h1.drew (by rw[e0 _ _ hz];exact h2.ext (Ext.drew w H)) (Ext.drew w H) (fun i hi _=>by have:=(hz i).symm.trans hi;cases this)
end
variable{P:Program}{H:Hp}{l:List Oper}{Q:Exit->List AV->Hp->Prop}
theorem C5(A:AS){id:Nat}(ord:List Nat){F:List AV}(hm:P.follows .mixedOrders=true)(hok:pB A [] l ord=true)(h:fR A P l.toArray (Q .normal) (ord.map (dB l)) F H):dH P (.region id l.toArray true) Q F H:=Br A [] ord hm hok trivial h
theorem KP{id:Nat}(ord:List Nat){F:List AV}(hm:P.follows .mixedOrders=true)(hok:pB ([],[],[]) [] l ord=true)(h:fR ([],[],[]) P l.toArray (Q .normal) (ord.map (dB l)) F H):dH P (.region id l.toArray true) Q F H:=C5 ([],[],[]) ord hm hok h
section
variable {P:Program}{ev:Operand->AV}{H:Hp}{ty:TypeId}{K:AV->Hp->Prop}
@[go_sem] theorem j3u(x:Operand):fT P ev H ty K (.move x)=vc P ev H ty K (.move x):=(rfl)
@[go_sem] theorem jzK(x:Operand):fT P ev H ty K (.assign x)=vc P ev H ty K (.assign x):=(rfl)
@[go_sem] theorem j3v(c a b:Operand):fT P ev H ty K (.pick c a b)=vc P ev H ty K (.pick c a b):=(rfl)
@[go_sem] theorem jwg(x:Operand):fT P ev H ty K (.nilCheck x)=vc P ev H ty K (.nilCheck x):=(rfl)
@[go_sem] theorem j3t(t:TypeId)(x:Operand):fT P ev H ty K (.load t x)=vc P ev H ty K (.load t x):=(rfl)
@[go_sem] theorem jvf(t:TypeId)(x:Operand)(f:Nat):fT P ev H ty K (.fieldAddr t x f)=vc P ev H ty K (.fieldAddr t x f):=(rfl)
@[go_sem] theorem j1Y(t:TypeId)(x:Operand)(f:Nat):fT P ev H ty K (.field t x f)=vc P ev H ty K (.field t x f):=(rfl)
@[go_sem] theorem jvg(t:TypeId)(x i:Operand):fT P ev H ty K (.indexAddr t x i)=vc P ev H ty K (.indexAddr t x i):=(rfl)
@[go_sem] theorem j1Z(t:TypeId)(x i:Operand):fT P ev H ty K (.index t x i)=vc P ev H ty K (.index t x i):=(rfl)
@[go_sem] theorem jyE(x:Operand)(i:Nat):fT P ev H ty K (.extract x i)=vc P ev H ty K (.extract x i):=(rfl)
@[go_sem] theorem j10(t:TypeId)(a:Operand)(lo hi mx:Option Operand):fT P ev H ty K (.slice t a lo hi mx)=vc P ev H ty K (.slice t a lo hi mx):=(rfl)
@[go_sem] theorem j1X(t:TypeId)(ps:Array (Nat×Operand)):fT P ev H ty K (.build t ps)=vc P ev H ty K (.build t ps):=(rfl)
@[go_sem] theorem j4Z(as:Array Operand)(ts:Array TypeId):fT P ev H ty K (.call ⟨.builtin .len,as,ts⟩)=vc P ev H ty K (.call ⟨.builtin .len,as,ts⟩):=(rfl)
@[go_sem] theorem j41(as:Array Operand)(ts:Array TypeId):fT P ev H ty K (.call ⟨.builtin .min,as,ts⟩)=vc P ev H ty K (.call ⟨.builtin .min,as,ts⟩):=(rfl)
@[go_sem] theorem j4U(t:TypeId)(x y:Operand)(t':TypeId):fT P ev H ty K (.binOp .add t x y t')=vc P ev H ty K (.binOp .add t x y t'):=(rfl)
@[go_sem] theorem j42(t:TypeId)(x y:Operand)(t':TypeId):fT P ev H ty K (.binOp .sub t x y t')=vc P ev H ty K (.binOp .sub t x y t'):=(rfl)
@[go_sem] theorem j40(t:TypeId)(x y:Operand)(t':TypeId):fT P ev H ty K (.binOp .lss t x y t')=vc P ev H ty K (.binOp .lss t x y t'):=(rfl)
@[go_sem] theorem j4Y(t:TypeId)(x y:Operand)(t':TypeId):fT P ev H ty K (.binOp .gtr t x y t')=vc P ev H ty K (.binOp .gtr t x y t'):=(rfl)
@[go_sem] theorem j4X(t:TypeId)(x y:Operand)(t':TypeId):fT P ev H ty K (.binOp .geq t x y t')=vc P ev H ty K (.binOp .geq t x y t'):=(rfl)
@[go_sem] theorem j4W(t:TypeId)(x y:Operand)(t':TypeId):fT P ev H ty K (.binOp .eql t x y t')=((fl P .eql t (ev x) (ev y)).1/\K (fl P .eql t (ev x) (ev y)).2 H):=by simp[fT,ov,vq]
@[go_sem] theorem j4V(t:TypeId)(x:Operand):fT P ev H ty K (.box t x)=vc P ev H ty K (.box t x):=(rfl)
@[go_sem] theorem j1W(t:TypeId):fT P ev H ty K (.alloc t)=vc P ev H ty K (.alloc t):=(rfl)
@[go_sem] theorem j11(t:TypeId)(a x:Operand):fT P ev H ty K (.store t a x)=vc P ev H ty K (.store t a x):=(rfl)
@[go_sem] theorem jtm(t:TypeId)(n:Nat)(ps:Array (Nat×Operand)):fT P ev H ty K (.buildSlice t n ps)=o0 P t n (ps.toList.map fun p=>(p.1,ev p.2)) fun r=>K r H:=(rfl)
@[go_sem] theorem j3s(f:Operand)(as:Array Operand)(ts:Array TypeId):fT P ev H ty K (.call ⟨.value f,as,ts⟩)=vc P ev H ty K (.call ⟨.value f,as,ts⟩):=(rfl)
@[go_sem] theorem jzJ(t:TypeId)(a x:Operand):fT P ev H ty K (.call ⟨.builtin .append,#[a,x],#[t,t]⟩)=vc P ev H ty K (.call ⟨.builtin .append,#[a,x],#[t,t]⟩):=(rfl)
end
variable{C D:List Nat}
@[go_sem] theorem j3d{ev:Operand->AV}(op:Op):iL ([],C,D) ev op=true:=by
 cases op<;>first|rfl|(rename_i t x;simp only[iL];generalize ev x=a;cases a<;>first|rfl|simp[sA])
variable{A:AS}
@[go_sem] theorem j1a{ev:Operand->AV}(t:TypeId)(x:Operand):iL A ev (.load t x)=sA A (ev x):=(rfl)
@[go_sem] theorem jzy{ev:Operand->AV}(t:TypeId)(a x:Operand):iL A ev (.store t a x)=((A.1.isEmpty || A.2.2.contains 1000000) || AF A (ev a)):=(rfl)
@[go_sem] theorem jz2(A:AS)(i m k j:Nat):sA A (.pt i m k j)=(!A.1.contains i && (decide (1<=j) || !A.1.contains (i+16))):=(rfl)
@[go_sem] theorem jz1(A:AS)(cs:List AV):sA A (.ip cs)=true:=(rfl)
@[go_sem] theorem j3a(A:AS)(i m k j:Nat):AF A (.pt i m k j)=A.1.contains i:=(rfl)
@[go_sem] theorem j1b{ev:Operand->AV}(x:Operand):iL A ev (.move x)=true:=(rfl)
@[go_sem] theorem jxE{ev:Operand->AV}(x:Operand):iL A ev (.assign x)=true:=(rfl)
@[go_sem] theorem j1c{ev:Operand->AV}(c a b:Operand):iL A ev (.pick c a b)=true:=(rfl)
@[go_sem] theorem jum{ev:Operand->AV}(x:Operand):iL A ev (.nilCheck x)=true:=(rfl)
@[go_sem] theorem jzu{ev:Operand->AV}(op:BinOp)(t:TypeId)(x y:Operand)(t':TypeId):iL A ev (.binOp op t x y t')=true:=(rfl)
@[go_sem] theorem jtg{ev:Operand->AV}(t:TypeId)(x:Operand)(f:Nat):iL A ev (.fieldAddr t x f)=true:=(rfl)
@[go_sem] theorem jzw{ev:Operand->AV}(t:TypeId)(x:Operand)(f:Nat):iL A ev (.field t x f)=true:=(rfl)
@[go_sem] theorem jth{ev:Operand->AV}(t:TypeId)(x i:Operand):iL A ev (.indexAddr t x i)=true:=(rfl)
@[go_sem] theorem jzx{ev:Operand->AV}(t:TypeId)(x i:Operand):iL A ev (.index t x i)=true:=(rfl)
@[go_sem] theorem jvQ{ev:Operand->AV}(x:Operand)(i:Nat):iL A ev (.extract x i)=true:=(rfl)
@[go_sem] theorem jzv{ev:Operand->AV}(t:TypeId)(ps:Array (Nat×Operand)):iL A ev (.build t ps)=true:=(rfl)
@[go_sem] theorem j09{ev:Operand->AV}(c:Call):iL A ev (.call c)=true:=(rfl)
@[go_sem] theorem jzt{ev:Operand->AV}(t:TypeId):iL A ev (.alloc t)=true:=(rfl)
@[go_sem] theorem j3c{ev:Operand->AV}(t:TypeId)(x:Operand):iL A ev (.box t x)=true:=(rfl)
@[go_sem] theorem jrO{ev:Operand->AV}(t:TypeId)(n:Nat)(ps:Array (Nat×Operand)):iL A ev (.buildSlice t n ps)=true:=(rfl)
variable{ops:Array Oper}{K:List AV->Hp->Prop}
@[go_sem] theorem j3F(F:List AV)(H:Hp):fR A P ops K [] F H=K F H:=(rfl)
variable{L:List Nat}
@[go_sem] theorem j17(dst:Option Tmp)(op:Op)(ty:TypeId)(pos:String)(after:Array Edge)(rest:List Oper)(F:List AV)(H:Hp) :
  fR (L,[],[]) P ops K (⟨dst,op,ty,pos,after,none⟩::rest) F H=(iL (L,[],[]) (cf F) op=true/\fT P (cf F) H ty (AP (fun r H'=>fR (L,[],[]) P ops K rest (cM F dst r) H') .mk) op):=by
 have e:tc (L,[],[]) ⟨dst,op,ty,pos,after,none⟩=false:=by cases dst<;>rfl
 have e':oI (L,[],[]) ⟨dst,op,ty,pos,after,none⟩=false:=by cases dst<;>rfl
 unfold fR;rw[show(⟨dst,op,ty,pos,after,none⟩:Oper).guard=none from rfl];simp only[e,e'];rfl
@[go_sem] theorem jzR(op:Op)(ty:TypeId)(pos:String)(after:Array Edge)(rest:List Oper)(F:List AV)(H:Hp) :
  fR (L,C,D) P ops K (⟨none,op,ty,pos,after,none⟩::rest) F H=(iL (L,C,D) (cf F) op=true/\fT P (cf F) H ty (AP (fun r H'=>fR (L,C,D) P ops K rest (cM F none r) H') .mk) op):=(rfl)
@[go_sem] theorem jzP{c t:Nat}(op:Op)(ty:TypeId)(pos:String)(after:Array Edge)(rest:List Oper)(F:List AV)(H:Hp) :
  fR (L,c::C,D) P ops K (⟨some t,op,ty,pos,after,none⟩::rest) F H=p9 ((c::C).contains t) (Ai P (cf F) H (wq (fun r=>fR (L,c::C,D) P ops K rest (cM F (some t) r) H) .mk) op)
   (p9 (D.contains t) (sr P (L,c::C,D) (cf F) H (AP (fun r H'=>fR (L,c::C,D) P ops K rest (cM F (some t) r) H') .mk) op) (iL (L,c::C,D) (cf F) op=true/\fT P (cf F) H ty (AP (fun r H'=>fR (L,c::C,D) P ops K rest (cM F (some t) r) H') .mk) op) .mk .mk) .mk .mk:=(rfl)
@[go_sem] theorem jzQ{c t:Nat}(op:Op)(ty:TypeId)(pos:String)(after:Array Edge)(rest:List Oper)(F:List AV)(H:Hp) :
  fR (L,[],c::D) P ops K (⟨some t,op,ty,pos,after,none⟩::rest) F H=p9 ((c::D).contains t) (sr P (L,[],c::D) (cf F) H (AP (fun r H'=>fR (L,[],c::D) P ops K rest (cM F (some t) r) H') .mk) op)
   (iL (L,[],c::D) (cf F) op=true/\fT P (cf F) H ty (AP (fun r H'=>fR (L,[],c::D) P ops K rest (cM F (some t) r) H') .mk) op) .mk .mk:=(rfl)
@[go_sem] theorem j3w{ev:Operand->AV}{K:AV->Hp->Prop}(f:Operand)(as:Array Operand)(ts:Array TypeId):sr P A ev H K (.call ⟨.value f,as,ts⟩)=fF P (ev f) (as.toList.map ev) H (AP (fun r H'=>dS A H H'/\K r H') .mk):=(rfl)
@[go_sem] theorem j3y{ev:Operand->AV}{K:AV->Prop}(f:Operand)(as:Array Operand)(ts:Array TypeId):Ai P ev H K (.call ⟨.value f,as,ts⟩)=∃r,(fF P (ev f) (as.toList.map ev) H fun r' H'=>r'=r/\H'=H)/\K r:=(rfl)
def tC(b:Bool)(X Y:Prop)(_:gv X)(_:gv Y):Prop:=(b=true->X)/\(b=false->Y)
@[go_sem] theorem j3q(X Y:Prop)(d:gv X)(e:gv Y):tC true X Y d e=X:=by unfold tC;simp
@[go_sem] theorem j1T(X Y:Prop)(d:gv X)(e:gv Y):tC false X Y d e=Y:=by unfold tC;simp
@[go_sem] theorem jzS(dst:Option Tmp)(op:Op)(ty:TypeId)(pos:String)(after:Array Edge)(j:Nat)(want:Bool)(rest:List Oper)(F:List AV)(H:Hp) :
  fR (L,C,[]) P ops K (⟨dst,op,ty,pos,after,some (j,want)⟩::rest) F H=tA (mw ops F j want) (fun b=>(kV op || iy op)=true/\eu P F H b (wq (fun r=>fR (L,C,[]) P ops K rest (cM F dst r) H) .mk) op) .mk:=by
 have e:pJ (L,C,[]) ⟨dst,op,ty,pos,after,some (j,want)⟩=false:=by unfold pJ oI;cases dst<;>simp
 unfold tA;conv=>lhs;unfold fR
 simp only[e];rfl
def sF(F:List AV):List Operand->Prop
 |[]=>True
 |x::l=>(lr (cf F x)).1=true/\sF F l
theorem Gn(F:List AV):∀l:List Operand,((l.all fun x=>(lr (cf F x)).1)=true)=sF F l
 |[]=>by simp[sF]
 |x::l=>by
  have:=Gn F l;simp only[List.all_cons,Bool.and_eq_true,sF,this]
theorem PH(F:List AV)(f:Operand)(as:Array Operand)(ts:Array TypeId):(gi F (.call ⟨.value f,as,ts⟩)=true)=((lr (cf F f)).1=true/\sF F as.toList):=by
 rw[<-Gn];unfold gi;simp[Op.operands,Call.operands]
attribute [go_sem] sF
attribute [go_sem] dB o0 qY
end Go.Gd
