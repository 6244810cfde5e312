/- Lemmas. No conditions. -/
import Derived.Test.YtfkgcobaheegbaaGreatDoorGdL
set_option linter.all false
namespace Go.Gd
open Go
section
variable {P:Program}{ops:Array Oper}{H:Hp}
variable{ty:TypeId}{K:AV->Hp->Prop}
theorem vn{ev ev':Operand->AV}(o:Op)(h:∀x∈o.operands.toList,ev x=ev' x):vc P ev H ty K o=vc P ev' H ty K o:=by
 have quiet:((vq P ev H o).1/\K (vq P ev H o).2 H)=((vq P ev' H o).1/\K (vq P ev' H o).2 H):=by rw[tv o h]
 have other:js P o ty ev H K=js P o ty ev' H K:=by
  unfold js;apply propext;constructor<;>intro hh w ρ dst pos after guard h1 h2
  ·exact hh w ρ dst pos after guard h1 fun x hx=>by rw[h x hx];exact h2 x hx
  ·exact hh w ρ dst pos after guard h1 fun x hx=>by rw[<-h x hx];exact h2 x hx
 cases o
 case box t x=>simp only[vc];rw[h x (by simp[Op.operands])]
 case store t a x=>simp only[vc];rw[h x (by simp[Op.operands]),h a (by simp[Op.operands])]
 case buildSlice t n ps=> simp only[Op.operands]at h;simp only[vc];rw[List.map_congr_left (g:=fun p=>(p.1,ev' p.2)) (fun x hx=>by rw[h x.2 (by simp at hx ⊢;exact⟨_,hx⟩)])]
 case binOp op t x y t'=>
  cases op<;>first
   |(simp only[vc];rw[h x (by simp[Op.operands]),h y (by simp[Op.operands])];done)
   |exact quiet
 case call c=>
  obtain⟨callee,args,ts⟩:=c;cases callee
  case value f=> simp only[Op.operands,Call.operands]at h;simp only[vc];rw[h f jE,List.map_congr_left (fun x hx=>h x (by simp at hx ⊢;exact .inr hx))]
  case builtin b=>
   have hm:args.toList.map ev=args.toList.map ev':=List.map_congr_left fun x hx=>h x (by simpa[Op.operands,Call.operands]using hx)
   cases b
   case append=>
    simp only[vc];split
    ·rename_i t t' a x ht ha;rw[h a (by simp[Op.operands,Call.operands];rw[<-Array.mem_toList_iff,ha];simp),h x (by simp[Op.operands,Call.operands];rw[<-Array.mem_toList_iff,ha];simp)]
    ·rfl
   case len=>exact quiet
   case cap=>exact quiet
   case max=>exact quiet
   case min=>exact quiet
   all_goals(simp only[vc,dh,Bool.false_eq_true,if_false];rw[hm])
  all_goals exact other
 all_goals first
  |rfl
  |exact quiet
  |exact other
variable{t:TypeId}{K':AV->Hp->Prop}
theorem Ir{n:Nat}{parts:List (Nat×AV)}(h:nq P H t n parts K)(hk:∀r H,K r H->K' r H):nq P H t n parts K':=by
 unfold nq at*;split at h
 ·rename_i e he;split at h
  ·refine⟨h.1,?_⟩;rcases h.2 with h2|⟨h2,i,h3,h4⟩
   ·exact .inl ⟨h2.1,hk _ _ h2.2⟩
   ·exact .inr ⟨h2,i,h3,hk _ _ h4⟩
  ·exact h.elim
 ·exact h.elim
theorem DJ{ev:Operand->AV}(o:Op)(hk:∀r H',K r H'->K' r H')(h:vc P ev H ty K o):vc P ev H ty K' o:=by
 have quiet:((vq P ev H o).1/\K (vq P ev H o).2 H)->((vq P ev H o).1/\K' (vq P ev H o).2 H):=fun h=>⟨h.1,hk _ _ h.2⟩
 have other:js P o ty ev H K->js P o ty ev H K':=fun hh w ρ dst pos after guard h1 h2=>by obtain⟨w',H',r,g1,g2⟩:=hh w ρ dst pos after guard h1 h2;exact⟨w',H',r,hk _ _ g1,g2⟩
 cases o
 case box t x=>obtain⟨h1,i,h2,h3⟩:=h;exact⟨h1,i,h2,hk _ _ h3⟩
 case alloc t=>
  simp only[vc,nP]at h ⊢;split at h
  ·obtain⟨i,h2,h3⟩:=h;exact⟨i,h2,hk _ _ h3⟩
  ·exact h.elim
 case store t a x=>
  simp only[vc,vE]at h ⊢;split at h
  ·split at h
   ·exact⟨h.1,hk _ _ h.2⟩
   ·exact h.elim
  ·exact h.elim
 case buildSlice t n ps=>exact Ir h hk
 case binOp op t x y t'=>
  have nileq:∀ne,p9 P ne t (ev x) (ev y) H K->p9 P ne t (ev x) (ev y) H K':=fun ne h=>by
   unfold p9 at h ⊢;split at h
   ·exact⟨h.1,fun b hb=>hk _ _ (h.2 b hb)⟩
   ·exact⟨h.1,fun b hb=>hk _ _ (h.2 b hb)⟩
   ·rename_i hno;exact⟨h.1,hk _ _ h.2⟩
  cases op<;>first
   |exact nileq false h
   |exact nileq true h
   |exact quiet h
 case call c=>
  obtain⟨callee,args,ts⟩:=c;cases callee
  case value f=>exact BF h hk
  case builtin b=>
   have bvc:sy P b ts.toList (args.toList.map ev) H K->sy P b ts.toList (args.toList.map ev) H K':=fun hh w vs ty cs h1 h2=>by obtain⟨w',H',r,v,g1,g2,g3⟩:=hh w vs ty cs h1 h2;exact⟨w',H',r,v,g1,hk _ _ g2,g3⟩
   cases b
   case append=>
    simp only[vc]at h ⊢;split at h
    ·intro w va vx ty h1 h2 h3;obtain⟨w',H',r,v,g1,g2,g3⟩:=h w va vx ty h1 h2 h3;exact⟨w',H',r,v,g1,hk _ _ g2,g3⟩
    ·exact h.elim
   case len=>exact quiet h
   case cap=>exact quiet h
   case max=>exact quiet h
   case min=>exact quiet h
   all_goals exact bvc h
  all_goals exact other h
 all_goals first
  |exact quiet h
  |exact other h
-- what is quiet, what is an effect
def qo:Op->Bool
 |.buildSlice ..=>true
 |_=>false
abbrev AS:=List Nat×List Nat×List Nat
def tK(A:AS)(o:Oper):Bool:=match o.dst with
 |some t=>A.2.1.contains t
 |none=>false
def oS(A:AS)(o:Oper):Bool:=match o.dst with
 |some t=>A.2.2.contains t
 |none=>false
def pk(A:AS)(o:Oper):Bool:=o.guard.isSome && oS A o && k9 o.op
def nn(A:AS)(o:Oper):Bool:=(o.guard.isNone && !dh o.op && !nX o.op && !(qo o.op && !oS A o) && !tK A o) || pk A o
def Cy(P:Program)(ev:Operand->AV)(H:Hp)(K:AV->Prop):Op->Prop
 |.call { callee:=.value f,args,.. }=>∃r,(fI P (ev f) (args.toList.map ev) H fun r' H'=>r'=r/\H'=H)/\K r
 |.lookup t m k c=>∃r,js P (.lookup t m k c) 0 ev H (fun r' H'=>r'=r/\H'=H)/\K r
 |_=>False
def oV(o:Oper):Bool:=match o.op with
 |.load ..=>true
 |.lookup ..=>true
 |.call { callee:=.value _,.. }=>true
 |.call { callee:=.builtin .len,argTypes,.. }=>jX.contains (argTypes.toList.headD 0)
 |_=>false
def mV(A:AS)(o:Oper):Bool:=match o.op with
 |.alloc _=>true
 |.box ..=>true
 |.store ..=>!A.1.isEmpty && !A.2.2.contains 1000000
 |.call { callee:=.value _,.. }=>oS A o
 |.call { callee:=.builtin .append,.. }=>oS A o
 |.buildSlice ..=>oS A o
 |.makeSlice ..=>oS A o
 |_=>false
def oR(o:Oper):Bool:=match o.op with
 |.load ..=>o.guard.isNone
 |_=>false
def dI(A:AS)(H H':Hp):Prop:=∀i r,A.1.contains i=false->H.get i=some r->H'.get i=some r\/(A.1.contains (i+16)=true/\∃t c c' cs,r=.var t (c::cs)/\H'.get i=some (.var t (c'::cs)))
theorem dI.refl(A:AS)(H:Hp):dI A H H:=fun _ _ _ h=>.inl h
theorem dI.trans{L:AS}{A B C:Hp}(h:dI L A B)(k:dI L B C):dI L A C:=fun i r ha e=>by
 rcases h i r ha e with h1|⟨h0,t,c,c',cs,rfl,h1⟩
 ·exact k i r ha h1
 ·rcases k i _ ha h1 with k1|⟨_,t',d,d',ds,e',k1⟩
  ·exact .inr ⟨h0,t,c,c',cs,rfl,k1⟩
  ·cases e';exact .inr ⟨h0,t,c,d',cs,rfl,k1⟩
theorem dI.put{A:AS}{H:Hp}{i:Nat}{r:Row}(h:H.get i=none):dI A H (H.put i r):=fun j s _ hj=>by
 left
 rw[Hp.ba,if_neg (by rintro rfl;rw[h]at hj;cases hj)];exact hj
variable{A:AS}{i:Nat}
theorem dI.set{H:Hp}{r:Row}(h:A.1.contains i=true):dI A H (H.put i r):=fun j s ha hj=>by
 left
 rw[Hp.ba,if_neg (by rintro rfl;rw[h]at ha;cases ha)];exact hj
def rM(A:AS):AV->Bool
 |.pt i _ _ j=>!A.1.contains i && (decide (1<=j) || !A.1.contains (i+16))
 |_=>true
def Bv(A:AS):AV->Bool
 |.pt i _ _ _=>A.1.contains i
 |_=>false
def jf(A:AS)(ev:Operand->AV):Op->Bool
 |.load _ x=>rM A (ev x)
 |.store _ a _=>(A.1.isEmpty || A.2.2.contains 1000000) || Bv A (ev a)
 |_=>true
variable{H':Hp}
theorem PJ{H:Hp}(h:dI A H H'){a:AV}(ha:rM A a=true){x:Prop×List AV}(hc:ph H a=some x):ph H' a=some x:=by
 unfold ph at*;split at hc
 ·exact hc
 ·rename_i i m k j;have ha:A.1.contains i=false/\(1<=j\/A.1.contains (i+16)=false):=by
   simp only[rM,Bool.and_eq_true,Bool.or_eq_true,Bool.not_eq_true',decide_eq_true_eq]at ha;exact ha
  cases e:H.get i with
  |none=>rw[e]at hc;cases hc
  |some r=>
   rw[e]at hc;rcases h i r ha.1 e with h1|⟨h0,t,c,c',cs,rfl,h1⟩
   ·simp only[h1];exact hc
   ·rcases ha.2 with h2|h2
    ·obtain⟨j',rfl⟩:∃j',j=j'+1:=⟨j-1,jB⟩;simp only[h1,List.drop_succ_cons]at hc ⊢;exact hc
    ·rw[h0]at h2;cases h2
 ·cases hc
theorem QZ{H:Hp}(h:dI A H H'){a:AV}(ha:rM A a=true)(hq:(oO P H t a).1):oO P H' t a=oO P H t a:=by
 unfold oO at*;cases e:ph H a with
 |none=>rw[e]at hq;exact hq.elim
 |some x=>rw[PJ h ha e]
def fY(P:Program)(ev:Operand->AV)(H:Hp)(ty:TypeId)(K:AV->Hp->Prop)(op:Op):Prop:=if nX op then(vq P ev H op).1/\K (vq P ev H op).2 H else match op with
 |.buildSlice t n parts=>oN P t n (parts.toList.map fun p=>(p.1,ev p.2)) fun r=>K r H
 |op=>vc P ev H ty K op
theorem PF{ev:Operand->AV}(t:TypeId)(n:Nat)(parts:Array (Nat×Operand)):fY P ev H ty K (.buildSlice t n parts)=oN P t n (parts.toList.map fun p=>(p.1,ev p.2)) fun r=>K r H:=rfl
theorem E4{ev:Operand->AV}{op:Op}(h1:¬nX op=true)(h2:¬qo op=true):fY P ev H ty K op=vc P ev H ty K op:=by unfold fY;rw[if_neg h1];cases op<;>first|rfl|(exact(h2 rfl).elim)
def sf(P:Program)(A:AS)(ev:Operand->AV)(H:Hp)(K:AV->Hp->Prop):Op->Prop
 |.call { callee:=.value f,args,.. }=>fI P (ev f) (args.toList.map ev) H fun r H'=>dI A H H'/\K r H'
 |.buildSlice t n parts=>nq P H t n (parts.toList.map fun p=>(p.1,ev p.2)) fun r H'=>dI A H H'/\K r H'
 |.makeSlice t l c=>js P (.makeSlice t l c) 0 ev H fun r H'=>dI A H H'/\K r H'
 |.call { callee:=.builtin .append,args,argTypes }=>vc P ev H 0 (fun r H'=>dI A H H'/\K r H') (.call ⟨.builtin .append,args,argTypes⟩)
 |_=>False
def fZ(A:AS)(P:Program)(ops:Array Oper)(K:List AV->Hp->Prop):List Oper->List AV->Hp->Prop
 |[],F,H=>K F H
 |o::rest,F,H=>match o.guard with
  |none=>if tK A o=true then Cy P (cc F) H (fun r=>fZ A P ops K rest (cA F o.dst r) H) o.op else if oS A o=true then sf P A (cc F) H (fun r H'=>fZ A P ops K rest (cA F o.dst r) H') o.op else jf A (cc F) o.op=true/\fY P (cc F) H o.type (fun r H'=>fZ A P ops K rest (cA F o.dst r) H') o.op
  |some (j,want)=>match mq ops F j want with
   |some b=>if pk A o=true then(b=true->gv F o.op=true/\sf P A (bS F) H (fun r H'=>fZ A P ops K rest (cA F o.dst r) H') o.op)/\(b=false->fZ A P ops K rest (cA F o.dst (.gd false (.raw (.bool false)))) H)
    else(k9 o.op || iB o.op)=true/\eQ P F H b (fun r=>fZ A P ops K rest (cA F o.dst r) H) o.op
   |none=>False
theorem I3(ts:List TypeId)(args:List AV)(h:jX.contains (ts.headD 0)=false):ng P H .len ts args=ng P H' .len ts args:=by
 unfold ng;cases ts with
 |nil=>rfl
 |cons t ts=>
  cases args with
  |nil=>rfl
  |cons x l=>
   show tN P H t x=tN P H' t x;unfold tN;have h:jX.contains t=false:=h;have hn:¬(jX.contains t=true):=by rw[h];exact Bool.false_ne_true
   cases x with
   |raw v=>cases v<;>rfl
   |mr i=> show(if jX.contains t=true then _ else gV)=(if jX.contains t=true then _ else gV);rw[if_neg hn,if_neg hn]
   |_=>rfl
variable{o:Oper}
theorem wg{ev:Operand->AV}(h:oV o=false):vq P ev H o.op=vq P ev H' o.op:=by
 obtain⟨dst,op,ty,pos,after,guard⟩:=o;cases op<;>first
  |rfl
  |(simp[oV]at h;done)
  |skip
 rename_i c;obtain⟨callee,args,ts⟩:=c;cases callee
 case builtin b=>
  cases b
  case len=>exact I3 _ _ h
  all_goals(simp only[vq];unfold ng;generalize ts.toList=a;generalize args.toList.map ev=b;cases a<;>cases b<;>rfl)
 all_goals rfl
variable{F:List AV}
theorem J6{g:Bool}{K:AV->Prop}(h:oV o=false):eQ P F H g K o.op=eQ P F H' g K o.op:=by
 have hc:k9 o.op=false:=by
  obtain⟨dst,op,ty,pos,after,guard⟩:=o;cases op<;>first
   |rfl
   |(rename_i c;obtain⟨callee,args,ts⟩:=c;cases callee<;>first|rfl|simp[oV]at h)
 by_cases hp:vV o.op=true
 ·obtain⟨dst,op,ty,pos,after,guard⟩:=o;cases op<;>first|(cases hp;done)|rfl
 have hp:vV o.op=false:=by simpa using hp
 rw[zl _ hc hp,zl _ hc hp,wg h]
theorem Ld{ev:Operand->AV}{o:Op}(h:dh o=true):vc P ev H ty K o=((vq P ev H o).1/\K (vq P ev H o).2 H):=by
 cases o
 case binOp op t x y t'=>cases op<;>first|(simp[dh]at h;done)|simp[vc,dh]
 case call c=>
  obtain⟨callee,args,ts⟩:=c;cases callee
  case builtin b=>cases b<;>first|(simp[dh]at h;done)|simp[vc,dh]
  all_goals(simp[dh]at h;done)
 all_goals first
  |(simp[dh]at h;done)
  |simp[vc,dh]
theorem F5{K:List AV->Hp->Prop}{rest:List Oper}(h:fZ A P ops K (o::rest) F H) :
  (nn A o=true/\∀G,dF ops o F G->lZ P ops o G H fun G' H'=>(mV A o=true->dI A H H')/\∃r,G'=cA G o.dst r/\fZ A P ops K rest (cA F o.dst r) H')\/
  (nn A o=false/\∃r,QV P ops o F H r/\(oV o=false->∀H',QV P ops o F H' r)/\(oR o=true->∀H',dI A H H'->QV P ops o F H' r)/\fZ A P ops K rest (cA F o.dst r) H):=by
 unfold fZ at h;split at h
 ·rename_i hg;by_cases hqc:tK A o=true
  ·rw[if_pos hqc]at h;refine .inr ⟨by simp[nn,pk,hg,hqc],?_⟩;obtain⟨dst,op,ty,pos,after,guard⟩:=o;simp only at hg;subst hg;cases op<;>first|exact h.elim|skip
   case call=>
    rename_i c;obtain⟨callee,args,ts⟩:=c;cases callee<;>first|exact h.elim|skip
    obtain⟨r,h1,h2⟩:=h;exact⟨r,En h1,fun hd=>by simp[oV]at hd,fun hld=>by simp[oR]at hld,h2⟩
   case lookup=>
    rename_i t m k c;obtain⟨r,h1,h2⟩:=h;refine⟨r,fun G hG=>?_,fun hd=>by simp[oV]at hd,fun hld=>by simp[oR]at hld,h2⟩;refine oP (K:=fun F' H'=>F'=cA G dst r/\H'=H) rfl ?_;rw[vn _ hG.1];have e:∀K:AV->Hp->Prop,vc P (cc F) H ty K (.lookup t m k c)=js P (.lookup t m k c) ty (cc F) H K:=fun K=>by simp[vc,dh]
    show vc P (cc F) H ty _ (.lookup t m k c);rw[e];intro w ρ dst' pos' after' guard' g1 g2;obtain⟨w',H',r',hk,g⟩:=h1 w ρ dst' pos' after' guard' g1 g2;exact⟨w',H',r',⟨by rw[hk.1],hk.2⟩,g⟩
  rw[if_neg hqc]at h;by_cases hgc:oS A o=true
  ·rw[if_pos hgc]at h;have hqc:tK A o=false:=by simpa using hqc
   obtain⟨dst,op,ty,pos,after,guard⟩:=o;simp only at hg;subst hg;cases op
   case call=>
    rename_i c _;obtain⟨callee,args,ts⟩:=c;cases callee
    case value f _=> refine .inl ⟨by simp[nn,dh,nX,qo,hqc],fun G hG=>?_⟩;refine oP rfl ?_;rw[vn _ hG.1];exact BF (f:=cc F f) (args:=args.toList.map (cc F)) h fun r H' hk=>⟨fun _=>hk.1,r,rfl,hk.2⟩
    case builtin bi _=>
     cases bi
     case append=> refine .inl ⟨by simp[nn,dh,nX,qo,hqc],fun G hG=>?_⟩;refine oP rfl ?_;rw[vn _ hG.1];exact DJ (K:=fun r H'=>dI A H H'/\fZ A P ops K rest (cA F dst r) H') (.call ⟨.builtin .append,args,ts⟩) (fun r H' hk=>⟨fun _=>hk.1,r,rfl,hk.2⟩) h
     all_goals exact h.elim
    all_goals exact h.elim
   case buildSlice=> refine .inl ⟨by simp[nn,dh,nX,qo,hqc,hgc],fun G hG=>?_⟩;refine oP rfl ?_;rw[vn _ hG.1];exact Ir h fun r H' hk=>⟨fun _=>hk.1,r,rfl,hk.2⟩
   case makeSlice=>
    rename_i t l c _;refine .inl ⟨by simp[nn,dh,nX,qo,hqc],fun G hG=>?_⟩;refine oP rfl ?_;rw[vn _ hG.1];have e:∀K:AV->Hp->Prop,vc P (cc F) H ty K (.makeSlice t l c)=js P (.makeSlice t l c) ty (cc F) H K:=fun K=>by simp[vc,dh]
    show vc P (cc F) H ty _ (.makeSlice t l c);rw[e];intro w ρ dst' pos' after' guard' h1 h2;obtain⟨w',H',r,hk,g⟩:=h w ρ dst' pos' after' guard' h1 h2;exact⟨w',H',r,⟨fun _=>hk.1,r,rfl,hk.2⟩,g⟩
   all_goals exact h.elim
  rw[if_neg hgc]at h;obtain⟨hA,h⟩:=h;by_cases he:nX o.op=true
  ·unfold fY at h;rw[if_pos he]at h;exact .inr ⟨by simp[nn,pk,hg,he],_,uz hg h.1,fun hd H'=>by rw[wg hd];exact uz hg (by rw[<-wg (H:=H) hd];exact h.1),fun hld=>by obtain⟨dst,op,ty,pos,after,guard⟩:=o;cases op<;>first|(simp[nX]at he;done)|(simp[oR]at hld;done),h.2⟩
  ·by_cases hl:qo o.op=true
   ·refine .inr ⟨by simp[nn,pk,hg,hl,hgc],?_⟩;obtain⟨dst,op,ty,pos,after,guard⟩:=o;simp only at hg;subst hg;cases op<;>first|(simp[qo]at hl;done)|skip
    rename_i t n parts;rw[PF]at h;obtain⟨r,h1,h2⟩:=AU h;exact⟨r,BA (h2 _ rfl),fun _ H'=>BA (h2 _ rfl),fun hld=>by simp[oR]at hld,h1⟩
   ·rw[E4 he hl]at h;by_cases hq:dh o.op=true
    ·have h':(vq P (cc F) H o.op).1/\fZ A P ops K rest (cA F o.dst (vq P (cc F) H o.op).2) H:=by
      rw[Ld hq]at h;exact h
     refine .inr ⟨by simp[nn,pk,hg,hq],_,uz hg h'.1,fun hd H'=>by rw[wg hd];exact uz hg (by rw[<-wg (H:=H) hd];exact h'.1),fun hld H' hle=>?_,h'.2⟩;obtain⟨dst,op,ty,pos,after,guard⟩:=o;cases op<;>first|(simp[oR]at hld;done)|skip
     rename_i t a;have e:vq P (cc F) H' (.load t a)=vq P (cc F) H (.load t a):=QZ hle hA h'.1;have:=uz (P:=P) (ops:=ops) (H:=H') (o:=⟨dst,.load t a,ty,pos,after,guard⟩) (F:=F) hg (by rw[e];exact h'.1);rw[e]at this;exact this
    ·refine .inl ⟨by simp[nn,pk,hg];simp at hq he hl hqc;exact⟨⟨⟨hq,he⟩,.inl hl⟩,hqc⟩,fun G hG=>?_⟩;refine oP hg ?_;rw[vn o.op hG.1];by_cases hgr:mV A o=true
     ·obtain⟨dst,op,ty,pos,after,guard⟩:=o;cases op<;>first|(simp[mV]at hgr;done)|(exact(hgc hgr).elim)|skip
      case call c=>
       obtain⟨callee,args,ts⟩:=c;cases callee
       case builtin bi=>cases bi<;>first|(exact(hgc hgr).elim)|(simp[mV]at hgr;done)
       all_goals first|(exact(hgc hgr).elim)|(simp[mV]at hgr;done)
      case alloc t=>
       simp only[vc,nP]at h ⊢;split at h
       ·obtain⟨i,h2,h3⟩:=h;exact⟨i,h2,fun _=>dI.put h2,_,rfl,h3⟩
       ·exact h.elim
      case box t x=>obtain⟨h1,i,h2,h3⟩:=h;exact⟨h1,i,h2,fun _=>dI.put h2,_,rfl,h3⟩
      case store t a x=>
       simp only[mV,Bool.and_eq_true,Bool.not_eq_true']at hgr;simp only[jf,hgr.1,hgr.2,Bool.false_or]at hA;simp only[vc,vE]at h ⊢;split at h
       ·rename_i i m k j n ha hn;have hi:A.1.contains i=true:=by rw[ha]at hA;exact hA
        split at h
        ·rename_i r hr;obtain⟨h1,h2⟩:=h;exact⟨h1,fun _=>dI.set hi,_,rfl,h2⟩
        ·exact h.elim
       ·exact h.elim
     ·exact DJ o.op (fun r H' hk=>⟨fun hgr'=>(hgr hgr').elim,r,rfl,hk⟩) h
 ·rename_i j want hg;split at h
  ·rename_i b hb;by_cases hgd:pk A o=true
   ·rw[if_pos hgd]at h;refine .inl ⟨by simp[nn,hgd],fun G hG=>?_⟩;obtain⟨dst,op,ty,pos,after,guard⟩:=o;simp only at hg;subst hg;have hc:k9 op=true:=by unfold pk at hgd;simp only[Bool.and_eq_true]at hgd;exact hgd.2
    cases op<;>first|(cases hc;done)|skip
    rename_i c;obtain⟨callee,args,ts⟩:=c;cases callee<;>first|(cases hc;done)|skip
    rename_i f;have hev:∀x∈(Op.call ⟨.value f,args,ts⟩).operands.toList,cc G x=cc F x:=hG.1;have hbG:=hG.2 j want rfl;rw[hb]at hbG;have hGg:∀x∈(Op.call ⟨.value f,args,ts⟩).operands.toList,bS G x=bS F x:=fun x hx=>by unfold bS;rw[hev x hx]
    refine qe rfl hbG (fun hbw w tm Q next h1 h2 hn=>?_) (fun hbw=>⟨.gd false (.raw (.bool false)),sU rfl,⟨fun _=>dI.refl _ _,_,rfl,h.2 hbw⟩⟩);obtain⟨ok,hcall⟩:=h.1 hbw;have ok:gv G (.call ⟨.value f,args,ts⟩)=true:=by unfold gv at ok ⊢;rw[List.all_eq_true]at ok ⊢;exact fun x hx=>by rw[hev x hx];exact ok x hx
    have hcg:=sN ok;have e1:mA G f=bS F f:=(hcg f (by simp[Op.operands,Call.operands])).trans (hGg f (by simp[Op.operands,Call.operands]));have e2:args.toList.map (mA G)=args.toList.map (bS F):=List.map_congr_left fun x hx=>(hcg x (by simp[Op.operands,Call.operands]at hx ⊢;exact .inr hx)).trans (hGg x (by simp[Op.operands,Call.operands]at hx ⊢;exact .inr hx))
    refine wi (ev:=mA G) e1 e2 hcall h1 (uJ h2) fun v r' w' H' hR g1 g2 g3=>?_
    rw[Act.put_eq];exact hn _ w' _ H' ⟨fun _=>hR.1,r',rfl,hR.2⟩ g1 ((h2.ext g3).put dst g2 []) g3
   rw[if_neg hgd]at h;obtain⟨hq,hv⟩:=h;obtain⟨r,h1,h2⟩:=Bg hv;have h3:=h2 F (fun r'=>r'=.gd b r) (fun _ _=>rfl) rfl;exact .inr ⟨by simp[nn,hg,hgd],_,As hg hb hq h3,fun hd H'=>As hg hb hq (by rw[J6 hd]at h3;exact h3),(fun hld=>by
    unfold oR at hld;split at hld
    ·rw[hg]at hld;cases hld
    ·cases hld),h1⟩
  ·exact h.elim
def dP(l:List Oper)(i:Nat):Oper:=l.getD i default
def ku(A:AS)(l:List Oper)(i:Nat):Bool:=nn A (dP l i)
def oM(A:AS)(E:List Nat)(l:List Oper)(ps:List (List Nat)):List Nat->List Nat->Bool
 |done,[]=>(List.range l.length).all fun i=>done.contains i
 |done,i::rest=>((ps.getD i []).all fun k=>done.contains k) && !done.contains i && decide (i<l.length) &&
   (!ku A l i || ((rest.all fun k=>(ps.getD k []).contains i || E.contains k) && done.all fun q=>ku A l q || !oV (dP l q) || (ps.getD i []).contains q || (mV A (dP l i) && oR (dP l q)))) && oM A E l ps (i::done) rest
def pN(A:AS)(E:List Nat)(l:List Oper)(ord:List Nat):Bool:=tU l && oM A E l (ko l) [] ord && E.all fun i=>!tK A (dP l i) && !oS A (dP l i)
def mem(done:List Nat)(i:Nat):Bool:=done.contains i
variable{l:List Oper}{done:List Nat}
theorem tn{E:List Nat}{rest:List Nat}(h:oM A E l (ko l) done (i::rest)=true) :
  (∀k∈(ko l).getD i [],k∈done)/\i ∉ done/\i<l.length/\(ku A l i=true->(∀k∈rest,i∈(ko l).getD k []\/k∈E)/\∀q∈done,ku A l q=true\/oV (dP l q)=false\/q∈(ko l).getD i []\/(mV A (dP l i)=true/\oR (dP l q)=true))/\oM A E l (ko l) (i::done) rest=true:=by
 simp only[oM,Bool.and_eq_true,List.all_eq_true,List.contains_iff_mem,Bool.not_eq_true',decide_eq_true_eq,Bool.or_eq_true]at h;obtain⟨⟨⟨⟨h1,h2⟩,h3⟩,h4⟩,h5⟩:=h;refine⟨h1,by simpa using h2,h3,fun he=>?_,h5⟩;rcases h4 with h4|h4
 ·rw[he]at h4;cases h4
 ·exact⟨h4.1,fun q hq=>by
   rcases h4.2 q hq with((h|h)|h)|h
   ·exact .inl h
   ·exact .inr (.inl h)
   ·exact .inr (.inr (.inl h))
   ·exact .inr (.inr (.inr h))⟩
theorem JX{A:AS}{E:List Nat}{l:List Oper}:∀{rest done:List Nat},oM A E l (ko l) done rest=true->∀e∈rest,ku A l e=true->∀q∈done,ku A l q=true\/oV (dP l q)=false\/q∈(ko l).getD e []\/(mV A (dP l e)=true/\oR (dP l q)=true)
 |[],_,_=>fun e he=>by simp at he
 |i::rest,done,h=>fun e he hef q hq=>by
  obtain⟨_,_,_,h4,h5⟩:=tn h;rcases List.mem_cons.1 he with rfl|he
  ·exact(h4 hef).2 q hq
  ·exact JX h5 e he hef q (List.mem_cons_of_mem _ hq)
theorem Bm{A:AS}{E:List Nat}{l:List Oper}:∀{rest done:List Nat},oM A E l (ko l) done rest=true->∀i,i<l.length->i∈done\/i∈rest
 |[],done,h=>fun i hi=>by simp only[oM,List.all_eq_true,List.mem_range,List.contains_iff_mem]at h;exact .inl (h i hi)
 |j::rest,done,h=>fun i hi=>by
  obtain⟨_,_,_,_,h5⟩:=tn h;rcases Bm h5 i hi with h|h
  ·rcases List.mem_cons.1 h with rfl|h
   ·exact .inr jE
   ·exact .inl h
  ·exact .inr (List.mem_cons_of_mem _ h)
theorem lO:mem done i=true<->i∈done:=by simp[mem]
theorem BX(done:List Nat)(i:Nat):(fun k=>mem (i::done) k)=fun k=>mem done k || k == i:=by
 funext k
 rw[Bool.eq_iff_iff];simp[mem,or_comm]
theorem zD(ho:l[i]?=some o){e:Edge}(he:e∈o.after.toList)(hb:Region.binds .any e=true):e.on∈(ko l).getD i []:=by rw[Ew ho,By];exact List.mem_flatMap.2 ⟨e,List.mem_filter.2 ⟨he,hb⟩,jE⟩
theorem EB{os:List Oper}{rs F:List AV}{L L':Nat->Bool}{s:Nat}(h:∀k o,os[k]?=some o->o.dst=some s->L k=L' k):∀m,lL os rs L F s m=lL os rs L' F s m
 |0=>rfl
 |m+1=>by
  unfold lL;rw[EB h m];cases ho:os[m]? with
  |none=>simp
  |some o=>
   simp only[Option.bind_some];by_cases hd:o.dst=some s
   ·rw[h m o ho hd]
   ·simp[hd]
theorem qw{os:List Oper}{rs F:List AV}{L:Nat->Bool}{i:Nat}{r:AV}(hL:L i=false):∀m,FL os (rs.set i r) L F m=FL os rs L F m
 |0=>rfl
 |m+1=>by
  unfold FL;rw[qw hL m];by_cases hm:m=i
  ·subst hm;simp[hL]
  ·have:(rs.set i r).getD m .any=rs.getD m .any:=by simp[List.getElem?_set,Ne.symm hm]
   rw[this]
section
variable {l:List Oper}(hlt:∀j o,l[j]?=some o->∀e∈o.after.toList,Region.binds .any e=true->e.on<j)
 (hcl:∀i j a b,i<j->l[i]?=some a->l[j]?=some b->tZ l a b=true->i∈(ko l).getD j [])
include hlt hcl
variable{L:Nat->Bool}
theorem AW(hcls:nB l L){i:Nat}{o:Oper}(ho:l[i]?=some o)(hif:L i=false)(hpre:∀e∈o.after.toList,Region.binds .any e=true->L e.on=true) :
  ∀k o' s,l[k]?=some o'->o'.dst=some s->(s∈looks l o\/o.dst=some s)->L k=decide (k<i):=by
 intro k o' s hk hs hcase;have hbefore:=u5 hcls hlt (i+1) i jB o ho hpre;rcases Nat.lt_trichotomy k i with h|h|h
 ·rw[decide_eq_true h];refine hbefore k (hcl k i o' o h hk ho ?_);unfold tZ;rw[hs];rcases hcase with h5|h5
  ·simp[h5]
  ·simp[h5]
 ·subst h;simpa using hif
 ·rw[decide_eq_false jB];cases hv:L k with
  |false=>rfl
  |true=>
   have hki:i∈(ko l).getD k []:=hcl i k o o' h ho hk (by
    unfold tZ;rw[hs];rcases hcase with h5|h5
    ·simp[h5]
    ·simp[h5])
   have:=u5 hcls hlt (k+1) k jB o' hk (fun e he hb=>hcls k o' hk hv e he hb) i hki;rw[hif]at this;cases this
theorem HH{rs F:List AV}{L':Nat->Bool}(hL:nB l L)(hL':nB l L'){i:Nat}{o:Oper}(ho:l[i]?=some o)(h1:L i=false)(h2:L' i=false)
  (h3:∀e∈o.after.toList,Region.binds .any e=true->L e.on=true) (h4:∀e∈o.after.toList,Region.binds .any e=true->L' e.on=true):dF l.toArray o (FL l rs L F l.length) (FL l rs L' F l.length):=by
 refine Hy (by rw[lm,lm]) fun s hs hlen=>?_
 rw[lm]at hlen;rw[sF _ _ _ _ hlen,sF _ _ _ _ hlen];exact(EB (fun k o' hk hd=>by rw[AW hlt hcl hL ho h1 h3 k o' s hk hd (.inl hs),AW hlt hcl hL' ho h2 h4 k o' s hk hd (.inl hs)]) _).symm
theorem vD{rs F:List AV}{L2:Nat->Bool}(hL:nB l L){i:Nat}{o:Oper}(ho:l[i]?=some o)(h1:L i=false)(h3:∀e∈o.after.toList,Region.binds .any e=true->L e.on=true){r:AV}(hr:rs.getD i .any=r)(hL2:∀k,L2 k=(L k || k == i)) :
  cA (FL l rs L F l.length) o.dst r=FL l rs L2 F l.length:=by
 have hil:=(List.getElem?_eq_some_iff.1 ho).1;refine D9 (m':=0) (L':=fun _=>true) (by cases o.dst<;>simp[cA,lm]) fun s hs=>?_
 by_cases hd:o.dst=some s
 ·rw[BI (L:=L) ho hL2 (fun k o' hk hd'=>AW hlt hcl hL ho h1 h3 k o' s hk hd' (.inr hd)) hd _ hil,hd,hr];simp[cA,lm,hs]
 ·rw[CU (L:=L) ho hL2 hd,<-sF _ _ _ _ hs];cases hd':o.dst with
  |none=>rfl
  |some d=>
   have:d≠s:=fun e=>hd (by rw[hd',e])
   simp[cA,List.getElem?_set,this]
end
structure Inv(A:AS)(E:List Nat)(P:Program)(l:List Oper)(K:List AV->Hp->Prop)(F:List AV)(L:Nat->Bool)(done rest:List Nat)(rs:List AV)(H:Hp):Prop where
 len:rs.length=l.length
 sub:∀i,L i=true->i∈done\/i∈E
 fQ:nB l L
 kD:nB l (mem done)
 ord:oM A E l (ko l) done rest=true
 walk:fZ A P l.toArray K (rest.map (dP l)) (FL l rs (mem done) F l.length) H
 wait:∀i∈done,L i=false->ku A l i=false/\i<l.length/\∃D,nB l D/\D i=false/\(∀k,D k=true->k∈done)/\(∀e∈(dP l i).after.toList,Region.binds .any e=true->D e.on=true)/\
  QV P l.toArray (dP l i) (FL l rs D F l.length) H (rs.getD i .any)/\(oV (dP l i)=false->∀H',QV P l.toArray (dP l i) (FL l rs D F l.length) H' (rs.getD i .any))/\(oR (dP l i)=true->∀H',dI A H H'->QV P l.toArray (dP l i) (FL l rs D F l.length) H' (rs.getD i .any))
theorem xR(hi:i<l.length):l[i]?=some (dP l i):=by simp[dP,hi]
def qI(P:Program)(l:List Oper):List Nat->Prop
 |[]=>True
 |i::E=>(match (dP l i).op with|.alloc t=>(eT P t).isSome=true|_=>False)/\(dP l i).guard=none/\qI P l E
theorem yj{P:Program}{l:List Oper}:∀{E:List Nat},qI P l E->∀i∈E,∃t zs,(dP l i).op=.alloc t/\eT P t=some zs/\(dP l i).guard=none
 |[],_,i,hi=>by simp at hi
 |j::E,h,i,hi=>by
  obtain⟨h1,h2,h3⟩:=h;rcases List.mem_cons.1 hi with rfl|hi
  ·split at h1
   ·rename_i t e;obtain⟨zs,hz⟩:=Option.isSome_iff_exists.1 h1;exact⟨t,zs,e,hz,h2⟩
   ·exact h1.elim
  ·exact yj h3 i hi
def A8(A:AS)(P:Program)(l:List Oper)(E:List Nat):Prop:=qI P l E/\∀i∈E,tK A (dP l i)=false/\oS A (dP l i)=false
theorem I5{P:Program}{E:List Nat}(h:A8 A P l E)(hi:i∈E):ku A l i=true/\mV A (dP l i)=true:=by obtain⟨t,zs,e,_,hg⟩:=yj h.1 i hi;simp[ku,nn,mV,e,hg,dh,nX,qo,(h.2 i hi).1]
def Hid(P:Program)(l:List Oper)(L:Nat->Bool)(done:List Nat)(rs:List AV)(w0 w:NW)(β:Nat->Nat):Prop:=∀i,L i=true->i ∉ done->
 (∃t cur,(dP l i).op=.alloc t/\eT P t=some cur.toList/\rs.getD i .any=.raw (.pointer (some ⟨β i,0,none⟩))/\w.heap[β i]?=some (.cells cur t (0,0))/\w.O (β i)/\w0.heap.size<=β i/\β i<w.heap.size/\∀j m t s,w.nm j m≠some (.at (β i) t s))/\∀j,L j=true->j ∉ done->β i=β j->i=j
theorem Hid.ext{P:Program}{L:Nat->Bool}{rs:List AV}{w0 w w':NW}{β:Nat->Nat}{H:Hp}(h:Hid P l L done rs w0 w β)(e:Ext w H w' H'):Hid P l L done rs w0 w' β:=fun i h1 h2=>by obtain⟨⟨t,cur,a1,a2,a3,a4,a5,a6,a7,a8⟩,b⟩:=h i h1 h2;obtain⟨e1,e2,e3⟩:=e.rest (β i) a7 a5 a8;exact⟨⟨t,cur,a1,a2,a3,e1.trans a4,e2,a6,Nat.lt_of_lt_of_le a7 e.size,e3⟩,b⟩
theorem Jv{w:NW}{H:Hp}(r:aO w H){b:Nat}{cur:Array Value}(hi:H.get i=none)(hb:w.heap[b]?=some (.cells cur t (0,0)))(hO:w.O b)(hlt:b<w.heap.size)(hno:∀j m t s,w.nm j m≠some (.at b t s)) :
  aO (w.name i 0 (.at b cur.size 0)) (H.put i (.var t (cur.toList.map .raw)))/\Keep su w (w.name i 0 (.at b cur.size 0))/\aw (w.name i 0 (.at b cur.size 0)) (.pt i 0 0 0) (.pointer (some ⟨b,0,none⟩)):=by
 have nmE:∀j n,(w.name i 0 (.at b cur.size 0)).nm j n=if j=i/\n=0 then some (Rz.at b cur.size 0)else w.nm j n:=fun _ _=>rfl
 have kp:Keep su w (w.name i 0 (.at b cur.size 0)):=⟨Nat.le_refl _,fun _ _ h=>⟨rfl,h⟩,fun j n z _ h=>by
  rw[nmE,if_neg]
  ·exact h
  ·rintro⟨rfl,rfl⟩;rw[r.none hi]at h;cases h⟩
 refine⟨{ rows:=fun j s hj=>?_,dO:=fun j n z hz=>?_,inj:=fun j n j' n' b' t1 s1 t2 s2 h1 h2=>?_,own:=fun j n b' t1 s1 h=>?_,fin:=r.fin,cn:=r.cn.aY kp },kp,?_⟩
 ·rw[Hp.ba]at hj;split at hj
  ·rename_i e;subst e;cases hj;refine⟨trivial,.at b cur.size 0,by rw[nmE];exact if_pos ⟨rfl,rfl⟩,rfl,cur,hb,⟨rfl,by show(cur.toList.map AV.raw).length<=_;simp⟩,fun k a v ha hv=>?_⟩;have ha:(cur.toList.map AV.raw)[k]?=some a:=ha;simp only[List.getElem?_map,Array.getElem?_toList,hv,Option.map_some,Option.some.injEq]at ha;subst ha;exact .raw _
  ·rename_i e;obtain⟨h1,z,h2,h3⟩:=r.rows j s hj;refine⟨h1,z,by rw[nmE,if_neg (fun h=>e h.1)];exact h2,?_⟩;cases z with
   |nil=>exact h3
   |«at» b' t' st=> obtain⟨g1,cur',g2,g3,g5⟩:=h3;exact⟨g1,cur',g2,g3,fun k a v ha hv=>(g5 k a v ha hv).aY kp (o4 a)⟩
 ·rw[nmE]at hz;rw[Hp.ba];split at hz
  ·rename_i e;exact⟨_,by rw[if_pos e.1],by rw[e.2];exact Nat.zero_le _⟩
  ·obtain⟨r',h1,h2⟩:=r.dO j n z hz;have e:j≠i:=fun e=>by subst e;rw[hi]at h1;cases h1
   exact⟨r',by rw[if_neg e];exact h1,h2⟩
 ·rw[nmE]at h1 h2;split at h1<;>split at h2
  ·rename_i e1 e2;rw[e1.1,e2.1]
  ·cases h1;exact(hno _ _ _ _ h2).elim
  ·cases h2;exact(hno _ _ _ _ h1).elim
  ·exact r.inj _ _ _ _ _ _ _ _ _ h1 h2
 ·rw[nmE]at h;split at h
  ·cases h;exact hO
  ·exact r.own _ _ _ _ _ h
 ·have:=aw.pt (w:=w.name i 0 (.at b cur.size 0)) i 0 0 0 b cur.size 0 (NW.ca _ _ _ _);simpa using this
theorem P1{w0 w:NW}{H0 H:Hp}(e:Ext w0 H0 w H)(r:aO w H){b sz:Nat}(hi:H.get i=none)(hb:w0.heap.size<=b)(hB:H'.B=H.B):Ext w0 H0 (w.name i 0 (.at b sz 0)) H':={
 size:=e.size,free:=e.free
 names:=fun j n z hq h=>by
  have:=e.names j n z hq h;show(if j=i/\n=0 then _ else _)=_;rw[if_neg]
  ·exact this
  ·rintro⟨rfl,rfl⟩;rw[r.none hi]at this;cases this
 os:=e.os,tape:=e.tape,output:=e.output
 rest:=fun c hc hO hno=>by
  obtain⟨e1,e2,e3⟩:=e.rest c hc hO hno;refine⟨e1,e2,fun j n t s h=>?_⟩;have h:(if j=i/\n=0 then some (Rz.at b sz 0)else w.nm j n)=some (.at c t s):=h;split at h
  ·cases h;omega
  ·exact e3 _ _ _ _ h
 base:=hB.trans e.base }
theorem GU{os:List Oper}{rs F:List AV}{L:Nat->Bool}{i:Nat}{r:AV}:∀(m:Nat) (s:Nat) (a:AV),(FL os (rs.set i r) L F m)[s]?=some a->(FL os rs L F m)[s]?=some a\/(a=r/\(FL os rs L F m)[s]?=some (rs.getD i .any)/\i<rs.length)
 |0=>fun s a h=>.inl h
 |m+1=>fun s a h=>by
  have ih:=GU (os:=os) (rs:=rs) (F:=F) (L:=L) (i:=i) (r:=r) m;have hl:(FL os (rs.set i r) L F m).length=(FL os rs L F m).length:=by rw[lm,lm]
  unfold FL at h ⊢;cases hL:L m with
  |false=>simp only[hL,Bool.false_eq_true,if_false]at h ⊢;exact ih s a h
  |true=>
   simp only[hL,if_true]at h ⊢;cases hd:(os[m]?).bind (·.dst)with
   |none=>rw[hd]at h;exact ih s a h
   |some d=>
    rw[hd]at h;simp only[cA]at h ⊢;rw[List.getElem?_set]at h ⊢;by_cases e:d=s
    ·subst e;simp only[if_true]at h ⊢;rw[hl]at h;split at h
     ·rename_i hlt;rw[if_pos hlt];simp only[Option.some.injEq]at h;by_cases hm:i=m
      ·subst hm;by_cases hi:i<rs.length
       ·refine .inr ⟨?_,rfl,hi⟩;rw[<-h];simp[hi]
       ·refine .inl ?_;rw[<-h];simp[hi,List.getElem?_set]
      ·refine .inl ?_;rw[<-h];simp[List.getElem?_set,hm]
     ·cases h
    ·simp only[if_neg e]at h ⊢;exact ih s a h
section
variable {A:AS}{E:List Nat}{l:List Oper}{K:List AV->Hp->Prop}{F:List AV}(hok:tU l=true)(hE:A8 A P l E)
include hok
variable{done:List Nat}{i:Nat}
theorem Cb(hi:i<l.length)(hd:nB l (mem done))(hp:∀k∈(ko l).getD i [],k∈done):nB l (mem (i::done)):=fun j o ho hj e he hb=>by
 rw[lO]at hj ⊢;rcases List.mem_cons.1 hj with rfl|hj
 ·exact List.mem_cons_of_mem _ (hp _ (zD ho he hb))
 ·exact List.mem_cons_of_mem _ (lO.1 (hd j o ho (lO.2 hj) e he hb))
include hE
theorem zR:∀(rest:List Nat) {L:Nat->Bool} {done:List Nat} {rs:List AV},Inv A E P l K F L done rest rs H->
  ∃done' rest' rs',Inv A E P l K F L done' rest' rs' H/\(∀i r,rest'=i::r->ku A l i=true)/\FL l rs' L F l.length=FL l rs L F l.length/\rest'.length<=rest.length/\(∀w0 w β,Hid P l L done rs w0 w β->Hid P l L done' rs' w0 w β)
 |[],L,done,rs,h=>⟨done,[],rs,h,(fun i r e=>by cases e),rfl,Nat.le_refl _,fun _ _ _ h=>h⟩
 |i::rest,L,done,rs,h=>by
  obtain⟨hlt,hcl⟩:=ve hok;cases he:ku A l i with
  |true=>exact⟨done,i::rest,rs,h,fun j r e=>by cases e;exact he,rfl,Nat.le_refl _,fun _ _ _ h=>h⟩
  |false=>
   obtain⟨hp,hni,hil,_,h5⟩:=tn h.ord;have ho:=xR hil;have hw:=h.walk;rw[List.map_cons]at hw;rcases F5 hw with⟨hx,_⟩|⟨_,r,q1,q2,q2',q3⟩
   ·unfold ku at he;rw[he]at hx;cases hx
   have hmi:mem done i=false:=by rw[<-Bool.not_eq_true,lO];exact hni
   have hLi:L i=false:=by
    cases e:L i with
    |false=>rfl
    |true=>
     rcases h.sub i e with h6|h6
     ·exact(hni h6).elim
     ·rw[(I5 (A:=A) hE h6).1]at he;cases he
   have hpre:∀e∈(dP l i).after.toList,Region.binds .any e=true->mem done e.on=true:=fun e he hb=>lO.2 (hp _ (zD ho he hb))
   have hset:∀D:Nat->Bool,(∀k,D k=true->k∈done)->FL l (rs.set i r) D F l.length=FL l rs D F l.length:=fun D hD=>qw (by
    cases e:D i with
    |false=>rfl
    |true=>exact(hni (hD i e)).elim) _
   have hget:(rs.set i r).getD i .any=r:=by simp[h.len,hil]
   have hne:∀j,j≠i->(rs.set i r).getD j .any=rs.getD j .any:=fun j hj=>by simp[List.getElem?_set,Ne.symm hj]
   have hnext:=vD (rs:=rs.set i r) (F:=F) hlt hcl h.kD ho hmi hpre hget (L2:=mem (i::done)) (fun k=>by rw[show mem (i::done) k=(fun k=>mem (i::done) k) k from rfl,BX]);rw[hset _ (fun k hk=>lO.1 hk)]at hnext;have hinv:Inv A E P l K F L (i::done) rest (rs.set i r) H:=by
    refine⟨by simpa using h.len,fun k hk=>(h.sub k hk).imp_left (List.mem_cons_of_mem _),h.fQ,Cb hok hil h.kD hp,h5,by rw[<-hnext];exact q3,fun j hj hLj=>?_⟩;rcases List.mem_cons.1 hj with rfl|hj
    ·exact⟨he,hil,mem done,h.kD,hmi,fun k hk=>List.mem_cons_of_mem _ (lO.1 hk),hpre,by rw[hset _ (fun k hk=>lO.1 hk),hget];exact q1,fun hd H'=>by rw[hset _ (fun k hk=>lO.1 hk),hget];exact q2 hd H',fun hd H' hle=>by rw[hset _ (fun k hk=>lO.1 hk),hget];exact q2' hd H' hle⟩
    ·obtain⟨w1,w2,D,w3,w4,w5,w6,w7,w8,w9⟩:=h.wait j hj hLj;have hji:j≠i:=fun e=>hni (e ▸ hj)
     exact⟨w1,w2,D,w3,w4,fun k hk=>List.mem_cons_of_mem _ (w5 k hk),w6,by rw[hset _ w5,hne j hji];exact w7,fun hd H'=>by rw[hset _ w5,hne j hji];exact w8 hd H',fun hd H' hle=>by rw[hset _ w5,hne j hji];exact w9 hd H' hle⟩
   obtain⟨d',r',rs',g1,g2,g3,g4,g5⟩:=zR rest hinv;refine⟨d',r',rs',g1,g2,by rw[g3,qw hLi],by simp;omega,fun w0 w β hh=>g5 w0 w β fun k hk1 hk2=>?_⟩;have hki:k≠i:=fun e=>hk2 (by simp[e])
   obtain⟨a,b⟩:=hh k hk1 fun hk3=>hk2 (List.mem_cons_of_mem _ hk3)
   rw[hne k hki];exact⟨a,fun j hj1 hj2=>b j hj1 fun hj3=>hj2 (List.mem_cons_of_mem _ hj3)⟩
variable{L:Nat->Bool}{rest:List Nat}
theorem DA{L2:Nat->Bool}{rs:List AV}{r:AV}{H':Hp}(h:Inv A E P l K F L done (i::rest) rs H)(hef:ku A l i=true)(hL2:∀k,L2 k=(L k || k == i))(hgrow:mV A (dP l i)=true->dI A H H')
  (hbefore:∀k∈(ko l).getD i [],L k=true):∀j∈i::done,L2 j=false->ku A l j=false/\j<l.length/\∃D,nB l D/\D j=false/\(∀k,D k=true->k∈i::done)/\(∀e∈(dP l j).after.toList,Region.binds .any e=true->D e.on=true)/\
  QV P l.toArray (dP l j) (FL l (rs.set i r) D F l.length) H' ((rs.set i r).getD j .any)/\(oV (dP l j)=false->∀H'',QV P l.toArray (dP l j) (FL l (rs.set i r) D F l.length) H'' ((rs.set i r).getD j .any))/\(oR (dP l j)=true->∀H'',dI A H' H''->QV P l.toArray (dP l j) (FL l (rs.set i r) D F l.length) H'' ((rs.set i r).getD j .any)):=by
 intro j hj hLj;obtain⟨hp,hne,hel,h4,h5⟩:=tn h.ord;have hset:∀D:Nat->Bool,(∀k,D k=true->k∈done)->FL l (rs.set i r) D F l.length=FL l rs D F l.length:=fun D hD=>qw (by
  cases e:D i with
  |false=>rfl
  |true=>exact(hne (hD i e)).elim) _
 have hgn:∀j,j≠i->(rs.set i r).getD j .any=rs.getD j .any:=fun j hj=>by simp[List.getElem?_set,Ne.symm hj]
 rw[hL2]at hLj;obtain⟨hLj,hji⟩:=Bool.or_eq_false_iff.1 hLj;have hji:j≠i:=by simpa using hji
 have hj:j∈done:=by rcases List.mem_cons.1 hj with e|h;exact(hji e).elim;exact h
 obtain⟨w1,w2,D,w3,w4,w5,w6,w7,w8,w9⟩:=h.wait j hj hLj;have hnow:QV P l.toArray (dP l j) (FL l rs D F l.length) H' (rs.getD j .any):=by
  rcases(h4 hef).2 j hj with h6|h6|h6|h6
  ·rw[w1]at h6;cases h6
  ·exact w8 h6 H'
  ·have:=hbefore j h6;rw[hLj]at this;cases this
  ·exact w9 h6.2 H' (hgrow h6.1)
 refine⟨w1,w2,D,w3,w4,fun k hk=>List.mem_cons_of_mem _ (w5 k hk),w6,by rw[hset _ w5,hgn j hji];exact hnow,fun hd H''=>by rw[hset _ w5,hgn j hji];exact w8 hd H'',fun hd H'' hle=>?_⟩;rw[hset _ w5,hgn j hji];rcases(h4 hef).2 j hj with h6|h6|h6|h6
 ·rw[w1]at h6;cases h6
 ·exact w8 h6 H''
 ·have:=hbefore j h6;rw[hLj]at this;cases this
 ·exact w9 h6.2 H'' ((hgrow h6.1).trans hle)
theorem settle{w0:NW}{H0:Hp}:∀(n:Nat) {L:Nat->Bool} {done rest:List Nat} {rs:List AV} {H:Hp} {w:NW} {tm:Array Value} {β:Nat->Nat},rest.length<=n->Inv A E P l K F L done rest rs H->aO w H->bc w (FL l rs L F l.length) tm->Ext w0 H0 w H->Hid P l L done rs w0 w β->
  ∃done' rest' rs' H' w',NW.toWorld w'=w.toWorld/\Inv A E P l K F L done' rest' rs' H'/\(∀i r,rest'=i::r->ku A l i=true/\L i=false)/\aO w' H'/\bc w' (FL l rs' L F l.length) tm/\Ext w0 H0 w' H'/\Hid P l L done' rs' w0 w' β
 |n,L,done,rest,rs,H,w,tm,β,hn,h,h1,h2,h3,h4=>by
  obtain⟨hlt,hcl⟩:=ve hok;obtain⟨d',r',rs',g1,g2,g3,g4,g5⟩:=zR hok hE rest h;have g5:=g5 _ _ _ h4;rw[<-g3]at h2;cases r' with
  |nil=>exact⟨d',[],rs',H,w,rfl,g1,(fun i r e=>by cases e),h1,h2,h3,g5⟩
  |cons i r=>
   have hef:=g2 i r rfl;cases hLi:L i with
   |false=>exact⟨d',i::r,rs',H,w,rfl,g1,(fun j q e=>by cases e;exact⟨hef,hLi⟩),h1,h2,h3,g5⟩
   |true=>
    obtain⟨hp,hne,hel,c4,c5⟩:=tn g1.ord;obtain⟨⟨t,cur,a1,a2,a3,a4,a5,a6,a7,a8⟩,a9⟩:=g5 i hLi hne;have hiE:i∈E:=(g1.sub i hLi).resolve_left hne;have hgd:(dP l i).guard=none:=by obtain⟨_,_,_,_,hg⟩:=yj hE.1 i hiE;exact hg
    have hw:=g1.walk;rw[List.map_cons]at hw;unfold fZ at hw;rw[hgd]at hw;simp only at hw;rw[if_neg (by rw[(hE.2 i hiE).1];exact Bool.false_ne_true),if_neg (by rw[(hE.2 i hiE).2];exact Bool.false_ne_true)]at hw;obtain⟨_,hw⟩:=hw;rw[a1,E4 (by simp[nX]) (by simp[qo])]at hw;simp only[vc,nP,a2]at hw;obtain⟨id,hid,hv⟩:=hw;have ho:=xR hel;obtain⟨k1,k2,k3⟩:=Jv h1 hid a4 a5 a7 a8;have hmi:mem d' i=false:=by rw[<-Bool.not_eq_true,lO];exact hne
    have hpre':∀e∈(dP l i).after.toList,Region.binds .any e=true->mem d' e.on=true:=fun e he hb=>lO.2 (hp _ (zD ho he hb))
    have hget:(rs'.set i (.pt id 0 0 0)).getD i .any=.pt id 0 0 0:=by simp[g1.len,hel]
    have hset:∀D:Nat->Bool,(∀k,D k=true->k∈d')->FL l (rs'.set i (.pt id 0 0 0)) D F l.length=FL l rs' D F l.length:=fun D hD=>qw (by
     cases e:D i with
     |false=>rfl
     |true=>exact(hne (hD i e)).elim) _
    have hn1:=vD (rs:=rs'.set i (.pt id 0 0 0)) (F:=F) hlt hcl g1.kD ho hmi hpre' hget (L2:=mem (i::d')) (fun k=>by rw[show mem (i::d') k=(fun k=>mem (i::d') k) k from rfl,BX]);rw[hset _ (fun k hk=>lO.1 hk)]at hn1;have hbefore:∀k∈(ko l).getD i [],L k=true:=u5 g1.fQ hlt (i+1) i jB _ ho fun e he hb=>g1.fQ i _ ho hLi e he hb
    have hinv:Inv A E P l K F L (i::d') r (rs'.set i (.pt id 0 0 0)) (H.put id (.var t (cur.toList.map .raw))):=
     ⟨by simpa using g1.len,fun k hk=>(g1.sub k hk).imp_left (List.mem_cons_of_mem _),g1.fQ,Cb hok hel g1.kD hp,c5,by rw[<-hn1];exact hv,
      DA hok hE g1 hef (fun k=>by
       by_cases e:k=i
       ·subst e;simp[hLi]
       ·simp[e]) (fun _=>dI.put hid) hbefore⟩
    have hrel:bc (w.name id 0 (.at (β i) cur.size 0)) (FL l (rs'.set i (.pt id 0 0 0)) L F l.length) tm:=by
     refine⟨by rw[lm];have:=h2.1;rw[lm]at this;exact this,fun s a v ha hv'=>?_⟩;rcases GU l.length s a ha with h6|⟨rfl,h6,_⟩
     ·exact(h2.2 s a v h6 hv').aY k2 (o4 a)
     ·have:=h2.2 s _ v h6 hv';rw[a3]at this;have:=dm this;subst this;exact k3
    have hhid:Hid P l L (i::d') (rs'.set i (.pt id 0 0 0)) w0 (w.name id 0 (.at (β i) cur.size 0)) β:=fun k hk1 hk2=>by
     have hki:k≠i:=fun e=>hk2 (by simp[e])
     have hk3:k ∉ d':=fun e=>hk2 (List.mem_cons_of_mem _ e)
     obtain⟨⟨t',cur',b1,b2,b3,b4,b5,b6,b7,b8⟩,b9⟩:=g5 k hk1 hk3;refine⟨⟨t',cur',b1,b2,by rw[<-b3];simp[List.getElem?_set,Ne.symm hki],b4,b5,b6,b7,fun j m t1 s1 hh=>?_⟩,fun j hj1 hj2=>b9 j hj1 fun e=>hj2 (List.mem_cons_of_mem _ e)⟩;have hh:(if j=id/\m=0 then some (Rz.at (β i) cur.size 0)else w.nm j m)=some (.at (β k) t1 s1):=hh;split at hh
     ·simp only[Option.some.injEq,Rz.at.injEq]at hh;exact hki (a9 k hk1 hk3 hh.1).symm
     ·exact b8 _ _ _ _ hh
    simp only[List.length_cons]at g4;obtain⟨n,rfl⟩:∃k,n=k+1:=⟨n-1,jB⟩;obtain⟨d2,r2,rs2,H2,w2,x1,x2,x3,x4,x5,x6,x7⟩:=settle n jB hinv k1 hrel (P1 h3 h1 hid a6 rfl) hhid;exact⟨d2,r2,rs2,H2,w2,x1,x2,x3,x4,x5,x6,x7⟩
theorem Ri{rs:List AV}(h:Inv A E P l K F L done rest rs H)(hs:∀i r,rest=i::r->ku A l i=true/\L i=false){o:Oper}(ho:l[i]?=some o)(hi:L i=false)(hpre:∀e∈o.after.toList,Region.binds .any e=true->L e.on=true)
  {L2:Nat->Bool} (hL2:∀k,L2 k=(L k || k == i)) (hnE:i∈done\/i ∉ E\/∃r,rest=i::r) :
  lZ P l.toArray o (FL l rs L F l.length) H fun G' H'=>∃done' rest' rs',Inv A E P l K F L2 done' rest' rs' H'/\G'=FL l rs' L2 F l.length/\∀w0 w β,Hid P l L done rs w0 w β->Hid P l L2 done' rs' w0 w β:=by
 obtain⟨hlt,hcl⟩:=ve hok;have hil:=(List.getElem?_eq_some_iff.1 ho).1;obtain rfl:o=dP l i:=by have:=(xR hil).symm.trans ho;cases this;rfl
 have hclo2:nB l L2:=fun j o' hj hLj e he hb=>by
  rw[hL2]at hLj ⊢;rcases Bool.or_eq_true_iff.1 hLj with h6|h6
  ·rw[h.fQ j o' hj h6 e he hb];rfl
  ·obtain rfl:j=i:=by simpa using h6
   rw[ho]at hj;cases hj;rw[hpre e he hb];rfl
 by_cases hd:i∈done
 ·obtain⟨w1,w2,D,w3,w4,w5,w6,w7,w8,w9⟩:=h.wait i hd hi;refine(w7 _ (HH hlt hcl w3 h.fQ ho w4 hi w6 hpre)).mono ?_;rintro G' H' ⟨rfl,rfl⟩;refine⟨done,rest,rs,⟨h.len,fun k hk=>?_,hclo2,h.kD,h.ord,h.walk,fun j hj hLj=>h.wait j hj ?_⟩,vD hlt hcl h.fQ ho hi hpre rfl hL2,fun w0 w β hh k hk1 hk2=>?_⟩
  ·rw[hL2]at hk;rcases Bool.or_eq_true_iff.1 hk with h6|h6
   ·exact h.sub k h6
   ·obtain rfl:k=i:=by simpa using h6
    exact .inl hd
  ·rw[hL2]at hLj;exact(Bool.or_eq_false_iff.1 hLj).1
  ·have hLk:∀k,L2 k=true->k ∉ done->L k=true:=fun k h1 h2=>by
    rw[hL2]at h1;rcases Bool.or_eq_true_iff.1 h1 with h6|h6
    ·exact h6
    ·obtain rfl:k=i:=by simpa using h6
     exact(h2 hd).elim
   obtain⟨a,b⟩:=hh k (hLk k hk1 hk2) hk2;exact⟨a,fun j hj1 hj2=>b j (hLk j hj1 hj2) hj2⟩
 ·-- the next effect
  have hrest:i∈rest:=(Bm h.ord i hil).resolve_left hd;obtain⟨e,rest',rfl⟩:∃e r,rest=e::r:=by cases rest with|nil=>simp at hrest|cons e r=>exact⟨e,r,rfl⟩
  obtain⟨hef,hLe⟩:=hs e rest' rfl;obtain⟨hp,hne,hel,h4,h5⟩:=tn h.ord;have hbefore:=u5 h.fQ hlt (i+1) i jB _ ho hpre;obtain rfl:i=e:=by
   rcases List.mem_cons.1 hrest with h|hr
   ·exact h
   ·rcases(h4 hef).1 i hr with h6|h6
    ·have:=hbefore e h6;rw[hLe]at this;cases this
    ·rcases hnE with h7|h7|⟨r,h7⟩
     ·exact(hd h7).elim
     ·exact(h7 h6).elim
     ·cases h7;rfl
  have hmi:mem done i=false:=by rw[<-Bool.not_eq_true,lO];exact hne
  have hpre':∀e∈(dP l i).after.toList,Region.binds .any e=true->mem done e.on=true:=fun e he hb=>lO.2 (hp _ (zD ho he hb))
  have hw:=h.walk;rw[List.map_cons]at hw;obtain⟨_,hx⟩:=(F5 hw).resolve_right fun⟨hx,_⟩=>by unfold ku at hef;rw[hef]at hx;cases hx
  refine(hx _ (HH hlt hcl h.kD h.fQ ho hmi hi hpre' hpre)).mono ?_;rintro G' H' ⟨hgrow,r,rfl,hv⟩;have hset:∀D:Nat->Bool,(∀k,D k=true->k∈done)->FL l (rs.set i r) D F l.length=FL l rs D F l.length:=fun D hD=>qw (by
   cases e:D i with
   |false=>rfl
   |true=>exact(hne (hD i e)).elim) _
  have hget:(rs.set i r).getD i .any=r:=by simp[h.len,hil]
  have hn1:=vD (rs:=rs.set i r) (F:=F) hlt hcl h.kD ho hmi hpre' hget (L2:=mem (i::done)) (fun k=>by rw[show mem (i::done) k=(fun k=>mem (i::done) k) k from rfl,BX]);rw[hset _ (fun k hk=>lO.1 hk)]at hn1;have hn2:=vD (rs:=rs.set i r) (F:=F) hlt hcl h.fQ ho hi hpre hget hL2;rw[qw hi]at hn2;refine⟨i::done,rest',rs.set i r,⟨by simpa using h.len,fun k hk=>?_,hclo2,Cb hok hil h.kD hp,h5,by rw[<-hn1];exact hv,DA hok hE h hef hL2 hgrow hbefore⟩,hn2,fun w0 w β hh k hk1 hk2=>?_⟩
  ·rw[hL2]at hk;rcases Bool.or_eq_true_iff.1 hk with h6|h6
   ·exact(h.sub k h6).imp_left (List.mem_cons_of_mem _)
   ·obtain rfl:k=i:=by simpa using h6
    simp
  ·have hLk:∀k,L2 k=true->k ∉ i::done->L k=true/\k ∉ done/\k≠i:=fun k h1 h2=>by
    rw[hL2]at h1;simp only[List.mem_cons,not_or]at h2;rcases Bool.or_eq_true_iff.1 h1 with h6|h6
    ·exact⟨h6,h2.2,h2.1⟩
    ·exact(h2.1 (by simpa using h6)).elim
   obtain⟨y1,y2,y3⟩:=hLk k hk1 hk2;obtain⟨⟨t,cur,b1,b2,b3,b4⟩,b⟩:=hh k y1 y2;exact⟨⟨t,cur,b1,b2,by rw[<-b3];simp[List.getElem?_set,Ne.symm y3],b4⟩,fun j hj1 hj2=>b j (hLk j hj1 hj2).1 (hLk j hj1 hj2).2.1⟩
theorem KZ{rs:List AV}(h:Inv A E P l K F L done rest rs H){o:Oper}(ho:l[i]?=some o)(hi:L i=false)(hd:i ∉ done)(hiE:i∈E)(hpre:∀e∈o.after.toList,Region.binds .any e=true->L e.on=true)
  {L2:Nat->Bool} (hL2:∀k,L2 k=(L k || k == i)) {w0 w:NW} {H0:Hp} {tm:Array Value} {β:Nat->Nat} (h1:aO w H) (h2:bc w (FL l rs L F l.length) tm) (h3:Ext w0 H0 w H) (h4:Hid P l L done rs w0 w β) {Q:Exit->Act->World->Prop} {next:Act->World->Prop}
  (hn:∀tm' w' rs' β',Inv A E P l K F L2 done rest rs' H->aO w' H->bc w' (FL l rs' L2 F l.length) tm'->Ext w0 H0 w' H->Hid P l L2 done rs' w0 w' β'->next ⟨tm',[]⟩ w'.toWorld):rh P l.toArray Q o next ⟨tm,[]⟩ w.toWorld:=by
 obtain⟨hlt,hcl⟩:=ve hok;have hil:=(List.getElem?_eq_some_iff.1 ho).1;obtain rfl:o=dP l i:=by have:=(xR hil).symm.trans ho;cases this;rfl
 obtain⟨t,zs,e1,e2,e3⟩:=yj hE.1 i hiE;obtain⟨z,hrun,rfl⟩:=yc (w:=w.toWorld) e2;have hclo2:nB l L2:=fun j o' hj hLj e he hb=>by
  rw[hL2]at hLj ⊢;rcases Bool.or_eq_true_iff.1 hLj with h6|h6
  ·rw[h.fQ j o' hj h6 e he hb];rfl
  ·obtain rfl:j=i:=by simpa using h6
   rw[ho]at hj;cases hj;rw[hpre e he hb];rfl
 have hget:(rs.set i (.raw (.pointer (some ⟨w.heap.size,0,none⟩)))).getD i .any=.raw (.pointer (some ⟨w.heap.size,0,none⟩)):=by simp[h.len,hil]
 have hne:∀j,j≠i->∀r:AV,(rs.set i r).getD j .any=rs.getD j .any:=fun j hj r=>by simp[List.getElem?_set,Ne.symm hj]
 have hset:∀(r:AV) (D:Nat->Bool),(∀k,D k=true->k∈done)->FL l (rs.set i r) D F l.length=FL l rs D F l.length:=fun r D hD=>qw (by
  cases e:D i with
  |false=>rfl
  |true=>exact(hd (hD i e)).elim) _
 have hn2:=vD (rs:=rs.set i (.raw (.pointer (some ⟨w.heap.size,0,none⟩)))) (F:=F) hlt hcl h.fQ ho hi hpre hget hL2;rw[qw hi]at hn2;have ex:Ext w H ((w.to (w.alloc (.cells z.cells t))).fV w.heap.size) H:={
  size:=by show w.heap.size<=(w.alloc _).heap.size;simp
  free:=fun b hb hn=>⟨RowKit.Below.heap_alloc w.toWorld _ b hb,fun h=>by
   rcases h with h|h
   ·omega
   ·exact hn h⟩
  names:=fun _ _ _ _ h=>h
  os:=rfl,tape:=rfl,output:=rfl
  rest:=fun b hb hO hno=>⟨RowKit.Below.heap_alloc w.toWorld _ b hb,.inr hO,hno⟩
  base:=rfl }
 have hW:aO ((w.to (w.alloc (.cells z.cells t))).fV w.heap.size) H:={
  rows:=fun j row hj=>by obtain⟨g1,y,g2,g3⟩:=h1.rows j row hj;refine⟨g1,y,g2,g3.ext ex fun b t' s e=>?_⟩;subst e;exact RowKit.Below.heap_alloc w.toWorld _ b (h1.lt g2)
  dO:=h1.dO,inj:=h1.inj,cn:=h1.cn.aY ex.toKeep
  own:=fun j n b t' s hh=>.inr (h1.own j n b t' s hh)
  fin:=fun b hb=>by
   show b<(w.alloc _).heap.size;rcases hb with hh|hh
   ·subst hh;simp
   ·have:=h1.fin b hh;simp;omega }
 have hLk:∀k,L2 k=true->k≠i->L k=true:=fun k h1 h2=>by rw[hL2]at h1;exact(Bool.or_eq_true_iff.1 h1).resolve_right (by simpa using h2)
 unfold rh;rw[if_pos (by simp[Region.wanted,e3])];refine .inl ?_;have hex:(execOp (Act.mk tm []).eval (dP l i)).run P w.toWorld=.ok (.value (.pointer (some ⟨w.heap.size,0,none⟩))) (w.alloc (.cells z.cells t)):=by
  have:∀(o:Oper),o.op=.alloc t->(execOp (Act.mk tm []).eval o).run P w.toWorld=.ok (.value (.pointer (some ⟨w.heap.size,0,none⟩))) (w.alloc (.cells z.cells t)):=fun o ho=>by obtain⟨dst,op,ty,pos,after,guard⟩:=o;simp only at ho;subst ho;simp only[execOp,Sem.run_bind,Instr.alloc,hrun,Result.andThen_ok,newVar,newRow];simp
  exact this _ e1
 simp only[Oper.wp,hex,Oper.upon];rw[Act.put_eq];refine hn _ ((w.to (w.alloc (.cells z.cells t))).fV w.heap.size) (rs.set i (.raw (.pointer (some ⟨w.heap.size,0,none⟩)))) (fun k=>if k=i then w.heap.size else β k) ⟨by simpa using h.len,fun k hk=>?_,hclo2,h.kD,h.ord,by rw[hset _ _ (fun k hk=>lO.1 hk)];exact h.walk,fun j hj hLj=>?_⟩ hW ?_ (h3.trans ex) ?_
 ·rw[hL2]at hk;rcases Bool.or_eq_true_iff.1 hk with h6|h6
  ·exact h.sub k h6
  ·obtain rfl:k=i:=by simpa using h6
   exact .inr hiE
 ·rw[hL2]at hLj;obtain⟨w1,w2,D,w3,w4,w5,w6,w7,w8,w9⟩:=h.wait j hj (Bool.or_eq_false_iff.1 hLj).1;have hji:j≠i:=fun e=>hd (e ▸ hj)
  exact⟨w1,w2,D,w3,w4,w5,w6,by rw[hset _ _ w5,hne j hji];exact w7,fun hd H'=>by rw[hset _ _ w5,hne j hji];exact w8 hd H',fun hd H' hle=>by rw[hset _ _ w5,hne j hji];exact w9 hd H' hle⟩
 ·rw[<-hn2];exact(h2.ext ex).put _ (.raw _) []
 ·intro k hk1 hk2;by_cases hki:k=i
  ·subst hki;refine⟨⟨t,z.cells,e1,e2,by simp only[if_true];exact hget,by simp only[if_true];exact heap_alloc_new w.toWorld _,by simp only[if_true];exact .inl rfl,by simp only[if_true];exact h3.size,by simp only[if_true];show w.heap.size<(w.alloc _).heap.size;simp,fun j m t' s hh=>?_⟩,fun j hj1 hj2 e=>?_⟩
   ·simp only[if_true]at hh;have hh:w.nm j m=some (.at w.heap.size t' s):=hh;have:=h1.lt hh;omega
   ·by_cases hjk:j=k
    ·exact hjk.symm
    ·exfalso;obtain⟨⟨_,_,_,_,_,_,_,_,b7,_⟩,_⟩:=h4 j (hLk j hj1 hjk) hj2;simp only[if_true,if_neg hjk]at e;omega
  ·obtain⟨⟨t',cur,b1,b2,b3,b4,b5,b6,b7,b8⟩,b9⟩:=h4 k (hLk k hk1 hki) hk2;simp only[if_neg hki];refine⟨⟨t',cur,b1,b2,by rw[hne k hki];exact b3,(RowKit.Below.heap_alloc w.toWorld _ _ b7).trans b4,.inr b5,b6,Nat.lt_of_lt_of_le b7 ex.size,b8⟩,fun j hj1 hj2 e=>?_⟩;by_cases hji:j=i
   ·subst hji;simp only[if_true]at e;omega
   ·simp only[if_neg hji]at e;exact b9 j (hLk j hj1 hji) hj2 e
theorem JJ{Q:Exit->List AV->Hp->Prop}(hQ:∀F H,K F H->Q .normal F H){H0:Hp}(w0:NW) :
  ∀(fuel:Nat) (listed:Array Bool),listed.size=l.length->(List.range l.length).countP (fun i=>!listed.getD i false)=fuel->
   ∀H done rest rs (w:NW) tm β,Inv A E P l K F (fun i=>listed.getD i false) done rest rs H->(∀i r,rest=i::r->ku A l i=true/\listed.getD i false=false)->
    aO w H->bc w (FL l rs (fun i=>listed.getD i false) F l.length) tm->Ext w0 H0 w H->Hid P l (fun i=>listed.getD i false) done rs w0 w β->wpAny P .any l.toArray (gh Q w0 H0) fuel listed ⟨tm,[]⟩ w.toWorld:=by
 obtain⟨hlt,hcl⟩:=ve hok;have fin:∀(listed:Array Bool) H done rest rs,Inv A E P l K F (fun i=>listed.getD i false) done rest rs H->(∀i r,rest=i::r->ku A l i=true/\listed.getD i false=false)->(∀i,i<l.length->listed.getD i false=true)->∀(w:NW) tm,aO w H->bc w (FL l rs (fun i=>listed.getD i false) F l.length) tm->Ext w0 H0 w H->gh Q w0 H0 .normal ⟨tm,[]⟩ w.toWorld:=by
  intro listed H done rest rs h hs hall w tm h1 h2 h3;obtain rfl:rest=[]:=by
   cases rest with
   |nil=>rfl
   |cons i r=> obtain⟨_,hni,hil,_⟩:=tn h.ord;have h6:=(hs i r rfl).2;rw[hall i hil]at h6;cases h6
  have e:FL l rs (fun i=>listed.getD i false) F l.length=FL l rs (mem done) F l.length:=by
   have gen:∀m,m<=l.length->FL l rs (fun i=>listed.getD i false) F m=FL l rs (mem done) F m:=by
    intro m;induction m with
    |zero=>intro _;rfl
    |succ m ih=> intro hm;have h4:=hall m jB;have h5:mem done m=true:=lO.2 ((Bm h.ord m jB).resolve_right jE);rw[FL,FL,ih jB,h4,h5]
   exact gen _ jl
  rw[e]at h2;exact⟨tm,_,H,w,rfl,rfl,hQ _ _ h.walk,h1,h2,h3.pB⟩
 intro fuel;induction fuel with
 |zero=>
  intro listed hsz hcnt H done rest rs w tm β h hs h1 h2 h3 _;have hall:∀i,i<l.length->listed.getD i false=true:=fun i hi=>by have:=(List.countP_eq_zero.1 hcnt) i (List.mem_range.2 hi);simpa using this
  refine⟨?_,fin listed H done rest rs h hs hall w tm h1 h2 h3⟩;rw[List.eq_nil_iff_forall_not_mem];intro j hj;obtain⟨hj0,o,ho,_⟩:=mem_ready.1 hj;have hjl:j<l.length:=by have:=(Array.getElem?_eq_some_iff.1 ho).1;simpa using this
  have:=hall j hjl;simp[hsz,hjl]at this hj0;rw[this]at hj0;cases hj0
 |succ fuel ih=>
  intro listed hsz hcnt H done rest rs w tm β h hs h1 h2 h3 hhid;refine⟨fun hnil=>?_,fun i hi=>?_⟩
  ·exfalso;have hex:∃i,i<l.length/\listed.getD i false=false:=by
    have hpos:0<(List.range l.length).countP (fun i=>!listed.getD i false):=jB;obtain⟨i,hi,hp⟩:=List.countP_pos_iff.1 hpos;exact⟨i,List.mem_range.1 hi,by simpa using hp⟩
   obtain⟨i,⟨hi,hf⟩,hleast⟩:=exists_least hex;have ho:l[i]?=some l[i]:=List.getElem?_eq_getElem hi;have:i∈Region.ready .any l.toArray listed:=mem_ready.2 ⟨by simp[hsz,hi]at hf ⊢;exact hf,l[i],by simp[hi],fun e he hb=>by
    have h4:=hlt i _ ho e (by simpa using he) hb;cases hv:listed.getD e.on false with
    |true=>rfl
    |false=>have:=hleast e.on ⟨jB,hv⟩;omega⟩
   rw[hnil]at this;cases this
  ·obtain⟨hi0,o,ho,hpre⟩:=mem_ready.1 hi;have ho':l[i]?=some o:=by simpa using ho
   have hil:=(List.getElem?_eq_some_iff.1 ho').1;have hif:listed.getD i false=false:=by simp[hsz,hil]at hi0 ⊢;exact hi0
   have hpre':∀e∈o.after.toList,Region.binds .any e=true->listed.getD e.on false=true:=fun e he hb=>hpre e (by simpa using he) hb
   have hL':∀k,(listed.setIfInBounds i true).getD k false=(listed.getD k false || k == i):=fun k=>by
    by_cases hk:k=i
    ·subst hk;simp[hsz,hil]
    ·simp[Array.getElem?_setIfInBounds_ne (Ne.symm hk),hk]
   have hcnt':(List.range l.length).countP (fun k=>!(listed.setIfInBounds i true).getD k false)=fuel:=by
    have:∀(n:Nat),i<n->(List.range n).countP (fun k=>!(listed.setIfInBounds i true).getD k false)+1=(List.range n).countP (fun k=>!listed.getD k false):=by
     intro n;induction n with
     |zero=>intro h;omega
     |succ n ihn=>
      intro h;rw[List.range_succ,List.countP_append,List.countP_append];by_cases hn:n=i
      ·subst hn;have:(List.range n).countP (fun k=>!(listed.setIfInBounds n true).getD k false)=(List.range n).countP (fun k=>!listed.getD k false):=by
        refine List.countP_congr fun k hk=>?_
        rw[hL'];have:k≠n:=by have:=List.mem_range.1 hk;omega
        simp[this]
       rw[this];simp only[List.countP_singleton,hL',hif];simp
      ·rw[<-ihn jB];simp only[List.countP_singleton,hL'];have:(n == i)=false:=by simpa using hn
       rw[this,Bool.or_false];omega
    have:=this l.length hil;omega
   have go:∀{d' r' rs' H'} {w':NW} {tm'} {β'},Inv A E P l K F (fun k=>(listed.setIfInBounds i true).getD k false) d' r' rs' H'->aO w' H'->bc w' (FL l rs' (fun k=>(listed.setIfInBounds i true).getD k false) F l.length) tm'->Ext w0 H0 w' H'->Hid P l (fun k=>(listed.setIfInBounds i true).getD k false) d' rs' w0 w' β'->
     wpAny P .any l.toArray (gh Q w0 H0) fuel (listed.setIfInBounds i true) ⟨tm',[]⟩ w'.toWorld:=fun{d' r' rs' H' w' tm' β'} k1 k2 k3 k4 k5=>by
    obtain⟨d2,r2,rs2,H2,w2,x1,x2,x3,x4,x5,x6,x7⟩:=settle hok hE r'.length jl k1 k2 k3 k4 k5;rw[<-x1];exact ih (listed.setIfInBounds i true) (by simpa using hsz) hcnt' H2 d2 r2 rs2 w2 tm' β' x2 x3 x4 x5 x6 x7
   unfold wpOp;rw[ho];by_cases hearly:i ∉ done/\i∈E/\¬ ∃r,rest=i::r
   ·have:=KZ hok hE h ho' hif hearly.1 hearly.2.1 hpre' (L2:=fun k=>(listed.setIfInBounds i true).getD k false) hL' h1 h2 h3 hhid (Q:=gh Q w0 H0) (next:=wpAny P .any l.toArray (gh Q w0 H0) fuel (listed.setIfInBounds i true)) fun tm' w' rs' β' k1 k2 k3 k4 k5=>go k1 k2 k3 k4 k5
    exact this
   ·have hnE:i∈done\/i ∉ E\/∃r,rest=i::r:=by
     by_cases a:i∈done
     ·exact .inl a
     ·by_cases b:i∈E
      ·exact .inr (.inr (Classical.byContradiction fun c=>hearly ⟨a,b,c⟩))
      ·exact .inr (.inl b)
    have hop:=Ri hok hE h hs ho' hif hpre' (L2:=fun k=>(listed.setIfInBounds i true).getD k false) hL' hnE;have:=hop w tm (gh Q w0 H0) (wpAny P .any l.toArray (gh Q w0 H0) fuel (listed.setIfInBounds i true)) h1 h2 (by rintro tm' w' F' H' ⟨d',r',rs',k1,rfl,k2⟩ g1 g2 g3;exact go k1 g1 g2 (h3.trans g3) (k2 _ _ _ (hhid.ext g3)))
    exact this
end
theorem CB(A:AS)(E:List Nat){id:Nat}(ord:List Nat){Q:Exit->List AV->Hp->Prop}(hm:P.follows .mixedOrders=true)(hok:pN A E l ord=true)(hE:qI P l E)(h:fZ A P l.toArray (Q .normal) (ord.map (dP l)) F H):dH P (.region id l.toArray true) Q F H:=fun w tm h1 h2=>by
 simp only[pN,Bool.and_eq_true,List.all_eq_true,Bool.not_eq_true']at hok;obtain⟨⟨hdr,hord⟩,hqE⟩:=hok;have hE:A8 A P l E:=⟨hE,hqE⟩;have hz:∀i,(Array.replicate l.toArray.size false).getD i false=false:=fun i=>by by_cases hi:i<l.length<;>simp[Array.getElem?_replicate,hi]
 refine wp_region_any hm ?_;have e0:∀(rs:List AV) (L:Nat->Bool),(∀i,L i=false)->FL l rs L F l.length=F:=fun rs L hL=>by
  have gen:∀m,FL l rs L F m=F:=by
   intro m;induction m with
   |zero=>rfl
   |succ m ih=>rw[FL,hL,if_neg jE,ih]
  exact gen _
 have hinv:Inv A E P l (Q .normal) F (fun i=>(Array.replicate l.toArray.size false).getD i false) [] ord (List.replicate l.length .any) H:=
  ⟨jE,(fun i hi=>by have:=(hz i).symm.trans hi;cases this),(fun j o _ hj=>by have:=(hz j).symm.trans hj;cases this),(fun j o _ hj=>by simp[mem]at hj),hord,
   (by rw[e0 _ _ (fun i=>by simp[mem])];exact h),(fun i hi=>by simp at hi)⟩
 obtain⟨d',r',rs',k1,k2,k3,_⟩:=zR hdr hE ord hinv;refine JJ hdr hE (fun _ _ h=>h) w l.toArray.size (Array.replicate l.toArray.size false) jE (by rw[List.countP_eq_length.2 (fun i _=>by rw[hz];rfl)];simp) H d' r' rs' (w.to w.drew) tm (fun _=>0) k1 (fun i r e=>⟨k2 i r e,hz i⟩) h1.drew (by rw[e0 _ _ hz];exact h2.ext (Ext.drew w H)) (Ext.drew w H) (fun i hi _=>by have:=(hz i).symm.trans hi;cases this)
end
variable{P:Program}{H:Hp}{Q:Exit->List AV->Hp->Prop}
theorem Gb(A:AS){id:Nat}{l:List Oper}(ord:List Nat){F:List AV}(hm:P.follows .mixedOrders=true)(hok:pN A [] l ord=true)(h:fZ A P l.toArray (Q .normal) (ord.map (dP l)) F H):dH P (.region id l.toArray true) Q F H:=CB A [] ord hm hok trivial h
theorem KR{id:Nat}{l:List Oper}(ord:List Nat){F:List AV}(hm:P.follows .mixedOrders=true)(hok:pN ([],[],[]) [] l ord=true)(h:fZ ([],[],[]) P l.toArray (Q .normal) (ord.map (dP l)) F H):dH P (.region id l.toArray true) Q F H:=Gb ([],[],[]) ord hm hok h
section
variable {P:Program}{ev:Operand->AV}{H:Hp}{ty:TypeId}{K:AV->Hp->Prop}
@[go_sem] theorem j4q(x:Operand):fY P ev H ty K (.move x)=vc P ev H ty K (.move x):=(rfl)
@[go_sem] theorem j0C(x:Operand):fY P ev H ty K (.assign x)=vc P ev H ty K (.assign x):=(rfl)
@[go_sem] theorem j4r(c a b:Operand):fY P ev H ty K (.pick c a b)=vc P ev H ty K (.pick c a b):=(rfl)
@[go_sem] theorem jw9(x:Operand):fY P ev H ty K (.nilCheck x)=vc P ev H ty K (.nilCheck x):=(rfl)
@[go_sem] theorem j4p(t:TypeId)(x:Operand):fY P ev H ty K (.load t x)=vc P ev H ty K (.load t x):=(rfl)
@[go_sem] theorem jwd(t:TypeId)(x:Operand)(f:Nat):fY P ev H ty K (.fieldAddr t x f)=vc P ev H ty K (.fieldAddr t x f):=(rfl)
@[go_sem] theorem j2S(t:TypeId)(x:Operand)(f:Nat):fY P ev H ty K (.field t x f)=vc P ev H ty K (.field t x f):=(rfl)
@[go_sem] theorem jwe(t:TypeId)(x i:Operand):fY P ev H ty K (.indexAddr t x i)=vc P ev H ty K (.indexAddr t x i):=(rfl)
@[go_sem] theorem j2T(t:TypeId)(x i:Operand):fY P ev H ty K (.index t x i)=vc P ev H ty K (.index t x i):=(rfl)
@[go_sem] theorem jzz(x:Operand)(i:Nat):fY P ev H ty K (.extract x i)=vc P ev H ty K (.extract x i):=(rfl)
@[go_sem] theorem j2U(t:TypeId)(a:Operand)(lo hi mx:Option Operand):fY P ev H ty K (.slice t a lo hi mx)=vc P ev H ty K (.slice t a lo hi mx):=(rfl)
@[go_sem] theorem j2R(t:TypeId)(ps:Array (Nat×Operand)):fY P ev H ty K (.build t ps)=vc P ev H ty K (.build t ps):=(rfl)
@[go_sem] theorem j5W(as:Array Operand)(ts:Array TypeId):fY P ev H ty K (.call ⟨.builtin .len,as,ts⟩)=vc P ev H ty K (.call ⟨.builtin .len,as,ts⟩):=(rfl)
@[go_sem] theorem j5X(as:Array Operand)(ts:Array TypeId):fY P ev H ty K (.call ⟨.builtin .min,as,ts⟩)=vc P ev H ty K (.call ⟨.builtin .min,as,ts⟩):=(rfl)
@[go_sem] theorem j5R(t:TypeId)(x y:Operand)(t':TypeId):fY P ev H ty K (.binOp .add t x y t')=vc P ev H ty K (.binOp .add t x y t'):=(rfl)
@[go_sem] theorem j5Z(t:TypeId)(x y:Operand)(t':TypeId):fY P ev H ty K (.binOp .sub t x y t')=vc P ev H ty K (.binOp .sub t x y t'):=(rfl)
@[go_sem] theorem j5V(t:TypeId)(x y:Operand)(t':TypeId):fY P ev H ty K (.binOp .gtr t x y t')=vc P ev H ty K (.binOp .gtr t x y t'):=(rfl)
@[go_sem] theorem j5U(t:TypeId)(x y:Operand)(t':TypeId):fY P ev H ty K (.binOp .geq t x y t')=vc P ev H ty K (.binOp .geq t x y t'):=(rfl)
@[go_sem] theorem j5T(t:TypeId)(x y:Operand)(t':TypeId):fY P ev H ty K (.binOp .eql t x y t')=((fD P .eql t (ev x) (ev y)).1/\K (fD P .eql t (ev x) (ev y)).2 H):=by simp[fY,nX,vq]
@[go_sem] theorem j5Y(t:TypeId)(x y:Operand)(t':TypeId):fY P ev H ty K (.binOp .neq t x y t')=((fD P .neq t (ev x) (ev y)).1/\K (fD P .neq t (ev x) (ev y)).2 H):=by simp[fY,nX,vq]
@[go_sem] theorem j5S(t:TypeId)(x:Operand):fY P ev H ty K (.box t x)=vc P ev H ty K (.box t x):=(rfl)
@[go_sem] theorem j2Q(t:TypeId):fY P ev H ty K (.alloc t)=vc P ev H ty K (.alloc t):=(rfl)
@[go_sem] theorem j2V(t:TypeId)(a x:Operand):fY P ev H ty K (.store t a x)=vc P ev H ty K (.store t a x):=(rfl)
@[go_sem] theorem juc(t:TypeId)(n:Nat)(ps:Array (Nat×Operand)):fY P ev H ty K (.buildSlice t n ps)=oN P t n (ps.toList.map fun p=>(p.1,ev p.2)) fun r=>K r H:=(rfl)
@[go_sem] theorem j4o(f:Operand)(as:Array Operand)(ts:Array TypeId):fY P ev H ty K (.call ⟨.value f,as,ts⟩)=vc P ev H ty K (.call ⟨.value f,as,ts⟩):=(rfl)
@[go_sem] theorem j0B(t:TypeId)(a x:Operand):fY P ev H ty K (.call ⟨.builtin .append,#[a,x],#[t,t]⟩)=vc P ev H ty K (.call ⟨.builtin .append,#[a,x],#[t,t]⟩):=(rfl)
end
variable{C D:List Nat}
@[go_sem] theorem j39{ev:Operand->AV}(op:Op):jf ([],C,D) ev op=true:=by cases op<;>first|rfl|(rename_i t x;simp only[jf];generalize ev x=a;cases a<;>first|rfl|simp[rM])
variable{A:AS}
@[go_sem] theorem j12{ev:Operand->AV}(t:TypeId)(x:Operand):jf A ev (.load t x)=rM A (ev x):=(rfl)
@[go_sem] theorem j0q{ev:Operand->AV}(t:TypeId)(a x:Operand):jf A ev (.store t a x)=((A.1.isEmpty || A.2.2.contains 1000000) || Bv A (ev a)):=(rfl)
@[go_sem] theorem j0S(A:AS)(i m k j:Nat):rM A (.pt i m k j)=(!A.1.contains i && (decide (1<=j) || !A.1.contains (i+16))):=(rfl)
@[go_sem] theorem j0R(A:AS)(cs:List AV):rM A (.ip cs)=true:=(rfl)
@[go_sem] theorem j36(A:AS)(i m k j:Nat):Bv A (.pt i m k j)=A.1.contains i:=(rfl)
@[go_sem] theorem j13{ev:Operand->AV}(x:Operand):jf A ev (.move x)=true:=(rfl)
@[go_sem] theorem jyy{ev:Operand->AV}(x:Operand):jf A ev (.assign x)=true:=(rfl)
@[go_sem] theorem j14{ev:Operand->AV}(c a b:Operand):jf A ev (.pick c a b)=true:=(rfl)
@[go_sem] theorem jve{ev:Operand->AV}(x:Operand):jf A ev (.nilCheck x)=true:=(rfl)
@[go_sem] theorem j0m{ev:Operand->AV}(op:BinOp)(t:TypeId)(x y:Operand)(t':TypeId):jf A ev (.binOp op t x y t')=true:=(rfl)
@[go_sem] theorem jt4{ev:Operand->AV}(t:TypeId)(x:Operand)(f:Nat):jf A ev (.fieldAddr t x f)=true:=(rfl)
@[go_sem] theorem j0o{ev:Operand->AV}(t:TypeId)(x:Operand)(f:Nat):jf A ev (.field t x f)=true:=(rfl)
@[go_sem] theorem jt5{ev:Operand->AV}(t:TypeId)(x i:Operand):jf A ev (.indexAddr t x i)=true:=(rfl)
@[go_sem] theorem j0p{ev:Operand->AV}(t:TypeId)(x i:Operand):jf A ev (.index t x i)=true:=(rfl)
@[go_sem] theorem jwK{ev:Operand->AV}(x:Operand)(i:Nat):jf A ev (.extract x i)=true:=(rfl)
@[go_sem] theorem j0n{ev:Operand->AV}(t:TypeId)(ps:Array (Nat×Operand)):jf A ev (.build t ps)=true:=(rfl)
@[go_sem] theorem j11{ev:Operand->AV}(c:Call):jf A ev (.call c)=true:=(rfl)
@[go_sem] theorem j0l{ev:Operand->AV}(t:TypeId):jf A ev (.alloc t)=true:=(rfl)
@[go_sem] theorem j38{ev:Operand->AV}(t:TypeId)(x:Operand):jf A ev (.box t x)=true:=(rfl)
@[go_sem] theorem jsx{ev:Operand->AV}(t:TypeId)(n:Nat)(ps:Array (Nat×Operand)):jf A ev (.buildSlice t n ps)=true:=(rfl)
variable{ops:Array Oper}{K:List AV->Hp->Prop}
@[go_sem] theorem j4B(F:List AV)(H:Hp):fZ A P ops K [] F H=K F H:=(rfl)
variable{L:List Nat}
@[go_sem] theorem j21(dst:Option Tmp)(op:Op)(ty:TypeId)(pos:String)(after:Array Edge)(rest:List Oper)(F:List AV)(H:Hp) :
  fZ (L,[],[]) P ops K (⟨dst,op,ty,pos,after,none⟩::rest) F H=(jf (L,[],[]) (cc F) op=true/\fY P (cc F) H ty (AP (fun r H'=>fZ (L,[],[]) P ops K rest (cA F dst r) H') .mk) op):=by
 have e:tK (L,[],[]) ⟨dst,op,ty,pos,after,none⟩=false:=by cases dst<;>rfl
 have e':oS (L,[],[]) ⟨dst,op,ty,pos,after,none⟩=false:=by cases dst<;>rfl
 unfold fZ;rw[show(⟨dst,op,ty,pos,after,none⟩:Oper).guard=none from rfl];simp only[e,e'];rfl
@[go_sem] theorem j0J(op:Op)(ty:TypeId)(pos:String)(after:Array Edge)(rest:List Oper)(F:List AV)(H:Hp) :
  fZ (L,C,D) P ops K (⟨none,op,ty,pos,after,none⟩::rest) F H=(jf (L,C,D) (cc F) op=true/\fY P (cc F) H ty (AP (fun r H'=>fZ (L,C,D) P ops K rest (cA F none r) H') .mk) op):=(rfl)
@[go_sem] theorem j0H{c t:Nat}(op:Op)(ty:TypeId)(pos:String)(after:Array Edge)(rest:List Oper)(F:List AV)(H:Hp) :
  fZ (L,c::C,D) P ops K (⟨some t,op,ty,pos,after,none⟩::rest) F H=qb ((c::C).contains t) (Cy P (cc F) H (wB (fun r=>fZ (L,c::C,D) P ops K rest (cA F (some t) r) H) .mk) op)
   (qb (D.contains t) (sf P (L,c::C,D) (cc F) H (AP (fun r H'=>fZ (L,c::C,D) P ops K rest (cA F (some t) r) H') .mk) op) (jf (L,c::C,D) (cc F) op=true/\fY P (cc F) H ty (AP (fun r H'=>fZ (L,c::C,D) P ops K rest (cA F (some t) r) H') .mk) op) .mk .mk) .mk .mk:=(rfl)
@[go_sem] theorem j0I{c t:Nat}(op:Op)(ty:TypeId)(pos:String)(after:Array Edge)(rest:List Oper)(F:List AV)(H:Hp) :
  fZ (L,[],c::D) P ops K (⟨some t,op,ty,pos,after,none⟩::rest) F H=qb ((c::D).contains t) (sf P (L,[],c::D) (cc F) H (AP (fun r H'=>fZ (L,[],c::D) P ops K rest (cA F (some t) r) H') .mk) op)
   (jf (L,[],c::D) (cc F) op=true/\fY P (cc F) H ty (AP (fun r H'=>fZ (L,[],c::D) P ops K rest (cA F (some t) r) H') .mk) op) .mk .mk:=(rfl)
@[go_sem] theorem j4s{ev:Operand->AV}{K:AV->Hp->Prop}(f:Operand)(as:Array Operand)(ts:Array TypeId):sf P A ev H K (.call ⟨.value f,as,ts⟩)=fI P (ev f) (as.toList.map ev) H (AP (fun r H'=>dI A H H'/\K r H') .mk):=(rfl)
@[go_sem] theorem j4u{ev:Operand->AV}{K:AV->Prop}(f:Operand)(as:Array Operand)(ts:Array TypeId):Cy P ev H K (.call ⟨.value f,as,ts⟩)=∃r,(fI P (ev f) (as.toList.map ev) H fun r' H'=>r'=r/\H'=H)/\K r:=(rfl)
def tE(b:Bool)(X Y:Prop)(_:gb X)(_:gb Y):Prop:=(b=true->X)/\(b=false->Y)
@[go_sem] theorem j4m(X Y:Prop)(d:gb X)(e:gb Y):tE true X Y d e=X:=by unfold tE;simp
@[go_sem] theorem j2N(X Y:Prop)(d:gb X)(e:gb Y):tE false X Y d e=Y:=by unfold tE;simp
@[go_sem] theorem j0K(dst:Option Tmp)(op:Op)(ty:TypeId)(pos:String)(after:Array Edge)(j:Nat)(want:Bool)(rest:List Oper)(F:List AV)(H:Hp) :
  fZ (L,C,[]) P ops K (⟨dst,op,ty,pos,after,some (j,want)⟩::rest) F H=tB (mq ops F j want) (fun b=>(k9 op || iB op)=true/\eQ P F H b (wB (fun r=>fZ (L,C,[]) P ops K rest (cA F dst r) H) .mk) op) .mk:=by
 have e:pk (L,C,[]) ⟨dst,op,ty,pos,after,some (j,want)⟩=false:=by unfold pk oS;cases dst<;>simp
 unfold tB;conv=>lhs;unfold fZ
 simp only[e];rfl
def rK(F:List AV):List Operand->Prop
 |[]=>True
 |x::l=>(lR (cc F x)).1=true/\rK F l
theorem Fy(F:List AV):∀l:List Operand,((l.all fun x=>(lR (cc F x)).1)=true)=rK F l
 |[]=>by simp[rK]
 |x::l=>by have:=Fy F l;simp only[List.all_cons,Bool.and_eq_true,rK,this]
theorem LQ(F:List AV)(f:Operand)(as:Array Operand)(ts:Array TypeId):(gv F (.call ⟨.value f,as,ts⟩)=true)=((lR (cc F f)).1=true/\rK F as.toList):=by rw[<-Fy];unfold gv;simp[Op.operands,Call.operands]
attribute [go_sem] rK
attribute [go_sem] dP oN qI
end Go.Gd
