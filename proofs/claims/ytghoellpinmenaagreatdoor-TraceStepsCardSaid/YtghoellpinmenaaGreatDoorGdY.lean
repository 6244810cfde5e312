/- Lemmas. No conditions. -/
import Derived.Test.YtghoellpinmenaaGreatDoorGdL
set_option linter.all false
namespace Go.Gd
open Go
section
variable {P:P6}{ops:Array Oper}{H:Hp}
variable{ty:P1}{K:PT}
def tV{ev ev':P2}(o:Op)(h:∀x∈o.operands.toList,ev x=ev' x):vc P ev H ty K o=vc P ev' H ty K o:=by
 have quiet:((vq P ev H o).1/\K (vq P ev H o).2 H)=((vq P ev' H o).1/\K (vq P ev' H o).2 H):=by rw[rb o h]
 have other:gp P o ty ev H K=gp P o ty ev' H K:=by
  unfold gp;apply propext;constructor<;>intro hh w ρ dst pos after guard h1 h2
  ·exact hh w ρ dst pos after guard h1 fun x hx=>by rw[h x hx];exact h2 x hx
  ·exact hh w ρ dst pos after guard h1 fun x hx=>by rw[<-h x hx];exact h2 x hx
 cases o
 case box t x=>simp only[vc];rw[h x (by simp[Op.operands])]
 case store t a x=>simp only[vc];rw[h x (by simp[Op.operands]),h a (by simp[Op.operands])]
 case buildSlice t n ps=> simp only[Op.operands]at h;simp only[vc];rw[List.map_congr_left (g:=fun p=>(p.1,ev' p.2)) (fun x hx=>by rw[h x.2 (by simp at hx ⊢;exact⟨_,hx⟩)])]
 case binOp op t x y t'=>
  cases op<;>first
   |(simp only[vc];rw[h x (by simp[Op.operands]),h y (by simp[Op.operands])];done)
   |exact quiet
 case call c=>
  obtain⟨callee,args,ts⟩:=c;cases callee
  case value f=> simp only[Op.operands,Call.operands]at h;simp only[vc];rw[h f jE,List.map_congr_left (fun x hx=>h x (by simp at hx ⊢;exact .inr hx))]
  case invoke f m=> simp only[Op.operands,Call.operands]at h;simp only[vc];rw[h f jE,List.map_congr_left (fun x hx=>h x (by simp at hx ⊢;exact .inr hx))]
  case builtin b=>
   have hm:args.toList.map ev=args.toList.map ev':=List.map_congr_left fun x hx=>h x (by simpa[Op.operands,Call.operands]using hx)
   cases b
   case append=>
    simp only[vc];split
    ·rename_i t t' a x ht ha;rw[h a (by simp[Op.operands,Call.operands];rw[<-Array.mem_toList_iff,ha];simp),h x (by simp[Op.operands,Call.operands];rw[<-Array.mem_toList_iff,ha];simp)]
    ·rfl
   case len=>exact quiet
   case cap=>exact quiet
   case max=>exact quiet
   case min=>exact quiet
   all_goals(simp only[vc,cP,Bool.false_eq_true,if_false];rw[hm])
  all_goals exact other
 all_goals first
  |rfl
  |exact quiet
  |exact other
variable{t:P1}{K':PT}
def D2{n:Nat}{parts:List (Nat×AV)}(h:lu P H t n parts K)(hk:∀r H,K r H->K' r H):lu P H t n parts K':=by
 unfold lu at*;split at h
 ·rename_i e he;split at h
  ·refine⟨h.1,?_⟩;rcases h.2 with h2|⟨h2,i,h3,h4⟩
   ·exact .inl ⟨h2.1,hk _ _ h2.2⟩
   ·exact .inr ⟨h2,i,h3,hk _ _ h4⟩
  ·exact h.elim
 ·exact h.elim
def B0{ev:P2}(o:Op)(hk:∀r H',K r H'->K' r H')(h:vc P ev H ty K o):vc P ev H ty K' o:=by
 have quiet:((vq P ev H o).1/\K (vq P ev H o).2 H)->((vq P ev H o).1/\K' (vq P ev H o).2 H):=fun h=>⟨h.1,hk _ _ h.2⟩
 have other:gp P o ty ev H K->gp P o ty ev H K':=fun hh w ρ dst pos after guard h1 h2=>by obtain⟨w',H',r,g1,g2⟩:=hh w ρ dst pos after guard h1 h2;exact⟨w',H',r,hk _ _ g1,g2⟩
 cases o
 case box t x=>obtain⟨h1,i,h2,h3⟩:=h;exact⟨h1,i,h2,hk _ _ h3⟩
 case alloc t=>
  simp only[vc,ll]at h ⊢;split at h
  ·obtain⟨i,h2,h3⟩:=h;exact⟨i,h2,hk _ _ h3⟩
  ·exact h.elim
 case store t a x=>
  simp only[vc,qa]at h ⊢;split at h
  ·split at h
   ·exact⟨h.1,hk _ _ h.2⟩
   ·exact h.elim
  ·exact h.elim
 case buildSlice t n ps=>exact D2 h hk
 case binOp op t x y t'=>
  have nileq:∀ne,ns P ne t (ev x) (ev y) H K->ns P ne t (ev x) (ev y) H K':=fun ne h=>by
   unfold ns at h ⊢;split at h
   ·exact⟨h.1,fun b hb=>hk _ _ (h.2 b hb)⟩
   ·exact⟨h.1,fun b hb=>hk _ _ (h.2 b hb)⟩
   ·rename_i Qe;exact⟨h.1,hk _ _ h.2⟩
  cases op<;>first
   |exact nileq false h
   |exact nileq true h
   |exact quiet h
 case call c=>
  obtain⟨callee,args,ts⟩:=c;cases callee
  case value f=>exact wb h hk
  case invoke f m=>
   simp only[vc,nk]at h ⊢;split at h
   ·split at h
    ·exact wb h hk
    ·exact h.elim
   ·exact h.elim
  case builtin b=>
   have bvc:pk P b ts.toList (args.toList.map ev) H K->pk P b ts.toList (args.toList.map ev) H K':=fun hh w vs ty cs h1 h2=>by obtain⟨w',H',r,v,g1,g2,g3⟩:=hh w vs ty cs h1 h2;exact⟨w',H',r,v,g1,hk _ _ g2,g3⟩
   cases b
   case append=>
    simp only[vc]at h ⊢;split at h
    ·intro w va vx ty h1 h2 h3;obtain⟨w',H',r,v,g1,g2,g3⟩:=h w va vx ty h1 h2 h3;exact⟨w',H',r,v,g1,hk _ _ g2,g3⟩
    ·exact h.elim
   case len=>exact quiet h
   case cap=>exact quiet h
   case max=>exact quiet h
   case min=>exact quiet h
   all_goals exact bvc h
  all_goals exact other h
 all_goals first
  |exact quiet h
  |exact other h
-- what is quiet, what is an effect
def oT:Op->Bool
 |.buildSlice ..=>true
 |_=>false
abbrev AS:=PZ×PZ×PZ
def qK(A:AS)(o:Oper):Bool:=match o.dst with
 |some t=>A.2.1.contains t
 |none=>false
def mc(A:AS)(o:Oper):Bool:=match o.dst with
 |some t=>A.2.2.contains t
 |none=>false
def lX(A:AS)(o:Oper):Bool:=o.guard.isSome && mc A o && fV o.op
def lR(A:AS)(o:Oper):Bool:=(o.guard.isNone && !cP o.op && !mw o.op && !(oT o.op && !mc A o) && !qK A o) || lX A o
def y5(P:P6)(ev:P2)(H:Hp)(K:AV->Prop):Op->Prop
 |.call { callee:=.value f,args,.. }=>∃r,(dp P (ev f) (args.toList.map ev) H fun r' H'=>r'=r/\H'=H)/\K r
 |.lookup t m k c=>∃r,gp P (.lookup t m k c) 0 ev H (fun r' H'=>r'=r/\H'=H)/\K r
 |_=>False
def mN(o:Oper):Bool:=match o.op with
 |.load ..=>true
 |.lookup ..=>true
 |.call { callee:=.value _,.. }=>true
 |.call { callee:=.invoke ..,.. }=>true
 |.call { callee:=.builtin .len,argTypes,.. }=>iE.contains (argTypes.toList.headD 0)
 |_=>false
def nj(A:AS)(o:Oper):Bool:=match o.op with
 |.alloc _=>true
 |.box ..=>true
 |.store ..=>!A.1.isEmpty && !A.2.2.contains 1000000
 |.call { callee:=.value _,.. }=>mc A o
 |.call { callee:=.builtin .append,.. }=>mc A o
 |.buildSlice ..=>mc A o
 |.makeSlice ..=>mc A o
 |_=>false
def np(o:Oper):Bool:=match o.op with
 |.load ..=>o.guard.isNone
 |_=>false
def c8(A:AS)(H H':Hp):Prop:=∀i r,A.1.contains i=false->H.get i=some r->H'.get i=some r\/(A.1.contains (i+16)=true/\∃t c c' cs,r=.var t (c::cs)/\H'.get i=some (.var t (c'::cs)))
def c8.refl(A:AS)(H:Hp):c8 A H H:=fun _ _ _ h=>.inl h
def c8.trans{L:AS}{A B C:Hp}(h:c8 L A B)(k:c8 L B C):c8 L A C:=fun i r ha e=>by
 rcases h i r ha e with h1|⟨h0,t,c,c',cs,rfl,h1⟩
 ·exact k i r ha h1
 ·rcases k i _ ha h1 with k1|⟨_,t',d,d',ds,e',k1⟩
  ·exact .inr ⟨h0,t,c,c',cs,rfl,k1⟩
  ·cases e';exact .inr ⟨h0,t,c,d',cs,rfl,k1⟩
theorem c8.put{A:AS}{H:Hp}{i:Nat}{r:Row}(h:H.get i=none):c8 A H (H.put i r):=fun j s _ hj=>by
 left
 rw[Hp.cf,if_neg (by rintro rfl;rw[h]at hj;cases hj)];exact hj
variable{A:AS}{i:Nat}
def c8.set{H:Hp}{r:Row}(h:A.1.contains i=true):c8 A H (H.put i r):=fun j s ha hj=>by
 left
 rw[Hp.cf,if_neg (by rintro rfl;rw[h]at ha;cases ha)];exact hj
def qI(A:AS):AV->Bool
 |.pt i _ _ j=>!A.1.contains i && (decide (1<=j) || !A.1.contains (i+16))
 |_=>true
def zp(A:AS):AV->Bool
 |.pt i _ _ _=>A.1.contains i
 |_=>false
def gB(A:AS)(ev:P2):Op->Bool
 |.load _ x=>qI A (ev x)
 |.store _ a _=>(A.1.isEmpty || A.2.2.contains 1000000) || zp A (ev a)
 |_=>true
variable{H':Hp}
def K7{H:Hp}(h:c8 A H H'){a:AV}(ha:qI A a=true){x:Prop×PW}(hc:mC H a=some x):mC H' a=some x:=by
 unfold mC at*;split at hc
 ·exact hc
 ·rename_i i m k j;have ha:A.1.contains i=false/\(1<=j\/A.1.contains (i+16)=false):=by
   simp only[qI,Bool.and_eq_true,Bool.or_eq_true,Bool.not_eq_true',decide_eq_true_eq]at ha;exact ha
  cases e:H.get i with
  |none=>rw[e]at hc;cases hc
  |some r=>
   rw[e]at hc;rcases h i r ha.1 e with h1|⟨h0,t,c,c',cs,rfl,h1⟩
   ·simp only[h1];exact hc
   ·rcases ha.2 with h2|h2
    ·obtain⟨j',rfl⟩:∃j',j=j'+1:=⟨j-1,jB⟩;simp only[h1,List.drop_succ_cons]at hc ⊢;exact hc
    ·rw[h0]at h2;cases h2
 ·cases hc
def Me{H:Hp}(h:c8 A H H'){a:AV}(ha:qI A a=true)(hq:(kL P H t a).1):kL P H' t a=kL P H t a:=by
 unfold kL at*;cases e:mC H a with
 |none=>rw[e]at hq;exact hq.elim
 |some x=>rw[K7 h ha e]
def eJ(P:P6)(ev:P2)(H:Hp)(ty:P1)(K:PT)(op:Op):Prop:=if mw op then(vq P ev H op).1/\K (vq P ev H op).2 H else match op with
 |.buildSlice t n parts=>mb P t n (parts.toList.map fun p=>(p.1,ev p.2)) fun r=>K r H
 |op=>vc P ev H ty K op
def Nx{ev:P2}(t:P1)(n:Nat)(parts:Array (Nat×Operand)):eJ P ev H ty K (.buildSlice t n parts)=mb P t n (parts.toList.map fun p=>(p.1,ev p.2)) fun r=>K r H:=rfl
def Cq{ev:P2}{op:Op}(h1:¬mw op=true)(h2:¬oT op=true):eJ P ev H ty K op=vc P ev H ty K op:=by unfold eJ;rw[if_neg h1];cases op<;>first|rfl|(exact(h2 rfl).elim)
def og(P:P6)(A:AS)(ev:P2)(H:Hp)(K:PT):Op->Prop
 |.call { callee:=.value f,args,.. }=>dp P (ev f) (args.toList.map ev) H fun r H'=>c8 A H H'/\K r H'
 |.buildSlice t n parts=>lu P H t n (parts.toList.map fun p=>(p.1,ev p.2)) fun r H'=>c8 A H H'/\K r H'
 |.makeSlice t l c=>gp P (.makeSlice t l c) 0 ev H fun r H'=>c8 A H H'/\K r H'
 |.call { callee:=.builtin .append,args,argTypes }=>vc P ev H 0 (fun r H'=>c8 A H H'/\K r H') (.call ⟨.builtin .append,args,argTypes⟩)
 |_=>False
def eH(A:AS)(P:P6)(ops:Array Oper)(K:PS):List Oper->PS
 |[],F,H=>K F H
 |o::rest,F,H=>match o.guard with
  |none=>if qK A o=true then y5 P (bw F) H (fun r=>eH A P ops K rest (bO F o.dst r) H) o.op else if mc A o=true then og P A (bw F) H (fun r H'=>eH A P ops K rest (bO F o.dst r) H') o.op else gB A (bw F) o.op=true/\eJ P (bw F) H o.type (fun r H'=>eH A P ops K rest (bO F o.dst r) H') o.op
  |some (j,want)=>match jV ops F j want with
   |some b=>if lX A o=true then(b=true->eO F o.op=true/\og P A (bA F) H (fun r H'=>eH A P ops K rest (bO F o.dst r) H') o.op)/\(b=false->eH A P ops K rest (bO F o.dst (.gd false (.raw (.bool false)))) H)
    else(fV o.op || fN o.op)=true/\dR P F H b (fun r=>eH A P ops K rest (bO F o.dst r) H) o.op
   |none=>False
def Nt(ts:List P1)(args:PW)(h:iE.contains (ts.headD 0)=false):jU P H .len ts args=jU P H' .len ts args:=by
 unfold jU;cases ts with
 |nil=>rfl
 |cons t ts=>
  cases args with
  |nil=>rfl
  |cons x l=>
   show pc P H t x=pc P H' t x;unfold pc;have h:iE.contains t=false:=h;have hn:¬(iE.contains t=true):=by rw[h];exact Bool.false_ne_true
   cases x with
   |raw v=>cases v<;>rfl
   |mr i=> show(if iE.contains t=true then _ else dJ)=(if iE.contains t=true then _ else dJ);rw[if_neg hn,if_neg hn]
   |_=>rfl
variable{o:Oper}
def vz{ev:P2}(h:mN o=false):vq P ev H o.op=vq P ev H' o.op:=by
 obtain⟨dst,op,ty,pos,after,guard⟩:=o;cases op<;>first
  |rfl
  |(simp[mN]at h;done)
  |skip
 rename_i c;obtain⟨callee,args,ts⟩:=c;cases callee
 case builtin b=>
  cases b
  case len=>exact Nt _ _ h
  all_goals(simp only[vq];unfold jU;generalize ts.toList=a;generalize args.toList.map ev=b;cases a<;>cases b<;>rfl)
 all_goals rfl
variable{F:PW}
def O2{g:Bool}{K:AV->Prop}(h:mN o=false):dR P F H g K o.op=dR P F H' g K o.op:=by
 have hc:fV o.op=false:=by
  obtain⟨dst,op,ty,pos,after,guard⟩:=o;cases op<;>first
   |rfl
   |(rename_i c;obtain⟨callee,args,ts⟩:=c;cases callee<;>first|rfl|simp[mN]at h)
 by_cases hp:tp o.op=true
 ·obtain⟨dst,op,ty,pos,after,guard⟩:=o;cases op<;>first|(cases hp;done)|rfl|(rename_i c;obtain⟨callee,args,ts⟩:=c;cases callee<;>first|(cases hp;done)|simp[mN]at h)
 have hp:tp o.op=false:=by simpa using hp
 rw[uS _ hc hp,uS _ hc hp,vz h]
def E3{ev:P2}{o:Op}(h:cP o=true):vc P ev H ty K o=((vq P ev H o).1/\K (vq P ev H o).2 H):=by
 cases o
 case binOp op t x y t'=>cases op<;>first|(simp[cP]at h;done)|simp[vc,cP]
 case call c=>
  obtain⟨callee,args,ts⟩:=c;cases callee
  case builtin b=>cases b<;>first|(simp[cP]at h;done)|simp[vc,cP]
  all_goals(simp[cP]at h;done)
 all_goals first
  |(simp[cP]at h;done)
  |simp[vc,cP]
def BZ{K:PS}{rest:List Oper}(h:eH A P ops K (o::rest) F H) :
  (lR A o=true/\∀G,ug ops o F G->k8 P ops o G H fun G' H'=>(nj A o=true->c8 A H H')/\∃r,G'=bO G o.dst r/\eH A P ops K rest (bO F o.dst r) H')\/
  (lR A o=false/\∃r,QV P ops o F H r/\(mN o=false->∀H',QV P ops o F H' r)/\(np o=true->∀H',c8 A H H'->QV P ops o F H' r)/\eH A P ops K rest (bO F o.dst r) H):=by
 unfold eH at h;split at h
 ·rename_i hg;by_cases S0:qK A o=true
  ·rw[if_pos S0]at h;refine .inr ⟨by simp[lR,lX,hg,S0],?_⟩;obtain⟨dst,op,ty,pos,after,guard⟩:=o;simp only at hg;subst hg;cases op<;>first|exact h.elim|skip
   case call=>
    rename_i c;obtain⟨callee,args,ts⟩:=c;cases callee<;>first|exact h.elim|skip
    obtain⟨r,h1,h2⟩:=h;exact⟨r,D9 h1,fun hd=>by simp[mN]at hd,fun S1=>by simp[np]at S1,h2⟩
   case lookup=>
    rename_i t m k c;obtain⟨r,h1,h2⟩:=h;refine⟨r,fun G hG=>?_,fun hd=>by simp[mN]at hd,fun S1=>by simp[np]at S1,h2⟩;refine oi (K:=fun F' H'=>F'=bO G dst r/\H'=H) rfl ?_;rw[tV _ hG.1];have e:∀K:PT,vc P (bw F) H ty K (.lookup t m k c)=gp P (.lookup t m k c) ty (bw F) H K:=fun K=>by simp[vc,cP]
    show vc P (bw F) H ty _ (.lookup t m k c);rw[e];intro w ρ dst' pos' after' guard' g1 g2;obtain⟨w',H',r',hk,g⟩:=h1 w ρ dst' pos' after' guard' g1 g2;exact⟨w',H',r',⟨by rw[hk.1],hk.2⟩,g⟩
  rw[if_neg S0]at h;by_cases Tq:mc A o=true
  ·rw[if_pos Tq]at h;have S0:qK A o=false:=by simpa using S0
   obtain⟨dst,op,ty,pos,after,guard⟩:=o;simp only at hg;subst hg;cases op
   case call=>
    rename_i c _;obtain⟨callee,args,ts⟩:=c;cases callee
    case value f _=> refine .inl ⟨by simp[lR,cP,mw,oT,S0],fun G hG=>?_⟩;refine oi rfl ?_;rw[tV _ hG.1];exact wb (f:=bw F f) (args:=args.toList.map (bw F)) h fun r H' hk=>⟨fun _=>hk.1,r,rfl,hk.2⟩
    case builtin bi _=>
     cases bi
     case append=> refine .inl ⟨by simp[lR,cP,mw,oT,S0],fun G hG=>?_⟩;refine oi rfl ?_;rw[tV _ hG.1];exact B0 (K:=fun r H'=>c8 A H H'/\eH A P ops K rest (bO F dst r) H') (.call ⟨.builtin .append,args,ts⟩) (fun r H' hk=>⟨fun _=>hk.1,r,rfl,hk.2⟩) h
     all_goals exact h.elim
    all_goals exact h.elim
   case buildSlice=> refine .inl ⟨by simp[lR,cP,mw,oT,S0,Tq],fun G hG=>?_⟩;refine oi rfl ?_;rw[tV _ hG.1];exact D2 h fun r H' hk=>⟨fun _=>hk.1,r,rfl,hk.2⟩
   case makeSlice=>
    rename_i t l c _;refine .inl ⟨by simp[lR,cP,mw,oT,S0],fun G hG=>?_⟩;refine oi rfl ?_;rw[tV _ hG.1];have e:∀K:PT,vc P (bw F) H ty K (.makeSlice t l c)=gp P (.makeSlice t l c) ty (bw F) H K:=fun K=>by simp[vc,cP]
    show vc P (bw F) H ty _ (.makeSlice t l c);rw[e];intro w ρ dst' pos' after' guard' h1 h2;obtain⟨w',H',r,hk,g⟩:=h w ρ dst' pos' after' guard' h1 h2;exact⟨w',H',r,⟨fun _=>hk.1,r,rfl,hk.2⟩,g⟩
   all_goals exact h.elim
  rw[if_neg Tq]at h;obtain⟨hA,h⟩:=h;by_cases he:mw o.op=true
  ·unfold eJ at h;rw[if_pos he]at h;exact .inr ⟨by simp[lR,lX,hg,he],_,tQ hg h.1,fun hd H'=>by rw[vz hd];exact tQ hg (by rw[<-vz (H:=H) hd];exact h.1),fun S1=>by obtain⟨dst,op,ty,pos,after,guard⟩:=o;cases op<;>first|(simp[mw]at he;done)|(simp[np]at S1;done),h.2⟩
  ·by_cases hl:oT o.op=true
   ·refine .inr ⟨by simp[lR,lX,hg,hl,Tq],?_⟩;obtain⟨dst,op,ty,pos,after,guard⟩:=o;simp only at hg;subst hg;cases op<;>first|(simp[oT]at hl;done)|skip
    rename_i t n parts;rw[Nx]at h;obtain⟨r,h1,h2⟩:=yN h;exact⟨r,yD (h2 _ rfl),fun _ H'=>yD (h2 _ rfl),fun S1=>by simp[np]at S1,h1⟩
   ·rw[Cq he hl]at h;by_cases hq:cP o.op=true
    ·have h':(vq P (bw F) H o.op).1/\eH A P ops K rest (bO F o.dst (vq P (bw F) H o.op).2) H:=by
      rw[E3 hq]at h;exact h
     refine .inr ⟨by simp[lR,lX,hg,hq],_,tQ hg h'.1,fun hd H'=>by rw[vz hd];exact tQ hg (by rw[<-vz (H:=H) hd];exact h'.1),fun S1 H' P'=>?_,h'.2⟩;obtain⟨dst,op,ty,pos,after,guard⟩:=o;cases op<;>first|(simp[np]at S1;done)|skip
     rename_i t a;have e:vq P (bw F) H' (.load t a)=vq P (bw F) H (.load t a):=Me P' hA h'.1;have:=tQ (P:=P) (ops:=ops) (H:=H') (o:=⟨dst,.load t a,ty,pos,after,guard⟩) (F:=F) hg (by rw[e];exact h'.1);rw[e]at this;exact this
    ·refine .inl ⟨by simp[lR,lX,hg];simp at hq he hl S0;exact⟨⟨⟨hq,he⟩,.inl hl⟩,S0⟩,fun G hG=>?_⟩;refine oi hg ?_;rw[tV o.op hG.1];by_cases RP:nj A o=true
     ·obtain⟨dst,op,ty,pos,after,guard⟩:=o;cases op<;>first|(simp[nj]at RP;done)|(exact(Tq RP).elim)|skip
      case call c=>
       obtain⟨callee,args,ts⟩:=c;cases callee
       case builtin bi=>cases bi<;>first|(exact(Tq RP).elim)|(simp[nj]at RP;done)
       all_goals first|(exact(Tq RP).elim)|(simp[nj]at RP;done)
      case alloc t=>
       simp only[vc,ll]at h ⊢;split at h
       ·obtain⟨i,h2,h3⟩:=h;exact⟨i,h2,fun _=>c8.put h2,_,rfl,h3⟩
       ·exact h.elim
      case box t x=>obtain⟨h1,i,h2,h3⟩:=h;exact⟨h1,i,h2,fun _=>c8.put h2,_,rfl,h3⟩
      case store t a x=>
       simp only[nj,Bool.and_eq_true,Bool.not_eq_true']at RP;simp only[gB,RP.1,RP.2,Bool.false_or]at hA;simp only[vc,qa]at h ⊢;split at h
       ·rename_i i m k j n ha hn;have hi:A.1.contains i=true:=by rw[ha]at hA;exact hA
        split at h
        ·rename_i r hr;obtain⟨h1,h2⟩:=h;exact⟨h1,fun _=>c8.set hi,_,rfl,h2⟩
        ·exact h.elim
       ·exact h.elim
     ·exact B0 o.op (fun r H' hk=>⟨fun Xo=>(RP Xo).elim,r,rfl,hk⟩) h
 ·rename_i j want hg;split at h
  ·rename_i b hb;by_cases TU:lX A o=true
   ·rw[if_pos TU]at h;refine .inl ⟨by simp[lR,TU],fun G hG=>?_⟩;obtain⟨dst,op,ty,pos,after,guard⟩:=o;simp only at hg;subst hg;have hc:fV op=true:=by unfold lX at TU;simp only[Bool.and_eq_true]at TU;exact TU.2
    cases op<;>first|(cases hc;done)|skip
    rename_i c;obtain⟨callee,args,ts⟩:=c;cases callee<;>first|(cases hc;done)|skip
    rename_i f;have RV:∀x∈(Op.call ⟨.value f,args,ts⟩).operands.toList,bw G x=bw F x:=hG.1;have Yl:=hG.2 j want rfl;rw[hb]at Yl;have Ym:∀x∈(Op.call ⟨.value f,args,ts⟩).operands.toList,bA G x=bA F x:=fun x hx=>by unfold bA;rw[RV x hx]
    refine na rfl Yl (fun Qz w tm Q next h1 h2 hn=>?_) (fun Qz=>⟨.gd false (.raw (.bool false)),oQ rfl,⟨fun _=>c8.refl _ _,_,rfl,h.2 Qz⟩⟩);obtain⟨ok,Qq⟩:=h.1 Qz;have ok:eO G (.call ⟨.value f,args,ts⟩)=true:=by unfold eO at ok ⊢;rw[List.all_eq_true]at ok ⊢;exact fun x hx=>by rw[RV x hx];exact ok x hx
    have SH:=oe ok;have e1:ja G f=bA F f:=(SH f (by simp[Op.operands,Call.operands])).trans (Ym f (by simp[Op.operands,Call.operands]));have e2:args.toList.map (ja G)=args.toList.map (bA F):=List.map_congr_left fun x hx=>(SH x (by simp[Op.operands,Call.operands]at hx ⊢;exact .inr hx)).trans (Ym x (by simp[Op.operands,Call.operands]at hx ⊢;exact .inr hx))
    refine ui (ev:=ja G) e1 e2 Qq h1 (qB h2) fun v r' w' H' hR g1 g2 g3=>?_
    rw[Act.put_eq];exact hn _ w' _ H' ⟨fun _=>hR.1,r',rfl,hR.2⟩ g1 ((h2.ext g3).put dst g2 []) g3
   rw[if_neg TU]at h;obtain⟨hq,hv⟩:=h;obtain⟨r,h1,h2⟩:=BB hv;have h3:=h2 F (fun r'=>r'=.gd b r) (fun _ _=>rfl) rfl;exact .inr ⟨by simp[lR,hg,TU],_,Aq hg hb hq h3,fun hd H'=>Aq hg hb hq (by rw[O2 hd]at h3;exact h3),(fun S1=>by
    unfold np at S1;split at S1
    ·rw[hg]at S1;cases S1
    ·cases S1),h1⟩
  ·exact h.elim
def dm(l:List Oper)(i:Nat):Oper:=l.getD i default
def j0(A:AS)(l:List Oper)(i:Nat):Bool:=lR A (dm l i)
def p7(A:AS)(E:PZ)(l:List Oper)(ps:List PZ):PZ->PZ->Bool
 |done,[]=>(List.range l.length).all fun i=>done.contains i
 |done,i::rest=>((ps.getD i []).all fun k=>done.contains k) && !done.contains i && decide (i<l.length) &&
   (!j0 A l i || ((rest.all fun k=>(ps.getD k []).contains i || E.contains k) && done.all fun q=>j0 A l q || !mN (dm l q) || (ps.getD i []).contains q || (nj A (dm l i) && np (dm l q)))) && p7 A E l ps (i::done) rest
def o7(A:AS)(E:PZ)(l:List Oper)(ord:PZ):Bool:=re l && p7 A E l (iX l) [] ord && E.all fun i=>!qK A (dm l i) && !mc A (dm l i)
def mem(done:PZ)(i:Nat):Bool:=done.contains i
variable{l:List Oper}{done:PZ}
def qP{E:PZ}{rest:PZ}(h:p7 A E l (iX l) done (i::rest)=true) :
  (∀k∈(iX l).getD i [],k∈done)/\i ∉ done/\i<l.length/\(j0 A l i=true->(∀k∈rest,i∈(iX l).getD k []\/k∈E)/\∀q∈done,j0 A l q=true\/mN (dm l q)=false\/q∈(iX l).getD i []\/(nj A (dm l i)=true/\np (dm l q)=true))/\p7 A E l (iX l) (i::done) rest=true:=by
 simp only[p7,Bool.and_eq_true,List.all_eq_true,List.contains_iff_mem,Bool.not_eq_true',decide_eq_true_eq,Bool.or_eq_true]at h;obtain⟨⟨⟨⟨h1,h2⟩,h3⟩,h4⟩,h5⟩:=h;refine⟨h1,by simpa using h2,h3,fun he=>?_,h5⟩;rcases h4 with h4|h4
 ·rw[he]at h4;cases h4
 ·exact⟨h4.1,fun q hq=>by
   rcases h4.2 q hq with((h|h)|h)|h
   ·exact .inl h
   ·exact .inr (.inl h)
   ·exact .inr (.inr (.inl h))
   ·exact .inr (.inr (.inr h))⟩
theorem LM{A:AS}{E:PZ}{l:List Oper}:∀{rest done:PZ},p7 A E l (iX l) done rest=true->∀e∈rest,j0 A l e=true->∀q∈done,j0 A l q=true\/mN (dm l q)=false\/q∈(iX l).getD e []\/(nj A (dm l e)=true/\np (dm l q)=true)
 |[],_,_=>fun e he=>by simp at he
 |i::rest,done,h=>fun e he Ts q hq=>by
  obtain⟨_,_,_,h4,h5⟩:=qP h;rcases List.mem_cons.1 he with rfl|he
  ·exact(h4 Ts).2 q hq
  ·exact LM h5 e he Ts q (List.mem_cons_of_mem _ hq)
theorem Af{A:AS}{E:PZ}{l:List Oper}:∀{rest done:PZ},p7 A E l (iX l) done rest=true->∀i,i<l.length->i∈done\/i∈rest
 |[],done,h=>fun i hi=>by simp only[p7,List.all_eq_true,List.mem_range,List.contains_iff_mem]at h;exact .inl (h i hi)
 |j::rest,done,h=>fun i hi=>by
  obtain⟨_,_,_,_,h5⟩:=qP h;rcases Af h5 i hi with h|h
  ·rcases List.mem_cons.1 h with rfl|h
   ·exact .inr jE
   ·exact .inl h
  ·exact .inr (List.mem_cons_of_mem _ h)
def kF:mem done i=true<->i∈done:=by simp[mem]
def zL(done:PZ)(i:Nat):(fun k=>mem (i::done) k)=fun k=>mem done k || k == i:=by
 funext k
 rw[Bool.eq_iff_iff];simp[mem,or_comm]
def wz(ho:l[i]?=some o){e:Edge}(he:e∈o.after.toList)(hb:Region.binds .any e=true):e.on∈(iX l).getD i []:=by rw[DW ho,yz];exact List.mem_flatMap.2 ⟨e,List.mem_filter.2 ⟨he,hb⟩,jE⟩
theorem EB{os:List Oper}{rs F:PW}{L L':P5}{s:Nat}(h:∀k o,os[k]?=some o->o.dst=some s->L k=L' k):∀m,j1 os rs L F s m=j1 os rs L' F s m
 |0=>rfl
 |m+1=>by
  unfold j1;rw[EB h m];cases ho:os[m]? with
  |none=>simp
  |some o=>
   simp only[Option.bind_some];by_cases hd:o.dst=some s
   ·rw[h m o ho hd]
   ·simp[hd]
theorem pe{os:List Oper}{rs F:PW}{L:P5}{i:Nat}{r:AV}(hL:L i=false):∀m,FL os (rs.set i r) L F m=FL os rs L F m
 |0=>rfl
 |m+1=>by
  unfold FL;rw[pe hL m];by_cases hm:m=i
  ·subst hm;simp[hL]
  ·have:(rs.set i r).getD m .any=rs.getD m .any:=by simp[List.getElem?_set,Ne.symm hm]
   rw[this]
section
variable {l:List Oper}(Qd:∀j o,l[j]?=some o->∀e∈o.after.toList,Region.binds .any e=true->e.on<j)
 (Qi:∀i j a b,i<j->l[i]?=some a->l[j]?=some b->rY l a b=true->i∈(iX l).getD j [])
include Qd Qi
variable{L:P5}
theorem AA(Sq:l5 l L){i:Nat}{o:Oper}(ho:l[i]?=some o)(Uj:L i=false)(Q1:∀e∈o.after.toList,Region.binds .any e=true->L e.on=true) :
  ∀k o' s,l[k]?=some o'->o'.dst=some s->(s∈looks l o\/o.dst=some s)->L k=decide (k<i):=by
 intro k o' s hk hs SJ;have Qu:=sx Sq Qd (i+1) i jB o ho Q1;rcases Nat.lt_trichotomy k i with h|h|h
 ·rw[decide_eq_true h];refine Qu k (Qi k i o' o h hk ho ?_);unfold rY;rw[hs];rcases SJ with h5|h5
  ·simp[h5]
  ·simp[h5]
 ·subst h;simpa using Uj
 ·rw[decide_eq_false jB];cases hv:L k with
  |false=>rfl
  |true=>
   have RY:i∈(iX l).getD k []:=Qi i k o o' h ho hk (by
    unfold rY;rw[hs];rcases SJ with h5|h5
    ·simp[h5]
    ·simp[h5])
   have:=sx Sq Qd (k+1) k jB o' hk (fun e he hb=>Sq k o' hk hv e he hb) i RY;rw[Uj]at this;cases this
theorem Fu{rs F:PW}{L':P5}(hL:l5 l L)(Sc:l5 l L'){i:Nat}{o:Oper}(ho:l[i]?=some o)(h1:L i=false)(h2:L' i=false)
  (h3:∀e∈o.after.toList,Region.binds .any e=true->L e.on=true) (h4:∀e∈o.after.toList,Region.binds .any e=true->L' e.on=true):ug l.toArray o (FL l rs L F l.length) (FL l rs L' F l.length):=by
 refine FF (by rw[j4,j4]) fun s hs g'=>?_
 rw[j4]at g';rw[qw _ _ _ _ g',qw _ _ _ _ g'];exact(EB (fun k o' hk hd=>by rw[AA Qd Qi hL ho h1 h3 k o' s hk hd (.inl hs),AA Qd Qi Sc ho h2 h4 k o' s hk hd (.inl hs)]) _).symm
theorem sy{rs F:PW}{L2:P5}(hL:l5 l L){i:Nat}{o:Oper}(ho:l[i]?=some o)(h1:L i=false)(h3:∀e∈o.after.toList,Region.binds .any e=true->L e.on=true){r:AV}(hr:rs.getD i .any=r)(Sk:∀k,L2 k=(L k || k == i)) :
  bO (FL l rs L F l.length) o.dst r=FL l rs L2 F l.length:=by
 have RI:=(List.getElem?_eq_some_iff.1 ho).1;refine GK (m':=0) (L':=fun _=>true) (by cases o.dst<;>simp[bO,j4]) fun s hs=>?_
 by_cases hd:o.dst=some s
 ·rw[Ax (L:=L) ho Sk (fun k o' hk Vf=>AA Qd Qi hL ho h1 h3 k o' s hk Vf (.inr hd)) hd _ RI,hd,hr];simp[bO,j4,hs]
 ·rw[zf (L:=L) ho Sk hd,<-qw _ _ _ _ hs];cases Vf:o.dst with
  |none=>rfl
  |some d=>
   have:d≠s:=fun e=>hd (by rw[Vf,e])
   simp[bO,List.getElem?_set,this]
end
structure Inv(A:AS)(E:List Nat)(P:Program)(l:List Oper)(K:List AV->Hp->Prop)(F:List AV)(L:Nat->Bool)(done rest:List Nat)(rs:List AV)(H:Hp):Prop where
 len:rs.length=l.length
 sub:∀i,L i=true->i∈done\/i∈E
 dW:l5 l L
 ji:l5 l (mem done)
 ord:p7 A E l (iX l) done rest=true
 walk:eH A P l.toArray K (rest.map (dm l)) (FL l rs (mem done) F l.length) H
 wait:∀i∈done,L i=false->j0 A l i=false/\i<l.length/\∃D,l5 l D/\D i=false/\(∀k,D k=true->k∈done)/\(∀e∈(dm l i).after.toList,Region.binds .any e=true->D e.on=true)/\
  QV P l.toArray (dm l i) (FL l rs D F l.length) H (rs.getD i .any)/\(mN (dm l i)=false->∀H',QV P l.toArray (dm l i) (FL l rs D F l.length) H' (rs.getD i .any))/\(np (dm l i)=true->∀H',c8 A H H'->QV P l.toArray (dm l i) (FL l rs D F l.length) H' (rs.getD i .any))
def xB(hi:i<l.length):l[i]?=some (dm l i):=by simp[dm,hi]
def nc(P:P6)(l:List Oper):PZ->Prop
 |[]=>True
 |i::E=>(match (dm l i).op with|.alloc t=>(dU P t).isSome=true|_=>False)/\(dm l i).guard=none/\nc P l E
theorem yi{P:P6}{l:List Oper}:∀{E:PZ},nc P l E->∀i∈E,∃t zs,(dm l i).op=.alloc t/\dU P t=some zs/\(dm l i).guard=none
 |[],_,i,hi=>by simp at hi
 |j::E,h,i,hi=>by
  obtain⟨h1,h2,h3⟩:=h;rcases List.mem_cons.1 hi with rfl|hi
  ·split at h1
   ·rename_i t e;obtain⟨zs,hz⟩:=Option.isSome_iff_exists.1 h1;exact⟨t,zs,e,hz,h2⟩
   ·exact h1.elim
  ·exact yi h3 i hi
def Ae(A:AS)(P:P6)(l:List Oper)(E:PZ):Prop:=nc P l E/\∀i∈E,qK A (dm l i)=false/\mc A (dm l i)=false
def OW{P:P6}{E:PZ}(h:Ae A P l E)(hi:i∈E):j0 A l i=true/\nj A (dm l i)=true:=by obtain⟨t,zs,e,_,hg⟩:=yi h.1 i hi;simp[j0,lR,nj,e,hg,cP,mw,oT,(h.2 i hi).1]
def Hid(P:P6)(l:List Oper)(L:P5)(done:PZ)(rs:PW)(w0 w:NW)(β:Nat->Nat):Prop:=∀i,L i=true->i ∉ done->
 (∃t cur,(dm l i).op=.alloc t/\dU P t=some cur.toList/\rs.getD i .any=.raw (.pointer (some ⟨β i,0,none⟩))/\w.heap[β i]?=some (.cells cur t (0,0))/\w.O (β i)/\w0.heap.size<=β i/\β i<w.heap.size/\∀j m t s,w.nm j m≠some (.at (β i) t s))/\∀j,L j=true->j ∉ done->β i=β j->i=j
def Hid.ext{P:P6}{L:P5}{rs:PW}{w0 w w':NW}{β:Nat->Nat}{H:Hp}(h:Hid P l L done rs w0 w β)(e:Ext w H w' H'):Hid P l L done rs w0 w' β:=fun i h1 h2=>by obtain⟨⟨t,cur,a1,a2,a3,a4,a5,a6,a7,a8⟩,b⟩:=h i h1 h2;obtain⟨e1,e2,e3⟩:=e.rest (β i) a7 a5 a8;exact⟨⟨t,cur,a1,a2,a3,e1.trans a4,e2,a6,Nat.lt_of_lt_of_le a7 e.size,e3⟩,b⟩
def OA{w:NW}{H:Hp}(r:aN w H){b:Nat}{cur:P3}(hi:H.get i=none)(hb:w.heap[b]?=some (.cells cur t (0,0)))(hO:w.O b)(Qd:b<w.heap.size)(Qe:∀j m t s,w.nm j m≠some (.at b t s)) :
  aN (w.name i 0 (.at b cur.size 0)) (H.put i (.var t (cur.toList.map .raw)))/\Keep rz w (w.name i 0 (.at b cur.size 0))/\az (w.name i 0 (.at b cur.size 0)) (.pt i 0 0 0) (.pointer (some ⟨b,0,none⟩)):=by
 have QP:∀j n,(w.name i 0 (.at b cur.size 0)).nm j n=if j=i/\n=0 then some (Rz.at b cur.size 0)else w.nm j n:=fun _ _=>rfl
 have kp:Keep rz w (w.name i 0 (.at b cur.size 0)):=⟨Nat.le_refl _,fun _ _ h=>⟨rfl,h⟩,fun j n z _ h=>by
  rw[QP,if_neg]
  ·exact h
  ·rintro⟨rfl,rfl⟩;rw[r.none hi]at h;cases h⟩
 refine⟨{ rows:=fun j s hj=>?_,dS:=fun j n z hz=>?_,inj:=fun j n j' n' b' t1 s1 t2 s2 h1 h2=>?_,own:=fun j n b' t1 s1 h=>?_,fin:=r.fin,ci:=r.ci.bS kp },kp,?_⟩
 ·rw[Hp.cf]at hj;split at hj
  ·rename_i e;subst e;cases hj;refine⟨trivial,.at b cur.size 0,by rw[QP];exact if_pos ⟨rfl,rfl⟩,rfl,cur,hb,⟨rfl,by show(cur.toList.map AV.raw).length<=_;simp⟩,fun k a v ha hv=>?_⟩;have ha:(cur.toList.map AV.raw)[k]?=some a:=ha;simp only[List.getElem?_map,Array.getElem?_toList,hv,Option.map_some,Option.some.injEq]at ha;subst ha;exact .raw _
  ·rename_i e;obtain⟨h1,z,h2,h3⟩:=r.rows j s hj;refine⟨h1,z,by rw[QP,if_neg (fun h=>e h.1)];exact h2,?_⟩;cases z with
   |nil=>exact h3
   |«at» b' t' st=> obtain⟨g1,Ry,g2,g3,g5⟩:=h3;exact⟨g1,Ry,g2,g3,fun k a v ha hv=>(g5 k a v ha hv).bS kp (lW a)⟩
 ·rw[QP]at hz;rw[Hp.cf];split at hz
  ·rename_i e;exact⟨_,by rw[if_pos e.1],by rw[e.2];exact Nat.zero_le _⟩
  ·obtain⟨r',h1,h2⟩:=r.dS j n z hz;have e:j≠i:=fun e=>by subst e;rw[hi]at h1;cases h1
   exact⟨r',by rw[if_neg e];exact h1,h2⟩
 ·rw[QP]at h1 h2;split at h1<;>split at h2
  ·rename_i e1 e2;rw[e1.1,e2.1]
  ·cases h1;exact(Qe _ _ _ _ h2).elim
  ·cases h2;exact(Qe _ _ _ _ h1).elim
  ·exact r.inj _ _ _ _ _ _ _ _ _ h1 h2
 ·rw[QP]at h;split at h
  ·cases h;exact hO
  ·exact r.own _ _ _ _ _ h
 ·have:=az.pt (w:=w.name i 0 (.at b cur.size 0)) i 0 0 0 b cur.size 0 (NW.cd _ _ _ _);simpa using this
def HW{w0 w:NW}{H0 H:Hp}(e:Ext w0 H0 w H)(r:aN w H){b sz:Nat}(hi:H.get i=none)(hb:w0.heap.size<=b)(hB:H'.B=H.B):Ext w0 H0 (w.name i 0 (.at b sz 0)) H':={
 size:=e.size,free:=e.free
 names:=fun j n z hq h=>by
  have:=e.names j n z hq h;show(if j=i/\n=0 then _ else _)=_;rw[if_neg]
  ·exact this
  ·rintro⟨rfl,rfl⟩;rw[r.none hi]at this;cases this
 os:=e.os,tape:=e.tape,output:=e.output
 rest:=fun c hc hO Qe=>by
  obtain⟨e1,e2,e3⟩:=e.rest c hc hO Qe;refine⟨e1,e2,fun j n t s h=>?_⟩;have h:(if j=i/\n=0 then some (Rz.at b sz 0)else w.nm j n)=some (.at c t s):=h;split at h
  ·cases h;omega
  ·exact e3 _ _ _ _ h
 base:=hB.trans e.base }
theorem EG{os:List Oper}{rs F:PW}{L:P5}{i:Nat}{r:AV}:∀(m:Nat) (s:Nat) (a:AV),(FL os (rs.set i r) L F m)[s]?=some a->(FL os rs L F m)[s]?=some a\/(a=r/\(FL os rs L F m)[s]?=some (rs.getD i .any)/\i<rs.length)
 |0=>fun s a h=>.inl h
 |m+1=>fun s a h=>by
  have ih:=EG (os:=os) (rs:=rs) (F:=F) (L:=L) (i:=i) (r:=r) m;have hl:(FL os (rs.set i r) L F m).length=(FL os rs L F m).length:=by rw[j4,j4]
  unfold FL at h ⊢;cases hL:L m with
  |false=>simp only[hL,Bool.false_eq_true,if_false]at h ⊢;exact ih s a h
  |true=>
   simp only[hL,if_true]at h ⊢;cases hd:(os[m]?).bind (·.dst)with
   |none=>rw[hd]at h;exact ih s a h
   |some d=>
    rw[hd]at h;simp only[bO]at h ⊢;rw[List.getElem?_set]at h ⊢;by_cases e:d=s
    ·subst e;simp only[if_true]at h ⊢;rw[hl]at h;split at h
     ·rename_i Qd;rw[if_pos Qd];simp only[Option.some.injEq]at h;by_cases hm:i=m
      ·subst hm;by_cases hi:i<rs.length
       ·refine .inr ⟨?_,rfl,hi⟩;rw[<-h];simp[hi]
       ·refine .inl ?_;rw[<-h];simp[hi,List.getElem?_set]
      ·refine .inl ?_;rw[<-h];simp[List.getElem?_set,hm]
     ·cases h
    ·simp only[if_neg e]at h ⊢;exact ih s a h
section
variable {A:AS}{E:PZ}{l:List Oper}{K:PS}{F:PW}(hok:re l=true)(hE:Ae A P l E)
include hok
variable{done:PZ}{i:Nat}
theorem zA(hi:i<l.length)(hd:l5 l (mem done))(hp:∀k∈(iX l).getD i [],k∈done):l5 l (mem (i::done)):=fun j o ho hj e he hb=>by
 rw[kF]at hj ⊢;rcases List.mem_cons.1 hj with rfl|hj
 ·exact List.mem_cons_of_mem _ (hp _ (wz ho he hb))
 ·exact List.mem_cons_of_mem _ (kF.1 (hd j o ho (kF.2 hj) e he hb))
include hE
theorem zu:∀(rest:PZ) {L:P5} {done:PZ} {rs:PW},Inv A E P l K F L done rest rs H->
  ∃done' Rf QR,Inv A E P l K F L done' Rf QR H/\(∀i r,Rf=i::r->j0 A l i=true)/\FL l QR L F l.length=FL l rs L F l.length/\Rf.length<=rest.length/\(∀w0 w β,Hid P l L done rs w0 w β->Hid P l L done' QR w0 w β)
 |[],L,done,rs,h=>⟨done,[],rs,h,(fun i r e=>by cases e),rfl,Nat.le_refl _,fun _ _ _ h=>h⟩
 |i::rest,L,done,rs,h=>by
  obtain⟨Qd,Qi⟩:=sr hok;cases he:j0 A l i with
  |true=>exact⟨done,i::rest,rs,h,fun j r e=>by cases e;exact he,rfl,Nat.le_refl _,fun _ _ _ h=>h⟩
  |false=>
   obtain⟨hp,V7,RI,_,h5⟩:=qP h.ord;have ho:=xB RI;have hw:=h.walk;rw[List.map_cons]at hw;rcases BZ hw with⟨hx,_⟩|⟨_,r,q1,q2,q2',q3⟩
   ·unfold j0 at he;rw[he]at hx;cases hx
   have Vg:mem done i=false:=by rw[<-Bool.not_eq_true,kF];exact V7
   have Vh:L i=false:=by
    cases e:L i with
    |false=>rfl
    |true=>
     rcases h.sub i e with h6|h6
     ·exact(V7 h6).elim
     ·rw[(OW (A:=A) hE h6).1]at he;cases he
   have Q1:∀e∈(dm l i).after.toList,Region.binds .any e=true->mem done e.on=true:=fun e he hb=>kF.2 (hp _ (wz ho he hb))
   have N':∀D:P5,(∀k,D k=true->k∈done)->FL l (rs.set i r) D F l.length=FL l rs D F l.length:=fun D hD=>pe (by
    cases e:D i with
    |false=>rfl
    |true=>exact(V7 (hD i e)).elim) _
   have Qo:(rs.set i r).getD i .any=r:=by simp[h.len,RI]
   have QD:∀j,j≠i->(rs.set i r).getD j .any=rs.getD j .any:=fun j hj=>by simp[List.getElem?_set,Ne.symm hj]
   have Te:=sy (rs:=rs.set i r) (F:=F) Qd Qi h.ji ho Vg Q1 Qo (L2:=mem (i::done)) (fun k=>by rw[show mem (i::done) k=(fun k=>mem (i::done) k) k from rfl,zL]);rw[N' _ (fun k hk=>kF.1 hk)]at Te;have hinv:Inv A E P l K F L (i::done) rest (rs.set i r) H:=by
    refine⟨by simpa using h.len,fun k hk=>(h.sub k hk).imp_left (List.mem_cons_of_mem _),h.dW,zA hok RI h.ji hp,h5,by rw[<-Te];exact q3,fun j hj RZ=>?_⟩;rcases List.mem_cons.1 hj with rfl|hj
    ·exact⟨he,RI,mem done,h.ji,Vg,fun k hk=>List.mem_cons_of_mem _ (kF.1 hk),Q1,by rw[N' _ (fun k hk=>kF.1 hk),Qo];exact q1,fun hd H'=>by rw[N' _ (fun k hk=>kF.1 hk),Qo];exact q2 hd H',fun hd H' P'=>by rw[N' _ (fun k hk=>kF.1 hk),Qo];exact q2' hd H' P'⟩
    ·obtain⟨w1,w2,D,w3,w4,w5,w6,w7,w8,w9⟩:=h.wait j hj RZ;have Sl:j≠i:=fun e=>V7 (e ▸ hj)
     exact⟨w1,w2,D,w3,w4,fun k hk=>List.mem_cons_of_mem _ (w5 k hk),w6,by rw[N' _ w5,QD j Sl];exact w7,fun hd H'=>by rw[N' _ w5,QD j Sl];exact w8 hd H',fun hd H' P'=>by rw[N' _ w5,QD j Sl];exact w9 hd H' P'⟩
   obtain⟨d',r',QR,g1,g2,g3,g4,g5⟩:=zu rest hinv;refine⟨d',r',QR,g1,g2,by rw[g3,pe Vh],by simp;omega,fun w0 w β hh=>g5 w0 w β fun k Qt Qf=>?_⟩;have RY:k≠i:=fun e=>Qf (by simp[e])
   obtain⟨a,b⟩:=hh k Qt fun Tf=>Qf (List.mem_cons_of_mem _ Tf)
   rw[QD k RY];exact⟨a,fun j TG Tt=>b j TG fun YW=>Tt (List.mem_cons_of_mem _ YW)⟩
variable{L:P5}{rest:PZ}
theorem B3{L2:P5}{rs:PW}{r:AV}{H':Hp}(h:Inv A E P l K F L done (i::rest) rs H)(Ts:j0 A l i=true)(Sk:∀k,L2 k=(L k || k == i))(Tg:nj A (dm l i)=true->c8 A H H')
  (Qu:∀k∈(iX l).getD i [],L k=true):∀j∈i::done,L2 j=false->j0 A l j=false/\j<l.length/\∃D,l5 l D/\D j=false/\(∀k,D k=true->k∈i::done)/\(∀e∈(dm l j).after.toList,Region.binds .any e=true->D e.on=true)/\
  QV P l.toArray (dm l j) (FL l (rs.set i r) D F l.length) H' ((rs.set i r).getD j .any)/\(mN (dm l j)=false->∀QK,QV P l.toArray (dm l j) (FL l (rs.set i r) D F l.length) QK ((rs.set i r).getD j .any))/\(np (dm l j)=true->∀QK,c8 A H' QK->QV P l.toArray (dm l j) (FL l (rs.set i r) D F l.length) QK ((rs.set i r).getD j .any)):=by
 intro j hj RZ;obtain⟨hp,QD,S2,h4,h5⟩:=qP h.ord;have N':∀D:P5,(∀k,D k=true->k∈done)->FL l (rs.set i r) D F l.length=FL l rs D F l.length:=fun D hD=>pe (by
  cases e:D i with
  |false=>rfl
  |true=>exact(QD (hD i e)).elim) _
 have Xp:∀j,j≠i->(rs.set i r).getD j .any=rs.getD j .any:=fun j hj=>by simp[List.getElem?_set,Ne.symm hj]
 rw[Sk]at RZ;obtain⟨RZ,Sl⟩:=Bool.or_eq_false_iff.1 RZ;have Sl:j≠i:=by simpa using Sl
 have hj:j∈done:=by rcases List.mem_cons.1 hj with e|h;exact(Sl e).elim;exact h
 obtain⟨w1,w2,D,w3,w4,w5,w6,w7,w8,w9⟩:=h.wait j hj RZ;have Xq:QV P l.toArray (dm l j) (FL l rs D F l.length) H' (rs.getD j .any):=by
  rcases(h4 Ts).2 j hj with h6|h6|h6|h6
  ·rw[w1]at h6;cases h6
  ·exact w8 h6 H'
  ·have:=Qu j h6;rw[RZ]at this;cases this
  ·exact w9 h6.2 H' (Tg h6.1)
 refine⟨w1,w2,D,w3,w4,fun k hk=>List.mem_cons_of_mem _ (w5 k hk),w6,by rw[N' _ w5,Xp j Sl];exact Xq,fun hd QK=>by rw[N' _ w5,Xp j Sl];exact w8 hd QK,fun hd QK P'=>?_⟩;rw[N' _ w5,Xp j Sl];rcases(h4 Ts).2 j hj with h6|h6|h6|h6
 ·rw[w1]at h6;cases h6
 ·exact w8 h6 QK
 ·have:=Qu j h6;rw[RZ]at this;cases this
 ·exact w9 h6.2 QK ((Tg h6.1).trans P')
theorem settle{w0:NW}{H0:Hp}:∀(n:Nat) {L:P5} {done rest:PZ} {rs:PW} {H:Hp} {w:NW} {tm:P3} {β:Nat->Nat},rest.length<=n->Inv A E P l K F L done rest rs H->aN w H->bU w (FL l rs L F l.length) tm->Ext w0 H0 w H->Hid P l L done rs w0 w β->
  ∃done' Rf QR H' w',NW.toWorld w'=w.toWorld/\Inv A E P l K F L done' Rf QR H'/\(∀i r,Rf=i::r->j0 A l i=true/\L i=false)/\aN w' H'/\bU w' (FL l QR L F l.length) tm/\Ext w0 H0 w' H'/\Hid P l L done' QR w0 w' β
 |n,L,done,rest,rs,H,w,tm,β,hn,h,h1,h2,h3,h4=>by
  obtain⟨Qd,Qi⟩:=sr hok;obtain⟨d',r',QR,g1,g2,g3,g4,g5⟩:=zu hok hE rest h;have g5:=g5 _ _ _ h4;rw[<-g3]at h2;cases r' with
  |nil=>exact⟨d',[],QR,H,w,rfl,g1,(fun i r e=>by cases e),h1,h2,h3,g5⟩
  |cons i r=>
   have Ts:=g2 i r rfl;cases Vh:L i with
   |false=>exact⟨d',i::r,QR,H,w,rfl,g1,(fun j q e=>by cases e;exact⟨Ts,Vh⟩),h1,h2,h3,g5⟩
   |true=>
    obtain⟨hp,QD,S2,c4,c5⟩:=qP g1.ord;obtain⟨⟨t,cur,a1,a2,a3,a4,a5,a6,a7,a8⟩,a9⟩:=g5 i Vh QD;have VJ:i∈E:=(g1.sub i Vh).resolve_left QD;have TU:(dm l i).guard=none:=by obtain⟨_,_,_,_,hg⟩:=yi hE.1 i VJ;exact hg
    have hw:=g1.walk;rw[List.map_cons]at hw;unfold eH at hw;rw[TU]at hw;simp only at hw;rw[if_neg (by rw[(hE.2 i VJ).1];exact Bool.false_ne_true),if_neg (by rw[(hE.2 i VJ).2];exact Bool.false_ne_true)]at hw;obtain⟨_,hw⟩:=hw;rw[a1,Cq (by simp[mw]) (by simp[oT])]at hw;simp only[vc,ll,a2]at hw;obtain⟨id,hid,hv⟩:=hw;have ho:=xB S2;obtain⟨k1,k2,k3⟩:=OA h1 hid a4 a5 a7 a8;have Vg:mem d' i=false:=by rw[<-Bool.not_eq_true,kF];exact QD
    have Rs:∀e∈(dm l i).after.toList,Region.binds .any e=true->mem d' e.on=true:=fun e he hb=>kF.2 (hp _ (wz ho he hb))
    have Qo:(QR.set i (.pt id 0 0 0)).getD i .any=.pt id 0 0 0:=by simp[g1.len,S2]
    have N':∀D:P5,(∀k,D k=true->k∈d')->FL l (QR.set i (.pt id 0 0 0)) D F l.length=FL l QR D F l.length:=fun D hD=>pe (by
     cases e:D i with
     |false=>rfl
     |true=>exact(QD (hD i e)).elim) _
    have Rw:=sy (rs:=QR.set i (.pt id 0 0 0)) (F:=F) Qd Qi g1.ji ho Vg Rs Qo (L2:=mem (i::d')) (fun k=>by rw[show mem (i::d') k=(fun k=>mem (i::d') k) k from rfl,zL]);rw[N' _ (fun k hk=>kF.1 hk)]at Rw;have Qu:∀k∈(iX l).getD i [],L k=true:=sx g1.dW Qd (i+1) i jB _ ho fun e he hb=>g1.dW i _ ho Vh e he hb
    have hinv:Inv A E P l K F L (i::d') r (QR.set i (.pt id 0 0 0)) (H.put id (.var t (cur.toList.map .raw))):=
     ⟨by simpa using g1.len,fun k hk=>(g1.sub k hk).imp_left (List.mem_cons_of_mem _),g1.dW,zA hok S2 g1.ji hp,c5,by rw[<-Rw];exact hv,
      B3 hok hE g1 Ts (fun k=>by
       by_cases e:k=i
       ·subst e;simp[Vh]
       ·simp[e]) (fun _=>c8.put hid) Qu⟩
    have Qk:bU (w.name id 0 (.at (β i) cur.size 0)) (FL l (QR.set i (.pt id 0 0 0)) L F l.length) tm:=by
     refine⟨by rw[j4];have:=h2.1;rw[j4]at this;exact this,fun s a v ha Qm=>?_⟩;rcases EG l.length s a ha with h6|⟨rfl,h6,_⟩
     ·exact(h2.2 s a v h6 Qm).bS k2 (lW a)
     ·have:=h2.2 s _ v h6 Qm;rw[a3]at this;have:=di this;subst this;exact k3
    have Uu:Hid P l L (i::d') (QR.set i (.pt id 0 0 0)) w0 (w.name id 0 (.at (β i) cur.size 0)) β:=fun k Qt Qf=>by
     have RY:k≠i:=fun e=>Qf (by simp[e])
     have Tf:k ∉ d':=fun e=>Qf (List.mem_cons_of_mem _ e)
     obtain⟨⟨t',Ry,b1,b2,b3,b4,b5,b6,b7,b8⟩,b9⟩:=g5 k Qt Tf;refine⟨⟨t',Ry,b1,b2,by rw[<-b3];simp[List.getElem?_set,Ne.symm RY],b4,b5,b6,b7,fun j m t1 s1 hh=>?_⟩,fun j TG Tt=>b9 j TG fun e=>Tt (List.mem_cons_of_mem _ e)⟩;have hh:(if j=id/\m=0 then some (Rz.at (β i) cur.size 0)else w.nm j m)=some (.at (β k) t1 s1):=hh;split at hh
     ·simp only[Option.some.injEq,Rz.at.injEq]at hh;exact RY (a9 k Qt Tf hh.1).symm
     ·exact b8 _ _ _ _ hh
    simp only[List.length_cons]at g4;obtain⟨n,rfl⟩:∃k,n=k+1:=⟨n-1,jB⟩;obtain⟨d2,r2,rs2,H2,w2,x1,x2,x3,x4,x5,x6,x7⟩:=settle n jB hinv k1 Qk (HW h3 h1 hid a6 rfl) Uu;exact⟨d2,r2,rs2,H2,w2,x1,x2,x3,x4,x5,x6,x7⟩
theorem LH{rs:PW}(h:Inv A E P l K F L done rest rs H)(hs:∀i r,rest=i::r->j0 A l i=true/\L i=false){o:Oper}(ho:l[i]?=some o)(hi:L i=false)(Q1:∀e∈o.after.toList,Region.binds .any e=true->L e.on=true)
  {L2:P5} (Sk:∀k,L2 k=(L k || k == i)) (Xr:i∈done\/i ∉ E\/∃r,rest=i::r) :
  k8 P l.toArray o (FL l rs L F l.length) H fun G' H'=>∃done' Rf QR,Inv A E P l K F L2 done' Rf QR H'/\G'=FL l QR L2 F l.length/\∀w0 w β,Hid P l L done rs w0 w β->Hid P l L2 done' QR w0 w β:=by
 obtain⟨Qd,Qi⟩:=sr hok;have RI:=(List.getElem?_eq_some_iff.1 ho).1;obtain rfl:o=dm l i:=by have:=(xB RI).symm.trans ho;cases this;rfl
 have Th:l5 l L2:=fun j o' hj RZ e he hb=>by
  rw[Sk]at RZ ⊢;rcases Bool.or_eq_true_iff.1 RZ with h6|h6
  ·rw[h.dW j o' hj h6 e he hb];rfl
  ·obtain rfl:j=i:=by simpa using h6
   rw[ho]at hj;cases hj;rw[Q1 e he hb];rfl
 by_cases hd:i∈done
 ·obtain⟨w1,w2,D,w3,w4,w5,w6,w7,w8,w9⟩:=h.wait i hd hi;refine(w7 _ (Fu Qd Qi w3 h.dW ho w4 hi w6 Q1)).mono ?_;rintro G' H' ⟨rfl,rfl⟩;refine⟨done,rest,rs,⟨h.len,fun k hk=>?_,Th,h.ji,h.ord,h.walk,fun j hj RZ=>h.wait j hj ?_⟩,sy Qd Qi h.dW ho hi Q1 rfl Sk,fun w0 w β hh k Qt Qf=>?_⟩
  ·rw[Sk]at hk;rcases Bool.or_eq_true_iff.1 hk with h6|h6
   ·exact h.sub k h6
   ·obtain rfl:k=i:=by simpa using h6
    exact .inl hd
  ·rw[Sk]at RZ;exact(Bool.or_eq_false_iff.1 RZ).1
  ·have Ul:∀k,L2 k=true->k ∉ done->L k=true:=fun k h1 h2=>by
    rw[Sk]at h1;rcases Bool.or_eq_true_iff.1 h1 with h6|h6
    ·exact h6
    ·obtain rfl:k=i:=by simpa using h6
     exact(h2 hd).elim
   obtain⟨a,b⟩:=hh k (Ul k Qt Qf) Qf;exact⟨a,fun j TG Tt=>b j (Ul j TG Tt) Tt⟩
 ·-- the next effect
  have RO:i∈rest:=(Af h.ord i RI).resolve_left hd;obtain⟨e,Rf,rfl⟩:∃e r,rest=e::r:=by cases rest with|nil=>simp at RO|cons e r=>exact⟨e,r,rfl⟩
  obtain⟨Ts,YX⟩:=hs e Rf rfl;obtain⟨hp,QD,S2,h4,h5⟩:=qP h.ord;have Qu:=sx h.dW Qd (i+1) i jB _ ho Q1;obtain rfl:i=e:=by
   rcases List.mem_cons.1 RO with h|hr
   ·exact h
   ·rcases(h4 Ts).1 i hr with h6|h6
    ·have:=Qu e h6;rw[YX]at this;cases this
    ·rcases Xr with h7|h7|⟨r,h7⟩
     ·exact(hd h7).elim
     ·exact(h7 h6).elim
     ·cases h7;rfl
  have Vg:mem done i=false:=by rw[<-Bool.not_eq_true,kF];exact QD
  have Rs:∀e∈(dm l i).after.toList,Region.binds .any e=true->mem done e.on=true:=fun e he hb=>kF.2 (hp _ (wz ho he hb))
  have hw:=h.walk;rw[List.map_cons]at hw;obtain⟨_,hx⟩:=(BZ hw).resolve_right fun⟨hx,_⟩=>by unfold j0 at Ts;rw[Ts]at hx;cases hx
  refine(hx _ (Fu Qd Qi h.ji h.dW ho Vg hi Rs Q1)).mono ?_;rintro G' H' ⟨Tg,r,rfl,hv⟩;have N':∀D:P5,(∀k,D k=true->k∈done)->FL l (rs.set i r) D F l.length=FL l rs D F l.length:=fun D hD=>pe (by
   cases e:D i with
   |false=>rfl
   |true=>exact(QD (hD i e)).elim) _
  have Qo:(rs.set i r).getD i .any=r:=by simp[h.len,RI]
  have Rw:=sy (rs:=rs.set i r) (F:=F) Qd Qi h.ji ho Vg Rs Qo (L2:=mem (i::done)) (fun k=>by rw[show mem (i::done) k=(fun k=>mem (i::done) k) k from rfl,zL]);rw[N' _ (fun k hk=>kF.1 hk)]at Rw;have S3:=sy (rs:=rs.set i r) (F:=F) Qd Qi h.dW ho hi Q1 Qo Sk;rw[pe hi]at S3;refine⟨i::done,Rf,rs.set i r,⟨by simpa using h.len,fun k hk=>?_,Th,zA hok RI h.ji hp,h5,by rw[<-Rw];exact hv,B3 hok hE h Ts Sk Tg Qu⟩,S3,fun w0 w β hh k Qt Qf=>?_⟩
  ·rw[Sk]at hk;rcases Bool.or_eq_true_iff.1 hk with h6|h6
   ·exact(h.sub k h6).imp_left (List.mem_cons_of_mem _)
   ·obtain rfl:k=i:=by simpa using h6
    simp
  ·have Ul:∀k,L2 k=true->k ∉ i::done->L k=true/\k ∉ done/\k≠i:=fun k h1 h2=>by
    rw[Sk]at h1;simp only[List.mem_cons,not_or]at h2;rcases Bool.or_eq_true_iff.1 h1 with h6|h6
    ·exact⟨h6,h2.2,h2.1⟩
    ·exact(h2.1 (by simpa using h6)).elim
   obtain⟨y1,y2,y3⟩:=Ul k Qt Qf;obtain⟨⟨t,cur,b1,b2,b3,b4⟩,b⟩:=hh k y1 y2;exact⟨⟨t,cur,b1,b2,by rw[<-b3];simp[List.getElem?_set,Ne.symm y3],b4⟩,fun j TG Tt=>b j (Ul j TG Tt).1 (Ul j TG Tt).2.1⟩
theorem HI{rs:PW}(h:Inv A E P l K F L done rest rs H){o:Oper}(ho:l[i]?=some o)(hi:L i=false)(hd:i ∉ done)(VJ:i∈E)(Q1:∀e∈o.after.toList,Region.binds .any e=true->L e.on=true)
  {L2:P5} (Sk:∀k,L2 k=(L k || k == i)) {w0 w:NW} {H0:Hp} {tm:P3} {β:Nat->Nat} (h1:aN w H) (h2:bU w (FL l rs L F l.length) tm) (h3:Ext w0 H0 w H) (h4:Hid P l L done rs w0 w β) {Q:Exit->Act->World->Prop} {next:Act->World->Prop}
  (hn:∀Qv w' QR β',Inv A E P l K F L2 done rest QR H->aN w' H->bU w' (FL l QR L2 F l.length) Qv->Ext w0 H0 w' H->Hid P l L2 done QR w0 w' β'->next ⟨Qv,[]⟩ w'.toWorld):qf P l.toArray Q o next ⟨tm,[]⟩ w.toWorld:=by
 obtain⟨Qd,Qi⟩:=sr hok;have RI:=(List.getElem?_eq_some_iff.1 ho).1;obtain rfl:o=dm l i:=by have:=(xB RI).symm.trans ho;cases this;rfl
 obtain⟨t,zs,e1,e2,e3⟩:=yi hE.1 i VJ;obtain⟨z,C',rfl⟩:=wJ (w:=w.toWorld) e2;have Th:l5 l L2:=fun j o' hj RZ e he hb=>by
  rw[Sk]at RZ ⊢;rcases Bool.or_eq_true_iff.1 RZ with h6|h6
  ·rw[h.dW j o' hj h6 e he hb];rfl
  ·obtain rfl:j=i:=by simpa using h6
   rw[ho]at hj;cases hj;rw[Q1 e he hb];rfl
 have Qo:(rs.set i (.raw (.pointer (some ⟨w.heap.size,0,none⟩)))).getD i .any=.raw (.pointer (some ⟨w.heap.size,0,none⟩)):=by simp[h.len,RI]
 have QD:∀j,j≠i->∀r:AV,(rs.set i r).getD j .any=rs.getD j .any:=fun j hj r=>by simp[List.getElem?_set,Ne.symm hj]
 have N':∀(r:AV) (D:P5),(∀k,D k=true->k∈done)->FL l (rs.set i r) D F l.length=FL l rs D F l.length:=fun r D hD=>pe (by
  cases e:D i with
  |false=>rfl
  |true=>exact(hd (hD i e)).elim) _
 have S3:=sy (rs:=rs.set i (.raw (.pointer (some ⟨w.heap.size,0,none⟩)))) (F:=F) Qd Qi h.dW ho hi Q1 Qo Sk;rw[pe hi]at S3;have ex:Ext w H ((w.to (w.alloc (.cells z.cells t))).fg w.heap.size) H:={
  size:=by show w.heap.size<=(w.alloc _).heap.size;simp
  free:=fun b hb hn=>⟨RowKit.Below.heap_alloc w.toWorld _ b hb,fun h=>by
   rcases h with h|h
   ·omega
   ·exact hn h⟩
  names:=fun _ _ _ _ h=>h
  os:=rfl,tape:=rfl,output:=rfl
  rest:=fun b hb hO Qe=>⟨RowKit.Below.heap_alloc w.toWorld _ b hb,.inr hO,Qe⟩
  base:=rfl }
 have hW:aN ((w.to (w.alloc (.cells z.cells t))).fg w.heap.size) H:={
  rows:=fun j row hj=>by obtain⟨g1,y,g2,g3⟩:=h1.rows j row hj;refine⟨g1,y,g2,g3.ext ex fun b t' s e=>?_⟩;subst e;exact RowKit.Below.heap_alloc w.toWorld _ b (h1.lt g2)
  dS:=h1.dS,inj:=h1.inj,ci:=h1.ci.bS ex.toKeep
  own:=fun j n b t' s hh=>.inr (h1.own j n b t' s hh)
  fin:=fun b hb=>by
   show b<(w.alloc _).heap.size;rcases hb with hh|hh
   ·subst hh;simp
   ·have:=h1.fin b hh;simp;omega }
 have Ul:∀k,L2 k=true->k≠i->L k=true:=fun k h1 h2=>by rw[Sk]at h1;exact(Bool.or_eq_true_iff.1 h1).resolve_right (by simpa using h2)
 unfold qf;rw[if_pos (by simp[Region.wanted,e3])];refine .inl ?_;have hex:(execOp (Act.mk tm []).eval (dm l i)).run P w.toWorld=.ok (.value (.pointer (some ⟨w.heap.size,0,none⟩))) (w.alloc (.cells z.cells t)):=by
  have:∀(o:Oper),o.op=.alloc t->(execOp (Act.mk tm []).eval o).run P w.toWorld=.ok (.value (.pointer (some ⟨w.heap.size,0,none⟩))) (w.alloc (.cells z.cells t)):=fun o ho=>by obtain⟨dst,op,ty,pos,after,guard⟩:=o;simp only at ho;subst ho;simp only[execOp,Sem.run_bind,Instr.alloc,C',Result.andThen_ok,newVar,newRow];simp
  exact this _ e1
 simp only[Oper.wp,hex,Oper.upon];rw[Act.put_eq];refine hn _ ((w.to (w.alloc (.cells z.cells t))).fg w.heap.size) (rs.set i (.raw (.pointer (some ⟨w.heap.size,0,none⟩)))) (fun k=>if k=i then w.heap.size else β k) ⟨by simpa using h.len,fun k hk=>?_,Th,h.ji,h.ord,by rw[N' _ _ (fun k hk=>kF.1 hk)];exact h.walk,fun j hj RZ=>?_⟩ hW ?_ (h3.trans ex) ?_
 ·rw[Sk]at hk;rcases Bool.or_eq_true_iff.1 hk with h6|h6
  ·exact h.sub k h6
  ·obtain rfl:k=i:=by simpa using h6
   exact .inr VJ
 ·rw[Sk]at RZ;obtain⟨w1,w2,D,w3,w4,w5,w6,w7,w8,w9⟩:=h.wait j hj (Bool.or_eq_false_iff.1 RZ).1;have Sl:j≠i:=fun e=>hd (e ▸ hj)
  exact⟨w1,w2,D,w3,w4,w5,w6,by rw[N' _ _ w5,QD j Sl];exact w7,fun hd H'=>by rw[N' _ _ w5,QD j Sl];exact w8 hd H',fun hd H' P'=>by rw[N' _ _ w5,QD j Sl];exact w9 hd H' P'⟩
 ·rw[<-S3];exact(h2.ext ex).put _ (.raw _) []
 ·intro k Qt Qf;by_cases RY:k=i
  ·subst RY;refine⟨⟨t,z.cells,e1,e2,by simp only[if_true];exact Qo,by simp only[if_true];exact heap_alloc_new w.toWorld _,by simp only[if_true];exact .inl rfl,by simp only[if_true];exact h3.size,by simp only[if_true];show w.heap.size<(w.alloc _).heap.size;simp,fun j m t' s hh=>?_⟩,fun j TG Tt e=>?_⟩
   ·simp only[if_true]at hh;have hh:w.nm j m=some (.at w.heap.size t' s):=hh;have:=h1.lt hh;omega
   ·by_cases V8:j=k
    ·exact V8.symm
    ·exfalso;obtain⟨⟨_,_,_,_,_,_,_,_,b7,_⟩,_⟩:=h4 j (Ul j TG V8) Tt;simp only[if_true,if_neg V8]at e;omega
  ·obtain⟨⟨t',cur,b1,b2,b3,b4,b5,b6,b7,b8⟩,b9⟩:=h4 k (Ul k Qt RY) Qf;simp only[if_neg RY];refine⟨⟨t',cur,b1,b2,by rw[QD k RY];exact b3,(RowKit.Below.heap_alloc w.toWorld _ _ b7).trans b4,.inr b5,b6,Nat.lt_of_lt_of_le b7 ex.size,b8⟩,fun j TG Tt e=>?_⟩;by_cases Sl:j=i
   ·subst Sl;simp only[if_true]at e;omega
   ·simp only[if_neg Sl]at e;exact b9 j (Ul j TG Sl) Tt e
theorem K0{Q:Exit->PS}(hQ:∀F H,K F H->Q .normal F H){H0:Hp}(w0:NW) :
  ∀(fuel:Nat) (listed:Array Bool),listed.size=l.length->(List.range l.length).countP (fun i=>!listed.getD i false)=fuel->
   ∀H done rest rs (w:NW) tm β,Inv A E P l K F (fun i=>listed.getD i false) done rest rs H->(∀i r,rest=i::r->j0 A l i=true/\listed.getD i false=false)->
    aN w H->bU w (FL l rs (fun i=>listed.getD i false) F l.length) tm->Ext w0 H0 w H->Hid P l (fun i=>listed.getD i false) done rs w0 w β->wpAny P .any l.toArray (fK Q w0 H0) fuel listed ⟨tm,[]⟩ w.toWorld:=by
 obtain⟨Qd,Qi⟩:=sr hok;have fin:∀(listed:Array Bool) H done rest rs,Inv A E P l K F (fun i=>listed.getD i false) done rest rs H->(∀i r,rest=i::r->j0 A l i=true/\listed.getD i false=false)->(∀i,i<l.length->listed.getD i false=true)->∀(w:NW) tm,aN w H->bU w (FL l rs (fun i=>listed.getD i false) F l.length) tm->Ext w0 H0 w H->fK Q w0 H0 .normal ⟨tm,[]⟩ w.toWorld:=by
  intro listed H done rest rs h hs Qp w tm h1 h2 h3;obtain rfl:rest=[]:=by
   cases rest with
   |nil=>rfl
   |cons i r=> obtain⟨_,V7,RI,_⟩:=qP h.ord;have h6:=(hs i r rfl).2;rw[Qp i RI]at h6;cases h6
  have e:FL l rs (fun i=>listed.getD i false) F l.length=FL l rs (mem done) F l.length:=by
   have gen:∀m,m<=l.length->FL l rs (fun i=>listed.getD i false) F m=FL l rs (mem done) F m:=by
    intro m;induction m with
    |zero=>intro _;rfl
    |succ m ih=> intro hm;have h4:=Qp m jB;have h5:mem done m=true:=kF.2 ((Af h.ord m jB).resolve_right jE);rw[FL,FL,ih jB,h4,h5]
   exact gen _ jl
  rw[e]at h2;exact⟨tm,_,H,w,rfl,rfl,hQ _ _ h.walk,h1,h2,h3.pm⟩
 intro fuel;induction fuel with
 |zero=>
  intro listed Qh TT H done rest rs w tm β h hs h1 h2 h3 _;have Qp:∀i,i<l.length->listed.getD i false=true:=fun i hi=>by have:=(List.countP_eq_zero.1 TT) i (List.mem_range.2 hi);simpa using this
  refine⟨?_,fin listed H done rest rs h hs Qp w tm h1 h2 h3⟩;rw[List.eq_nil_iff_forall_not_mem];intro j hj;obtain⟨Vd,o,ho,_⟩:=mem_ready.1 hj;have TF:j<l.length:=by have:=(Array.getElem?_eq_some_iff.1 ho).1;simpa using this
  have:=Qp j TF;simp[Qh,TF]at this Vd;rw[this]at Vd;cases Vd
 |succ fuel ih=>
  intro listed Qh TT H done rest rs w tm β h hs h1 h2 h3 Uu;refine⟨fun Ve=>?_,fun i hi=>?_⟩
  ·exfalso;have hex:∃i,i<l.length/\listed.getD i false=false:=by
    have Rl:0<(List.range l.length).countP (fun i=>!listed.getD i false):=jB;obtain⟨i,hi,hp⟩:=List.countP_pos_iff.1 Rl;exact⟨i,List.mem_range.1 hi,by simpa using hp⟩
   obtain⟨i,⟨hi,hf⟩,SZ⟩:=exists_least hex;have ho:l[i]?=some l[i]:=List.getElem?_eq_getElem hi;have:i∈Region.ready .any l.toArray listed:=mem_ready.2 ⟨by simp[Qh,hi]at hf ⊢;exact hf,l[i],by simp[hi],fun e he hb=>by
    have h4:=Qd i _ ho e (by simpa using he) hb;cases hv:listed.getD e.on false with
    |true=>rfl
    |false=>have:=SZ e.on ⟨jB,hv⟩;omega⟩
   rw[Ve]at this;cases this
  ·obtain⟨Sr,o,ho,Q1⟩:=mem_ready.1 hi;have SI:l[i]?=some o:=by simpa using ho
   have RI:=(List.getElem?_eq_some_iff.1 SI).1;have Uj:listed.getD i false=false:=by simp[Qh,RI]at Sr ⊢;exact Sr
   have Rs:∀e∈o.after.toList,Region.binds .any e=true->listed.getD e.on false=true:=fun e he hb=>Q1 e (by simpa using he) hb
   have Sc:∀k,(listed.setIfInBounds i true).getD k false=(listed.getD k false || k == i):=fun k=>by
    by_cases hk:k=i
    ·subst hk;simp[Qh,RI]
    ·simp[Array.getElem?_setIfInBounds_ne (Ne.symm hk),hk]
   have V9:(List.range l.length).countP (fun k=>!(listed.setIfInBounds i true).getD k false)=fuel:=by
    have:∀(n:Nat),i<n->(List.range n).countP (fun k=>!(listed.setIfInBounds i true).getD k false)+1=(List.range n).countP (fun k=>!listed.getD k false):=by
     intro n;induction n with
     |zero=>intro h;omega
     |succ n ihn=>
      intro h;rw[List.range_succ,List.countP_append,List.countP_append];by_cases hn:n=i
      ·subst hn;have:(List.range n).countP (fun k=>!(listed.setIfInBounds n true).getD k false)=(List.range n).countP (fun k=>!listed.getD k false):=by
        refine List.countP_congr fun k hk=>?_
        rw[Sc];have:k≠n:=by have:=List.mem_range.1 hk;omega
        simp[this]
       rw[this];simp only[List.countP_singleton,Sc,Uj];simp
      ·rw[<-ihn jB];simp only[List.countP_singleton,Sc];have:(n == i)=false:=by simpa using hn
       rw[this,Bool.or_false];omega
    have:=this l.length RI;omega
   have go:∀{d' r' QR H'} {w':NW} {Qv} {β'},Inv A E P l K F (fun k=>(listed.setIfInBounds i true).getD k false) d' r' QR H'->aN w' H'->bU w' (FL l QR (fun k=>(listed.setIfInBounds i true).getD k false) F l.length) Qv->Ext w0 H0 w' H'->Hid P l (fun k=>(listed.setIfInBounds i true).getD k false) d' QR w0 w' β'->
     wpAny P .any l.toArray (fK Q w0 H0) fuel (listed.setIfInBounds i true) ⟨Qv,[]⟩ w'.toWorld:=fun{d' r' QR H' w' Qv β'} k1 k2 k3 k4 k5=>by
    obtain⟨d2,r2,rs2,H2,w2,x1,x2,x3,x4,x5,x6,x7⟩:=settle hok hE r'.length jl k1 k2 k3 k4 k5;rw[<-x1];exact ih (listed.setIfInBounds i true) (by simpa using Qh) V9 H2 d2 r2 rs2 w2 Qv β' x2 x3 x4 x5 x6 x7
   unfold wpOp;rw[ho];by_cases S4:i ∉ done/\i∈E/\¬ ∃r,rest=i::r
   ·have:=HI hok hE h SI Uj S4.1 S4.2.1 Rs (L2:=fun k=>(listed.setIfInBounds i true).getD k false) Sc h1 h2 h3 Uu (Q:=fK Q w0 H0) (next:=wpAny P .any l.toArray (fK Q w0 H0) fuel (listed.setIfInBounds i true)) fun Qv w' QR β' k1 k2 k3 k4 k5=>go k1 k2 k3 k4 k5
    exact this
   ·have Xr:i∈done\/i ∉ E\/∃r,rest=i::r:=by
     by_cases a:i∈done
     ·exact .inl a
     ·by_cases b:i∈E
      ·exact .inr (.inr (Classical.byContradiction fun c=>S4 ⟨a,b,c⟩))
      ·exact .inr (.inl b)
    have Uk:=LH hok hE h hs SI Uj Rs (L2:=fun k=>(listed.setIfInBounds i true).getD k false) Sc Xr;have:=Uk w tm (fK Q w0 H0) (wpAny P .any l.toArray (fK Q w0 H0) fuel (listed.setIfInBounds i true)) h1 h2 (by rintro Qv w' F' H' ⟨d',r',QR,k1,rfl,k2⟩ g1 g2 g3;exact go k1 g1 g2 (h3.trans g3) (k2 _ _ _ (Uu.ext g3)))
    exact this
end
def xX(A:AS)(E:PZ){id:Nat}(ord:PZ){Q:Exit->PS}(hm:P.follows .mixedOrders=true)(hok:o7 A E l ord=true)(hE:nc P l E)(h:eH A P l.toArray (Q .normal) (ord.map (dm l)) F H):cz P (.region id l.toArray true) Q F H:=fun w tm h1 h2=>by
 simp only[o7,Bool.and_eq_true,List.all_eq_true,Bool.not_eq_true']at hok;obtain⟨⟨Xs,Xt⟩,YY⟩:=hok;have hE:Ae A P l E:=⟨hE,YY⟩;have hz:∀i,(Array.replicate l.toArray.size false).getD i false=false:=fun i=>by by_cases hi:i<l.length<;>simp[Array.getElem?_replicate,hi]
 refine wp_region_any hm ?_;have e0:∀(rs:PW) (L:P5),(∀i,L i=false)->FL l rs L F l.length=F:=fun rs L hL=>by
  have gen:∀m,FL l rs L F m=F:=by
   intro m;induction m with
   |zero=>rfl
   |succ m ih=>rw[FL,hL,if_neg jE,ih]
  exact gen _
 have hinv:Inv A E P l (Q .normal) F (fun i=>(Array.replicate l.toArray.size false).getD i false) [] ord (List.replicate l.length .any) H:=
  ⟨jE,(fun i hi=>by have:=(hz i).symm.trans hi;cases this),(fun j o _ hj=>by have:=(hz j).symm.trans hj;cases this),(fun j o _ hj=>by simp[mem]at hj),Xt,
   (by rw[e0 _ _ (fun i=>by simp[mem])];exact h),(fun i hi=>by simp at hi)⟩
 obtain⟨d',r',QR,k1,k2,k3,_⟩:=zu Xs hE ord hinv;refine K0 Xs hE (fun _ _ h=>h) w l.toArray.size (Array.replicate l.toArray.size false) jE (by rw[List.countP_eq_length.2 (fun i _=>by rw[hz];rfl)];simp) H d' r' QR (w.to w.drew) tm (fun _=>0) k1 (fun i r e=>⟨k2 i r e,hz i⟩) h1.drew (by rw[e0 _ _ hz];exact h2.ext (Ext.drew w H)) (Ext.drew w H) (fun i hi _=>by have:=(hz i).symm.trans hi;cases this)
end
variable{P:P6}{H:Hp}{id:Nat}{F:PW}{Q:Exit->PS}
def ED(A:AS){l:List Oper}(ord:PZ)(hm:P.follows .mixedOrders=true)(hok:o7 A [] l ord=true)(h:eH A P l.toArray (Q .normal) (ord.map (dm l)) F H):cz P (.region id l.toArray true) Q F H:=xX A [] ord hm hok trivial h
def Jz{l:List Oper}(ord:PZ)(hm:P.follows .mixedOrders=true)(hok:o7 ([],[],[]) [] l ord=true)(h:eH ([],[],[]) P l.toArray (Q .normal) (ord.map (dm l)) F H):cz P (.region id l.toArray true) Q F H:=ED ([],[],[]) ord hm hok h
section
variable {P:P6}{ev:P2}{H:Hp}{ty:P1}{K:PT}
@[go_sem] def j4N:(∀(x:Operand),eJ P ev H ty K (.move x)=vc P ev H ty K (.move x))/\(∀(x:Operand),eJ P ev H ty K (.assign x)=vc P ev H ty K (.assign x))/\(∀(c a b:Operand),eJ P ev H ty K (.pick c a b)=vc P ev H ty K (.pick c a b))/\(∀(x:Operand),eJ P ev H ty K (.nilCheck x)=vc P ev H ty K (.nilCheck x))/\(∀(op:UnOp) (t:P1) (x:Operand),eJ P ev H ty K (.unOp op t x)=vc P ev H ty K (.unOp op t x))/\(∀(t:P1) (x:Operand),eJ P ev H ty K (.load t x)=vc P ev H ty K (.load t x))/\(∀(t:P1) (x:Operand) (f:Nat),eJ P ev H ty K (.fieldAddr t x f)=vc P ev H ty K (.fieldAddr t x f))/\(∀(t:P1) (x:Operand) (f:Nat),eJ P ev H ty K (.field t x f)=vc P ev H ty K (.field t x f))/\(∀(t:P1) (x i:Operand),eJ P ev H ty K (.indexAddr t x i)=vc P ev H ty K (.indexAddr t x i))/\(∀(t:P1) (x i:Operand),eJ P ev H ty K (.index t x i)=vc P ev H ty K (.index t x i))/\(∀(x:Operand) (i:Nat),eJ P ev H ty K (.extract x i)=vc P ev H ty K (.extract x i))/\(∀(t:P1) (a:Operand) (lo hi mx:Option Operand),eJ P ev H ty K (.slice t a lo hi mx)=vc P ev H ty K (.slice t a lo hi mx))/\(∀(fn:Fn) (a b:Array Operand),eJ P ev H ty K (.makeFunc fn a b)=vc P ev H ty K (.makeFunc fn a b))/\(∀(t:P1) (ps:Array (Nat×Operand)),eJ P ev H ty K (.build t ps)=vc P ev H ty K (.build t ps))/\(∀(as:Array Operand) (ts:Array P1),eJ P ev H ty K (.call ⟨.builtin .len,as,ts⟩)=vc P ev H ty K (.call ⟨.builtin .len,as,ts⟩))/\(∀(as:Array Operand) (ts:Array P1),eJ P ev H ty K (.call ⟨.builtin .min,as,ts⟩)=vc P ev H ty K (.call ⟨.builtin .min,as,ts⟩)):=by and_intros<;>(intros;rfl)
@[go_sem] def j6m:(∀(t:P1) (x y:Operand) (t':P1),eJ P ev H ty K (.binOp .add t x y t')=vc P ev H ty K (.binOp .add t x y t'))/\(∀(t:P1) (x y:Operand) (t':P1),eJ P ev H ty K (.binOp .sub t x y t')=vc P ev H ty K (.binOp .sub t x y t'))/\(∀(t:P1) (x y:Operand) (t':P1),eJ P ev H ty K (.binOp .lss t x y t')=vc P ev H ty K (.binOp .lss t x y t'))/\(∀(t:P1) (x y:Operand) (t':P1),eJ P ev H ty K (.binOp .leq t x y t')=vc P ev H ty K (.binOp .leq t x y t'))/\(∀(t:P1) (x y:Operand) (t':P1),eJ P ev H ty K (.binOp .geq t x y t')=vc P ev H ty K (.binOp .geq t x y t')):=by and_intros<;>(intros;rfl)
@[go_sem] def j6o(t:P1)(x y:Operand)(t':P1):eJ P ev H ty K (.binOp .eql t x y t')=((dX P .eql t (ev x) (ev y)).1/\K (dX P .eql t (ev x) (ev y)).2 H):=by simp[eJ,mw,vq]
@[go_sem] def j6u(t:P1)(x y:Operand)(t':P1):eJ P ev H ty K (.binOp .neq t x y t')=((dX P .neq t (ev x) (ev y)).1/\K (dX P .neq t (ev x) (ev y)).2 H):=by simp[eJ,mw,vq]
@[go_sem] def j6n:(∀(t:P1) (x:Operand),eJ P ev H ty K (.box t x)=vc P ev H ty K (.box t x))/\(∀(t:P1),eJ P ev H ty K (.alloc t)=vc P ev H ty K (.alloc t))/\(∀(t:P1) (a x:Operand),eJ P ev H ty K (.store t a x)=vc P ev H ty K (.store t a x))/\(∀(t:P1) (n:Nat) (ps:Array (Nat×Operand)),eJ P ev H ty K (.buildSlice t n ps)=mb P t n (ps.toList.map fun p=>(p.1,ev p.2)) fun r=>K r H)/\(∀(f:Operand) (as:Array Operand) (ts:Array P1),eJ P ev H ty K (.call ⟨.value f,as,ts⟩)=vc P ev H ty K (.call ⟨.value f,as,ts⟩))/\(∀(f:Operand) (m:String) (as:Array Operand) (ts:Array P1),eJ P ev H ty K (.call ⟨.invoke f m,as,ts⟩)=vc P ev H ty K (.call ⟨.invoke f m,as,ts⟩))/\(∀(t:P1) (a x:Operand),eJ P ev H ty K (.call ⟨.builtin .append,#[a,x],#[t,t]⟩)=vc P ev H ty K (.call ⟨.builtin .append,#[a,x],#[t,t]⟩)):=by and_intros<;>(intros;rfl)
end
variable{C D:PZ}
@[go_sem] def j4z{ev:P2}(op:Op):gB ([],C,D) ev op=true:=by cases op<;>first|rfl|(rename_i t x;simp only[gB];generalize ev x=a;cases a<;>first|rfl|simp[qI])
variable{A:AS}
@[go_sem] def j2A{ev:P2}(t:P1)(x:Operand):gB A ev (.load t x)=qI A (ev x):=(rfl)
@[go_sem] def j0Y{ev:P2}(t:P1)(a x:Operand):gB A ev (.store t a x)=((A.1.isEmpty || A.2.2.contains 1000000) || zp A (ev a)):=(rfl)
@[go_sem] def j1w(A:AS)(i m k j:Nat):qI A (.pt i m k j)=(!A.1.contains i && (decide (1<=j) || !A.1.contains (i+16))):=(rfl)
@[go_sem] def j1v:(∀(A:AS) (cs:PW),qI A (.ip cs)=true)/\(∀(A:AS) (i m k j:Nat),zp A (.pt i m k j)=A.1.contains i)/\(∀{A:AS} {ev:P2} (x:Operand),gB A ev (.move x)=true)/\(∀{A:AS} {ev:P2} (x:Operand),gB A ev (.assign x)=true)/\(∀{A:AS} {ev:P2} (c a b:Operand),gB A ev (.pick c a b)=true)/\(∀{A:AS} {ev:P2} (x:Operand),gB A ev (.nilCheck x)=true)/\(∀{A:AS} {ev:P2} (op:UnOp) (t:P1) (x:Operand),gB A ev (.unOp op t x)=true)/\(∀{A:AS} {ev:P2} (op:BinOp) (t:P1) (x y:Operand) (t':P1),gB A ev (.binOp op t x y t')=true)/\(∀{A:AS} {ev:P2} (t:P1) (x:Operand) (f:Nat),gB A ev (.fieldAddr t x f)=true)/\(∀{A:AS} {ev:P2} (t:P1) (x:Operand) (f:Nat),gB A ev (.field t x f)=true)/\(∀{A:AS} {ev:P2} (t:P1) (x i:Operand),gB A ev (.indexAddr t x i)=true)/\(∀{A:AS} {ev:P2} (t:P1) (x i:Operand),gB A ev (.index t x i)=true)/\(∀{A:AS} {ev:P2} (x:Operand) (i:Nat),gB A ev (.extract x i)=true)/\(∀{A:AS} {ev:P2} (t:P1) (ps:Array (Nat×Operand)),gB A ev (.build t ps)=true)/\(∀{A:AS} {ev:P2} (c:Call),gB A ev (.call c)=true)/\(∀{A:AS} {ev:P2} (t:P1),gB A ev (.alloc t)=true):=by and_intros<;>(intros;rfl)
@[go_sem] def j4y:(∀{A:AS} {ev:P2} (t:P1) (x:Operand),gB A ev (.box t x)=true)/\(∀{A:AS} {ev:P2} (t:P1) (n:Nat) (ps:Array (Nat×Operand)),gB A ev (.buildSlice t n ps)=true)/\(∀{A:AS} {P:P6} {ops:Array Oper} {K:PS} (F:PW) (H:Hp),eH A P ops K [] F H=K F H):=by and_intros<;>(intros;rfl)
variable{L:PZ}{ops:Array Oper}{K:PS}
@[go_sem] def j3y(dst:Option Tmp)(op:Op)(ty:P1)(pos:String)(after:Array Edge)(rest:List Oper)(F:PW)(H:Hp) :
  eH (L,[],[]) P ops K (⟨dst,op,ty,pos,after,none⟩::rest) F H=(gB (L,[],[]) (bw F) op=true/\eJ P (bw F) H ty (AP (fun r H'=>eH (L,[],[]) P ops K rest (bO F dst r) H') .mk) op):=by
 have e:qK (L,[],[]) ⟨dst,op,ty,pos,after,none⟩=false:=by cases dst<;>rfl
 have e':mc (L,[],[]) ⟨dst,op,ty,pos,after,none⟩=false:=by cases dst<;>rfl
 unfold eH;rw[show(⟨dst,op,ty,pos,after,none⟩:Oper).guard=none from rfl];simp only[e,e'];rfl
@[go_sem] def j1l(op:Op)(ty:P1)(pos:String)(after:Array Edge)(rest:List Oper)(F:PW)(H:Hp) :
  eH (L,C,D) P ops K (⟨none,op,ty,pos,after,none⟩::rest) F H=(gB (L,C,D) (bw F) op=true/\eJ P (bw F) H ty (AP (fun r H'=>eH (L,C,D) P ops K rest (bO F none r) H') .mk) op):=(rfl)
variable{t:Nat}
@[go_sem] def j1j{c:Nat}(op:Op)(ty:P1)(pos:String)(after:Array Edge)(rest:List Oper)(F:PW)(H:Hp) :
  eH (L,c::C,D) P ops K (⟨some t,op,ty,pos,after,none⟩::rest) F H=ng ((c::C).contains t) (y5 P (bw F) H (tu (fun r=>eH (L,c::C,D) P ops K rest (bO F (some t) r) H) .mk) op)
   (ng (D.contains t) (og P (L,c::C,D) (bw F) H (AP (fun r H'=>eH (L,c::C,D) P ops K rest (bO F (some t) r) H') .mk) op) (gB (L,c::C,D) (bw F) op=true/\eJ P (bw F) H ty (AP (fun r H'=>eH (L,c::C,D) P ops K rest (bO F (some t) r) H') .mk) op) .mk .mk) .mk .mk:=(rfl)
@[go_sem] def j1k{c:Nat}(op:Op)(ty:P1)(pos:String)(after:Array Edge)(rest:List Oper)(F:PW)(H:Hp) :
  eH (L,[],c::D) P ops K (⟨some t,op,ty,pos,after,none⟩::rest) F H=ng ((c::D).contains t) (og P (L,[],c::D) (bw F) H (AP (fun r H'=>eH (L,[],c::D) P ops K rest (bO F (some t) r) H') .mk) op)
   (gB (L,[],c::D) (bw F) op=true/\eJ P (bw F) H ty (AP (fun r H'=>eH (L,[],c::D) P ops K rest (bO F (some t) r) H') .mk) op) .mk .mk:=(rfl)
@[go_sem] def j4Q:(∀{P:P6} {A:AS} {ev:P2} {H:Hp} {K:PT} (f:Operand) (as:Array Operand) (ts:Array P1),og P A ev H K (.call ⟨.value f,as,ts⟩)=dp P (ev f) (as.toList.map ev) H (AP (fun r H'=>c8 A H H'/\K r H') .mk))/\(∀{P:P6} {ev:P2} {H:Hp} {K:AV->Prop} (f:Operand) (as:Array Operand) (ts:Array P1),y5 P ev H K (.call ⟨.value f,as,ts⟩)=∃r,(dp P (ev f) (as.toList.map ev) H fun r' H'=>r'=r/\H'=H)/\K r):=by and_intros<;>(intros;rfl)
def o6(b:Bool)(X Y:Prop)(_:fz X)(_:fz Y):Prop:=(b=true->X)/\(b=false->Y)
@[go_sem] def j4J(X Y:Prop)(d:fz X)(e:fz Y):o6 true X Y d e=X:=by unfold o6;simp
@[go_sem] def j3j(X Y:Prop)(d:fz X)(e:fz Y):o6 false X Y d e=Y:=by unfold o6;simp
@[go_sem] def j1m(dst:Option Tmp)(op:Op)(ty:P1)(pos:String)(after:Array Edge)(j:Nat)(want:Bool)(rest:List Oper)(F:PW)(H:Hp) :
  eH (L,C,[]) P ops K (⟨dst,op,ty,pos,after,some (j,want)⟩::rest) F H=pu (jV ops F j want) (fun b=>(fV op || fN op)=true/\dR P F H b (tu (fun r=>eH (L,C,[]) P ops K rest (bO F dst r) H) .mk) op) .mk:=by
 have e:lX (L,C,[]) ⟨dst,op,ty,pos,after,some (j,want)⟩=false:=by unfold lX mc;cases dst<;>simp
 unfold pu;conv=>lhs;unfold eH
 simp only[e];rfl
def oX(F:PW):List Operand->Prop
 |[]=>True
 |x::l=>(jk (bw F x)).1=true/\oX F l
theorem Ek(F:PW):∀l:List Operand,((l.all fun x=>(jk (bw F x)).1)=true)=oX F l
 |[]=>by simp[oX]
 |x::l=>by have:=Ek F l;simp only[List.all_cons,Bool.and_eq_true,oX,this]
def B8(F:PW)(f:Operand)(as:Array Operand)(ts:Array P1):(eO F (.call ⟨.value f,as,ts⟩)=true)=((jk (bw F f)).1=true/\oX F as.toList):=by rw[<-Ek];unfold eO;simp[Op.operands,Call.operands]
def Au(P:P6)(A:AS)(F:PW)(H:Hp)(K:PT):Op->Prop
 |.call { callee:=.value f,args,.. }=>((jk (bw F f)).1=true/\oX F args.toList)/\dp P (bA F f) (args.toList.map (bA F)) H (AP (fun r H'=>c8 A H H'/\K r H') .mk)
 |_=>False
variable{K:PT}
@[go_sem] def j3t(f:Operand)(as:Array Operand)(ts:Array P1):Au P A F H K (.call ⟨.value f,as,ts⟩)=(((jk (bw F f)).1=true/\oX F as.toList)/\dp P (bA F f) (as.toList.map (bA F)) H (AP (fun r H'=>c8 A H H'/\K r H') .mk)):=(rfl)
def Lg{op:Op}(h:fV op=true):(eO F op=true/\og P A (bA F) H K op)=Au P A F H K op:=by
 cases op<;>first|(cases h;done)|skip
 rename_i c;obtain⟨callee,args,ts⟩:=c;cases callee<;>first|(cases h;done)|skip
 rename_i f;rw[B8];rfl
@[go_sem] def jzW{c:Nat}{K:PS}(op:Op)(ty:P1)(pos:String)(after:Array Edge)(j:Nat)(want:Bool)(rest:List Oper)(F:PW)(H:Hp) :
  eH (L,C,c::D) P ops K (⟨some t,op,ty,pos,after,some (j,want)⟩::rest) F H=pu (jV ops F j want) (fun b=>ng ((c::D).contains t && fV op)
   (o6 b (Au P (L,C,c::D) F H (AP (fun r H'=>eH (L,C,c::D) P ops K rest (bO F (some t) r) H') .mk) op) (eH (L,C,c::D) P ops K rest (bO F (some t) (.gd false (.raw (.bool false)))) H) .mk .mk)
   ((fV op || fN op)=true/\dR P F H b (tu (fun r=>eH (L,C,c::D) P ops K rest (bO F (some t) r) H) .mk) op) .mk .mk) .mk:=by
 conv=>lhs;unfold eH
 simp only;unfold pu ng o6;have TU:lX (L,C,c::D) ⟨some t,op,ty,pos,after,some (j,want)⟩=((c::D).contains t && fV op):=by unfold lX mc;simp
 cases jV ops F j want with
 |none=>rfl
 |some b=>
  simp only;rw[TU];by_cases hc:((c::D).contains t && fV op)=true
  ·rw[if_pos hc,if_pos hc];have hv:fV op=true:=by simp only[Bool.and_eq_true]at hc;exact hc.2
   rw[<-Lg hv];rfl
  ·rw[if_neg hc,if_neg hc];rfl
attribute [go_sem] oX
attribute [go_sem] dm mb nc
universe u
def au:Nat->Nat->PZ
 |_,0=>[]
 |k,n+1=>k::au (k+1) n
variable{q:Prop}
def dj(e:q:=by first|(simp(disch:=first|omega|assumption|fail) only[go_sem,qc,W,↓reduceIte,Int.reduceEq,Int.reduceLE,Int.reduceLT,Int.reduceNe,Int.reduceToNat,Nat.reduceMul,Nat.reduceAdd,Nat.reduceLeDiff,Nat.reduceSub,Nat.reduceEqDiff,Nat.reduceBEq,List.nodup_cons,List.nodup_nil,List.mem_cons,List.not_mem_nil,List.mem_nil_iff];done)|(simp(disch:=first|omega|assumption|fail) only[go_sem,qc,↓reduceIte,Int.reduceEq,Int.reduceLE,Int.reduceLT,Int.reduceNe,Int.reduceToNat,Nat.reduceMul,Nat.reduceAdd,Nat.reduceLeDiff,Nat.reduceSub,Nat.reduceEqDiff,Nat.reduceBEq,List.nodup_cons,List.nodup_nil,List.mem_cons,List.not_mem_nil,List.mem_nil_iff];done)|fail):q:=e
def ey(e:q:=by first|(simp(disch:=first|omega|assumption|fail) only[go_sem,qc,W,↓reduceIte,Int.reduceEq,Int.reduceLE,Int.reduceLT,Int.reduceNe,Int.reduceToNat,Nat.reduceMul,Nat.reduceAdd,Nat.reduceLeDiff,Nat.reduceSub,Nat.reduceEqDiff,Nat.reduceBEq,List.nodup_cons,List.nodup_nil,List.mem_cons,List.not_mem_nil,List.mem_nil_iff];rfl)|(simp(disch:=first|omega|assumption|fail) only[go_sem,qc,↓reduceIte,Int.reduceEq,Int.reduceLE,Int.reduceLT,Int.reduceNe,Int.reduceToNat,Nat.reduceMul,Nat.reduceAdd,Nat.reduceLeDiff,Nat.reduceSub,Nat.reduceEqDiff,Nat.reduceBEq,List.nodup_cons,List.nodup_nil,List.mem_cons,List.not_mem_nil,List.mem_nil_iff];rfl)|rfl|fail):q:=e
def Kq(e:q:=by first|(simp(disch:=first|omega|assumption|fail) only[go_sem,qc,W,↓reduceIte,Int.reduceEq,Int.reduceLE,Int.reduceLT,Int.reduceNe,Int.reduceToNat,Nat.reduceMul,Nat.reduceAdd,Nat.reduceLeDiff,Nat.reduceSub,Nat.reduceEqDiff,Nat.reduceBEq,List.nodup_cons,List.nodup_nil,List.mem_cons,List.not_mem_nil,List.mem_nil_iff];rfl)|(simp(disch:=first|omega|assumption|fail) only[go_sem,qc,↓reduceIte,Int.reduceEq,Int.reduceLE,Int.reduceLT,Int.reduceNe,Int.reduceToNat,Nat.reduceMul,Nat.reduceAdd,Nat.reduceLeDiff,Nat.reduceSub,Nat.reduceEqDiff,Nat.reduceBEq,List.nodup_cons,List.nodup_nil,List.mem_cons,List.not_mem_nil,List.mem_nil_iff];rfl)|fail):q:=e
def y0(e:q:=by first|(exact rJ)|rfl|fail):q:=e
@[go_sem] def jxj{α:Type}[Inhabited α](f:α->PW)(a:List α)(b:PU)(k:Nat)(h:k<a.length):(a.map f++b).getD k []=f (nth a k):=by rw[gD h,List.getD_eq_getElem?_getD,List.getElem?_append_left (by simpa using h)];simp[h]
attribute [go_sem] List.isEmpty_nil
@[congr] theorem j1B{c:Code}{F':PW}{H':Hp}(h1:F=F')(h2:H=H'):cz P c Q F H=cz P c Q F' H':=by rw[h1,h2]
def lI(p q:Prop):Prop:=q->p
section
variable {P:P6}{Q:Exit->PS}{F:PW}{H:Hp}
variable{id:Nat}{q:Prop}
def Lc{l:List Oper}(e:jT P l.toArray (Q .normal) l F H=q):lI (cz P (.region id l.toArray false) Q F H) q:=fun h=>JC (e ▸ h)
def Oq{c:Code}:lI (cz P (.block id c) Q F H) (cz P c (oS id Q) F H):=Ew
def HV(e:Q .normal F H=q):lI (cz P .skip Q F H) q:=fun h=>Gq (e ▸ h)
def MD(e:Q (.exit id) F H=q):lI (cz P (.exit id) Q F H) q:=fun h=>DJ (e ▸ h)
def HF(e:Q .ret F H=q):lI (cz P .ret Q F H) q:=fun h=>EZ (e ▸ h)
end
section
variable {P:P6}{H:Hp}{K:PT}
variable{t:P1}{q:Prop}
def JY{zs:P4}(hz:dU P t=some zs)(e:K (.pt (nx H.l) 0 0 0) (H.put (nx H.l) (.var t (zs.map .raw)))=q):lI (ll P H t K) q:=fun h=>NZ hz (e ▸ h)
def N6{x:AV}(ho:cM x.cells=true)(e:K (.pt (nx H.l) 0 0 0) (H.put (nx H.l) (.var t x.cells))=q):lI (pN H t x K) q:=fun h=>K5 ho (e ▸ h)
def Ps{A:Nat->Prop}{d:fz A}(e:A (nx H.l)=q):lI (sM H A d) q:=fun h=>Kd (e ▸ h)
def OZ{sz:Nat}(h0:0<sz)(e:K (.rs (nx H.l) 0 sz 0) (H.put (nx H.l) (.aG t sz []))=q):lI (pX t sz [] H K) q:=fun h=>JX h0 (e ▸ h)
def Nq{sz:Nat}{css:PU}(h1:aU cV css.flatten=true)(e:K (.sl true sz css []) H=q):lI (pX t sz css H K) q:=fun h=>wh h1 (e ▸ h)
def PH{a x:AV}(e:q0 P t a x H K=q):lI (pn P t t a x H K) q:=fun h=>Bd (e ▸ h)
def M7{d:fz K}{r:AV}(e:K r H=q):lI (AP K d r H) q:=fun h=>J0 (e ▸ h)
def Jr{a b:Prop}(h:a):lI (a/\b) b:=fun k=>⟨h,k⟩
end
variable{p:Prop}
def am(h:q)(e:lI p q:=by first
 |((with_reducible apply Lc);exact ey)
 |with_reducible exact Oq
 |((with_reducible apply MD);exact y0)
 |((with_reducible apply HF);exact y0)
 |((with_reducible apply HV);exact y0)
 |fail):p:=e h
def ap(h:q)(e:lI p q:=by first
 |((with_reducible apply PH);exact ey)
 |((with_reducible apply M7);exact ey)
 |((with_reducible apply OZ);(focus (exact dj));exact ey)
 |((with_reducible apply Nq);(focus (simp only[go_sem]));exact ey)
 |((with_reducible apply JY);(focus (simp only[go_sem];rfl));exact ey)
 |((with_reducible apply N6);(focus (simp only[go_sem]));exact ey)
 |((with_reducible apply Ps);exact ey)
 |((with_reducible apply Jr);first|omega|(simp +contextual;done)|(simp +contextual;intros;omega)|fail)
 |fail):p:=e h
def S(h:q)(e:p=q:=by exact Kq):p:=e ▸ h
def Sd(e:p=True:=by exact dj):p:=of_eq_true e
def ao{c:Operand}{x y:Code}{b:Bool}{pt pf:Prop}(ht:pt->cz P x Q F H)(hf:pf->cz P y Q F H)(hc:bw F c=.raw (.bool b):=by rfl)
 (et:(b=true)=pt:=by first|(simp only[Int.reduceEq,Int.reduceLE,Int.reduceLT,Int.reduceNe,false_and,and_false,true_and,and_true,or_false,false_or,true_or,or_true,Bool.false_eq_true,Bool.true_eq_false,eq_self,reduceCtorEq,Bool.not_true,Bool.not_false,Bool.and_eq_true,Bool.or_eq_true,Bool.and_eq_false_iff,Bool.or_eq_false_iff,decide_eq_true_eq,decide_eq_false_iff_not,Bool.not_eq_true',Bool.not_eq_false',Int.not_lt,Int.not_le];rfl)|rfl) (ef:(b=false)=pf:=by first|(simp only[Int.reduceEq,Int.reduceLE,Int.reduceLT,Int.reduceNe,false_and,and_false,true_and,and_true,or_false,false_or,true_or,or_true,Bool.false_eq_true,Bool.true_eq_false,eq_self,reduceCtorEq,Bool.not_true,Bool.not_false,Bool.and_eq_true,Bool.or_eq_true,Bool.and_eq_false_iff,Bool.or_eq_false_iff,decide_eq_true_eq,decide_eq_false_iff_not,Bool.not_eq_true',Bool.not_eq_false',Int.not_lt,Int.not_le];rfl)|rfl):cz P (.cond c x y) Q F H:=yu hc (fun h=>ht (et ▸ h)) (fun h=>hf (ef ▸ h))
section
variable {P:P6}{f:FuncId}{args:PW}{H:Hp}{K:PT}{q:Prop}
variable{r0:AV}
def cm{l l0:PV}(hc:af P f args l fun r l'=>r=r0/\l'=l0)(k:q)(h1:fits l H:=by exact dj)(h0:aQ P f=true:=by exact dj)(h2:aU (fun i=>(ids l).contains i) args=true:=by exact dj)(h3:pO (fun i=>(ids l).contains i) l:=by exact dj)
 (h4:fresh (ids l) H l0:=by exact dj) (h5:(ids l0).Nodup:=by exact dj) (e:K r0 ⟨H.B,jm H.l l0⟩=q:=by exact ey):dp P (.raw (.func (.func f) #[] #[])) args H K:=ko h0 (tN hc h1 h2 h3 h4 h5 (e ▸ k))
def cp(hc:aA P f args r0)(k:q)(h0:aQ P f=true:=by exact dj)(h2:aU cV args=true:=by exact dj)(e:K r0 H=q:=by exact ey):dp P (.raw (.func (.func f) #[] #[])) args H K:=ko h0 (ue hc h2 (e ▸ k))
def cg{g:Prop}{R:AV->Prop}{A:Prop}(hc:aA P f args r0)(k:q)(h0:aQ P f=true:=by exact dj)(h2:aU cV args=true:=by exact dj)(hA:g->A:=by first|exact id|(intro _;exact jI)|fail)(e:R r0=q:=by exact ey) :
  ∃r,(g->A/\dp P (.raw (.func (.func f) #[] #[])) args H fun r' H'=>r'=r/\H'=H)/\R r:=⟨r0,fun hg=>⟨hA hg,ko h0 (ue hc h2 ⟨rfl,rfl⟩)⟩,e ▸ k⟩
def ma{g:Prop}{R:AV->Prop}(hc:aA P f args r0)(k:q)(h0:aQ P f=true:=by exact dj)(h2:aU cV args=true:=by exact dj)(e:R r0=q:=by exact ey) :
  ∃r,(g->dp P (.raw (.func (.func f) #[] #[])) args H fun r' H'=>r'=r/\H'=H)/\R r:=⟨r0,fun _=>ko h0 (ue hc h2 ⟨rfl,rfl⟩),e ▸ k⟩
end
def cY.perm{B:PZ}{l:PV}(l':PV)(h:∀i,aB l i=aB l' i):cY F ⟨B,l⟩ F ⟨B,l'⟩:=fun w tm h1 h2=>by
 have hg:∀i,(Hp.mk B l').get i=(Hp.mk B l).get i:=fun i=>(h i).symm
 exact⟨w,rfl,{ rows:=fun i r hi=>h1.rows i r ((hg i) ▸ hi),dS:=fun i m z hz=>by rw[hg];exact h1.dS i m z hz,inj:=h1.inj,own:=h1.own,fin:=h1.fin,ci:=h1.ci },h2,{ ExtQ.refl _ w with base:=rfl }⟩
variable{t:P1}
def al(i:Nat){zs:P4}(k:q)(hi:H.get i=none:=by rfl)(hz:dU P t=some zs:=by(simp only[go_sem];rfl))(e:K (.pt i 0 0 0) (H.put i (.var t (zs.map .raw)))=q:=by exact ey):ll P H t K:=vS i hz hi (e ▸ k)
def bx(i:Nat){x:AV}(k:q)(hi:H.get i=none:=by rfl)(ho:cM x.cells=true:=by simp only[go_sem])(e:K (.pt i 0 0 0) (H.put i (.var t x.cells))=q:=by exact ey):pN H t x K:=wN i ho hi (e ▸ k)
def rO{α:Type}{enc:α->PW}(vars more ys:List α){i:Nat}{m sz n:Nat}{css yss:PU}(k:q)(hm:m=vars.length+more.length:=by first|rfl|(simp only[go_sem];done)|omega)(hn:n=vars.length:=by rfl)(hc:css=(vars++more).map enc:=by first|rfl|exact List.map_append.symm|(simp only[go_sem,List.map_append];done))(hy:yss=ys.map enc:=by rfl)
 (e:K (.rs i (vars.length+ys.length+(more.drop ys.length).length) sz (vars.length+ys.length)) (H.put i (.aG t sz ((vars++ys++more.drop ys.length).map enc)))=q:=by exact ey):qp i t m sz n css yss H K:=M3 vars more ys hm hn hc hy (e ▸ k)
section
variable {P:P6}{Q:Exit->PS}{F:PW}{H:Hp}
def gR{P:P6}{Q:Exit->PS}{F:PW}{H:Hp}(id:Nat){l:Array Oper}{b:Bool}(h:cz P (.region id l b) Q F H):cz P (.region id l b) Q F H:=h
variable{l:List Oper}{q:Prop}
def dE(id:Nat)(ord:PZ)(hm:P.follows .mixedOrders=true)(h:q)(hok:o7 ([],[],[]) [] l ord=true:=by decide +kernel)(e:eH ([],[],[]) P l.toArray (Q .normal) (ord.map (dm l)) F H=q:=by(simp only[au,List.map_cons,List.map_nil,dm,List.getD_cons_zero,List.getD_cons_succ];exact ey)):cz P (.region id l.toArray true) Q F H:=Jz ord hm hok (e ▸ h)
def dA(id:Nat)(A ord:PZ)(hm:P.follows .mixedOrders=true)(h:q)(hok:o7 (A,[],[]) [] l ord=true:=by decide +kernel)(e:eH (A,[],[]) P l.toArray (Q .normal) (ord.map (dm l)) F H=q:=by(simp only[au,List.map_cons,List.map_nil,dm,List.getD_cons_zero,List.getD_cons_succ];exact ey)):cz P (.region id l.toArray true) Q F H:=ED (A,[],[]) ord hm hok (e ▸ h)
def dL(id:Nat)(A E ord:PZ)(hm:P.follows .mixedOrders=true)(h:q)(hok:o7 (A,[],[]) E l ord=true:=by decide +kernel)(hE:nc P l E:=by simp only[nc,dm,List.getD_cons_zero,List.getD_cons_succ,go_sem])(e:eH (A,[],[]) P l.toArray (Q .normal) (ord.map (dm l)) F H=q:=by(simp only[au,List.map_cons,List.map_nil,dm,List.getD_cons_zero,List.getD_cons_succ];exact ey)):cz P (.region id l.toArray true) Q F H:=xX (A,[],[]) E ord hm hok hE (e ▸ h)
def dC(id:Nat)(A:AS)(E ord:PZ)(hm:P.follows .mixedOrders=true)(h:q)(hok:o7 A E l ord=true:=by decide +kernel)(hE:nc P l E:=by simp only[nc,dm,List.getD_cons_zero,List.getD_cons_succ,go_sem])(e:eH A P l.toArray (Q .normal) (ord.map (dm l)) F H=q:=by(simp only[au,List.map_cons,List.map_nil,dm,List.getD_cons_zero,List.getD_cons_succ];exact ey)):cz P (.region id l.toArray true) Q F H:=xX A E ord hm hok hE (e ▸ h)
def dQ(id:Nat)(hm:P.follows .mixedOrders=true)(h:q)(hok:re l=true:=by decide +kernel)(e:fM P l.toArray H (fun F'=>Q .normal F' H) l F=q:=by exact ey):cz P (.region id l.toArray true) Q F H:=JS hm hok (e ▸ h)
def Ha{c:Code}(L:PZ)(slot:Nat)(a:AV)(hB:H.B.all (df fun i=>L.contains i)=true)(hl:eL (fun i=>L.contains i) H.l)(hv:bc (fun i=>L.contains i) H F (F.set slot a))(h:cz P c Q (F.set slot a) ⟨H.B,dq (fun i=>L.contains i) H.l⟩):cz P c Q F H:=gj (cY.free _ hB hl hv) h
def Dk{c:Code}(L:PZ)(W:List (Nat×Nat))(J:List (Nat×AV))(h0:(L.any fun i=>(H.get i).isSome)=true)(hB:H.B.all (df fun i=>L.contains i)=true)(hl:eL (fun i=>L.contains i) H.l)(hv:bc (fun i=>L.contains i) H F (jL J (lm W F)))(h:cz P c Q (jL J (lm W F)) ⟨H.B,dq (fun i=>L.contains i) H.l⟩):cz P c Q F H:=gj (cY.free _ hB hl hv) h
end
def gT{H':Hp}(e:H=H':=by first|(simp only[go_sem];done)|(simp only[go_sem];rfl)|rfl|fail):H=H':=e
def bK{F':PW}(e:gU F F':=by(simp only[go_sem,gU,Nat.reduceAdd,AV.raw.injEq,Value.int.injEq,Value.slice.injEq,Value.pointer.injEq,AV.rs.injEq];try omega)):gU F F':=e
def gJ{D:P5}{l m:PW}(e:bc D H l m:=by(simp only[go_sem,↓reduceIte,Int.reduceEq,Int.reduceLE,Int.reduceLT,Int.reduceNe,Int.reduceToNat,Nat.reduceMul,Nat.reduceAdd,Nat.reduceLeDiff,Nat.reduceSub,Nat.reduceEqDiff,Nat.reduceBEq,List.nodup_cons,List.nodup_nil,List.mem_cons,List.not_mem_nil,List.mem_nil_iff];repeat' (first|exact jI|exact AB _|exact db.nil _ _|exact db.lit _ _ _ _ _|exact db.same _ rfl|(exact db.same _ (by exact tD))|(exact db.row _ (by first|rfl|(exact tD)) (by first|(exact tD)|rfl|(exact rJ)) (by first|rfl|(simp only[go_sem];done)|omega))|refine jA ?_ ?_|fail))):bc D H l m:=e
def Fz{l:List Oper}{b:Bool}(L:PZ)(W:List (Nat×Nat))(J:List (Nat×AV))(h:q)(h0:(L.any fun i=>(H.get i).isSome)=true:=by rfl)(hB:H.B.all (df fun i=>L.contains i)=true:=by exact dj)(hl:eL (fun i=>L.contains i) H.l:=by exact dj)
 (hv:bc (fun i=>L.contains i) H F (jL J (lm W F)):=by exact gJ) (e:cz P (.region id l.toArray b) Q (jL J (lm W F)) ⟨H.B,dq (fun i=>L.contains i) H.l⟩=q:=by exact ey):cz P (.region id l.toArray b) Q F H:=Dk L W J h0 hB hl hv (e ▸ h)
def bI{f:FuncId}{fn:Func}{c:Code}{args:PW}{r:AV}{k:Nat}(hf:P.funcs[f]?=some fn)(hn:fn.ntmps=k)(h:cz P c (hU P fn fun r' l'=>r'=r/\l'=[]) F ⟨[],[]⟩)(hb:fn.body=some c:=by rfl)
 (hF:args++List.replicate (k-args.length) .any=F:=by(simp only[List.length_cons,List.length_nil,Nat.reduceAdd,Nat.reduceSub,List.replicate,List.cons_append,List.nil_append];rfl)):aA P f args r:=Kw hf hb (by rw[hn];exact hF) h
def aO{f:FuncId}{fn:Func}{c:Code}{args:PW}{l:PV}{R:AV->List P8->Prop}{k:Nat}(hf:P.funcs[f]?=some fn)(hn:fn.ntmps=k)(h:cz P c (hU P fn R) F ⟨L,l⟩)(hb:fn.body=some c:=by rfl)(hL:ids l=L:=by rfl)
 (hF:args++List.replicate (k-args.length) .any=F:=by(simp only[List.length_cons,List.length_nil,Nat.reduceAdd,Nat.reduceSub,List.replicate,List.cons_append,List.nil_append];rfl)):af P f args l R:=Lh hf hb (by rw[hn];exact hF) hL h
section
variable {P:P6}{fn:Func}{F:PW}{H:Hp}{out:PW}{e:Exit}{r:AV}{l:PV}
def cj(rs:List ResultVar)(h1:fZ out=r)(h2:H.l=l)(RB:fn.results.toList=rs:=by rfl)(he:e=.normal\/e=.ret:=by first|exact Or.inr rfl|exact Or.inl rfl|fail)(ho:fP P H F rs=some out:=by(exact rJ))(hok:gx P H F rs:=by exact tD) :
  hU P fn (fun r' l'=>r'=r/\l'=l) e F H:=Kb rs RB he ho hok h1 h2
def aY(rs:List ResultVar)(hv:fZ out=r)(RB:fn.results.toList=rs:=by rfl)(he:e=.normal\/e=.ret:=by first|exact Or.inr rfl|exact Or.inl rfl|fail)(ho:fP P H F rs=some out:=by(exact rJ))(hok:gx P H F rs:=by exact tD)(hl:eL (iZ H.B) H.l:=by exact dj)
 (hq:(fZ out).all (df (iZ H.B))=true:=by exact dj) (h2:dq (iZ H.B) H.l=l:=by first|rfl|(exact dj)|(exact rJ)|fail):hU P fn (fun r' l'=>r'=r/\l'=l) e F H:=EF rs RB he ho hok hl (p5 hv hq) h2
def jf(rs:List ResultVar)(hv:db (iZ H.B) H (fZ out) r)(RB:fn.results.toList=rs:=by rfl)(he:e=.normal\/e=.ret:=by first|exact Or.inr rfl|exact Or.inl rfl|fail)(ho:fP P H F rs=some out:=by(exact rJ))(hok:gx P H F rs:=by exact tD)(hl:eL (iZ H.B) H.l:=by exact dj)
 (h2:dq (iZ H.B) H.l=l:=by first|rfl|(exact dj)|(exact rJ)|fail):hU P fn (fun r' l'=>r'=r/\l'=l) e F H:=EF rs RB he ho hok hl hv h2
end
attribute [go_sem] List.length_set
def eI(x:Int):PW:=[.raw (.int .i64 x)]
instance:cu eI 1:=⟨fun _=>rfl,fun _=>rfl,fun _=>rfl⟩
@[go_sem] def j8K:(∀(x:Int),(eI x).length=1)/\(∀(x:Int),(eI x).getD 0 .any=.raw (.int .i64 x))/\(∀(x:Int),(eI x).drop 1=[]):=by and_intros<;>(intros;rfl)
@[go_sem] def j8L(l:PY)(k:Nat)(x:Int):(l.map eI).set k [.raw (.int .i64 x)]=(l.set k x).map eI:=(List.map_set (f:=eI)).symm
def eS(x:P0):PW:=[.raw (.string x)]
instance:cu eS 1:=⟨fun _=>rfl,fun _=>rfl,fun _=>rfl⟩
@[go_sem] def j8N:(∀(x:P0),(eS x).length=1)/\(∀(x:P0),(eS x).getD 0 .any=.raw (.string x)):=by and_intros<;>(intros;rfl)
def eB(x:Bool):PW:=[.raw (.bool x)]
instance:cu eB 1:=⟨fun _=>rfl,fun _=>rfl,fun _=>rfl⟩
def eU(x:Int):PW:=[.raw (.int .u8 x)]
instance:cu eU 1:=⟨fun _=>rfl,fun _=>rfl,fun _=>rfl⟩
def gu(x:PY):PW:=[ax eI 1 x]
instance:cu gu 1:=⟨fun _=>rfl,fun _=>rfl,fun _=>rfl⟩
@[go_sem] def j5m:(∀(x:PY),(gu x).length=1)/\(∀(x:PY),(gu x).getD 0 .any=ax eI 1 x):=by and_intros<;>(intros;rfl)
structure bZ where
 kind:Int
 text:ByteArray
 at_:Int
 deriving Inhabited,DecidableEq
def kQ(x:bZ):PW:=[.raw (.int .i64 x.kind),.raw (.string x.text),.raw (.int .i64 x.at_)]
section
variable (x y:bZ)
@[go_sem] def jyu:((kQ x).length=3)/\((kQ x).all AV.one=true):=by and_intros<;>(intros;rfl)
@[go_sem] def J7(q:P5):aU q (kQ x)=true:=by simp[kQ,aU,AV.all]
instance:cu kQ 3:=⟨fun _=>rfl,fun _=>rfl,fun x=>J7 x _⟩
@[go_sem] def jxa:((kQ x).take 3=kQ x)/\((kQ x).getD 0 .any=.raw (.int .i64 x.kind))/\((kQ x).getD 1 .any=.raw (.string x.text))/\((kQ x).getD 2 .any=.raw (.int .i64 x.at_)):=by and_intros<;>(intros;rfl)
end
structure bl where
 kind:Int
 cv:Int
 n:Int
 name:ByteArray
 l:List Int
 deriving Inhabited,DecidableEq
def bX(x:bl):PW:=[.raw (.int .i64 x.kind),.raw (.int .i64 x.cv),.raw (.int .i64 x.n),.raw (.string x.name),ax eI 1 x.l]
section
variable (x y:bl)
@[go_sem] def j0k:((bX x).length=5)/\((bX x).all AV.one=true):=by and_intros<;>(intros;rfl)
@[go_sem] def tB(q:P5):aU q (bX x)=true:=by simp[bX,aU,AV.all]
instance:cu bX 5:=⟨fun _=>rfl,fun _=>rfl,fun x=>tB x _⟩
@[go_sem] def jyo:((bX x).take 5=bX x)/\((bX x).getD 0 .any=.raw (.int .i64 x.kind))/\((bX x).getD 1 .any=.raw (.int .i64 x.cv))/\((bX x).getD 2 .any=.raw (.int .i64 x.n))/\((bX x).getD 3 .any=.raw (.string x.name))/\((bX x).getD 4 .any=ax eI 1 x.l):=by and_intros<;>(intros;rfl)
end
structure ai where
 ty:Int
 n:Int
 s:ByteArray
 deriving Inhabited,DecidableEq
def bk(x:ai):PW:=[.raw (.int .i64 x.ty),.raw (.int .i64 x.n),.raw (.string x.s)]
section
variable (x y:ai)
@[go_sem] def jyx:((bk x).length=3)/\((bk x).all AV.one=true):=by and_intros<;>(intros;rfl)
@[go_sem] def x9(q:P5):aU q (bk x)=true:=by simp[bk,aU,AV.all]
instance:cu bk 3:=⟨fun _=>rfl,fun _=>rfl,fun x=>x9 x _⟩
@[go_sem] def jxc:((bk x).take 3=bk x)/\((bk x).getD 0 .any=.raw (.int .i64 x.ty))/\((bk x).getD 1 .any=.raw (.int .i64 x.n))/\(∀(v:Int),List.take 1 (bk x)++[.raw (.int .i64 v)]++List.drop 2 (bk x)=bk { x with n:=v })/\((bk x).getD 2 .any=.raw (.string x.s))/\((bk x).map ii=[some (.int .i64),some (.int .i64),some .str]):=by and_intros<;>(intros;rfl)
@[go_sem] def j0I:gL (bk x) (bk y)=decide (x=y):=by rw[Bool.eq_iff_iff];obtain⟨a7,a8,a9⟩:=x;obtain⟨b10,b11,b12⟩:=y;simp[bk,gL]
end
structure bM where
 name:ByteArray
 ty:Int
 deriving Inhabited,DecidableEq
def la(x:bM):PW:=[.raw (.string x.name),.raw (.int .i64 x.ty)]
section
variable (x y:bM)
@[go_sem] def jyp:((la x).length=2)/\((la x).all AV.one=true):=by and_intros<;>(intros;rfl)
@[go_sem] def Ml(q:P5):aU q (la x)=true:=by simp[la,aU,AV.all]
instance:cu la 2:=⟨fun _=>rfl,fun _=>rfl,fun x=>Ml x _⟩
@[go_sem] def jw4:((la x).take 2=la x)/\((la x).getD 0 .any=.raw (.string x.name))/\((la x).getD 1 .any=.raw (.int .i64 x.ty)):=by and_intros<;>(intros;rfl)
end
structure bg where
 name:ByteArray
 cv:Int
 params:List bM
 ret:Int
 body:Int
 deriving Inhabited,DecidableEq
def eZ(x:bg):PW:=[.raw (.string x.name),.raw (.int .i64 x.cv),ax la 2 x.params,.raw (.int .i64 x.ret),.raw (.int .i64 x.body)]
section
variable (x y:bg)
@[go_sem] def j0j:((eZ x).length=5)/\((eZ x).all AV.one=true):=by and_intros<;>(intros;rfl)
@[go_sem] def MN(q:P5):aU q (eZ x)=true:=by simp[eZ,aU,AV.all]
instance:cu eZ 5:=⟨fun _=>rfl,fun _=>rfl,fun x=>MN x _⟩
@[go_sem] def jym:((eZ x).take 5=eZ x)/\((eZ x).getD 0 .any=.raw (.string x.name))/\((eZ x).getD 2 .any=ax la 2 x.params)/\((eZ x).getD 3 .any=.raw (.int .i64 x.ret))/\((eZ x).getD 4 .any=.raw (.int .i64 x.body)):=by and_intros<;>(intros;rfl)
end
structure aE where
 nodes:List bl
 av:List bg
 deriving Inhabited,DecidableEq
def jX(x:aE):PW:=[ax bX 5 x.nodes,ax eZ 5 x.av]
section
variable (x y:aE)
@[go_sem] def j0H:((jX x).length=2)/\((jX x).all AV.one=true):=by and_intros<;>(intros;rfl)
@[go_sem] def KE(q:P5):aU q (jX x)=true:=by simp[jX,aU,AV.all]
instance:cu jX 2:=⟨fun _=>rfl,fun _=>rfl,fun x=>KE x _⟩
@[go_sem] def jyw:((jX x).take 2=jX x)/\((jX x).getD 0 .any=ax bX 5 x.nodes)/\((jX x).getD 1 .any=ax eZ 5 x.av):=by and_intros<;>(intros;rfl)
end
structure bH where
 name:ByteArray
 ty:Int
 slot:Int
 deriving Inhabited,DecidableEq
def jQ(x:bH):PW:=[.raw (.string x.name),.raw (.int .i64 x.ty),.raw (.int .i64 x.slot)]
section
variable (x y:bH)
@[go_sem] def j2c:((jQ x).length=3)/\((jQ x).all AV.one=true):=by and_intros<;>(intros;rfl)
@[go_sem] def J5(q:P5):aU q (jQ x)=true:=by simp[jQ,aU,AV.all]
instance:cu jQ 3:=⟨fun _=>rfl,fun _=>rfl,fun x=>J5 x _⟩
@[go_sem] def j0O:((jQ x).take 3=jQ x)/\((jQ x).getD 0 .any=.raw (.string x.name))/\((jQ x).getD 1 .any=.raw (.int .i64 x.ty))/\((jQ x).getD 2 .any=.raw (.int .i64 x.slot)):=by and_intros<;>(intros;rfl)
end
structure ae where
 aa:aE
 types:List Int
 ab:List Int
 fn:List Int
 size:List Int
 deriving Inhabited,DecidableEq
def bp(x:ae):PW:=[ax bX 5 x.aa.nodes,ax eZ 5 x.aa.av,ax eI 1 x.types,ax eI 1 x.ab,ax eI 1 x.fn,ax eI 1 x.size]
section
variable (x y:ae)
@[go_sem] def j0s:((bp x).length=6)/\((bp x).all AV.one=true):=by and_intros<;>(intros;rfl)
@[go_sem] def Bq(q:P5):aU q (bp x)=true:=by simp[bp,aU,AV.all]
instance:cu bp 6:=⟨fun _=>rfl,fun _=>rfl,fun x=>Bq x _⟩
@[go_sem] def jys:((bp x).take 6=bp x)/\((bp x).getD 0 .any=ax bX 5 x.aa.nodes)/\((bp x).getD 1 .any=ax eZ 5 x.aa.av)/\((bp x).getD 2 .any=ax eI 1 x.types)/\((bp x).getD 3 .any=ax eI 1 x.ab)/\((bp x).getD 4 .any=ax eI 1 x.fn)/\((bp x).getD 5 .any=ax eI 1 x.size):=by and_intros<;>(intros;rfl)
end
structure cU where
 block:Int
 at_:Int
 deriving Inhabited,DecidableEq
def ej(x:cU):PW:=[.raw (.int .i64 x.block),.raw (.int .i64 x.at_)]
section
variable (x y:cU)
@[go_sem] def jyq:((ej x).length=2)/\((ej x).all AV.one=true):=by and_intros<;>(intros;rfl)
@[go_sem] def OY(q:P5):aU q (ej x)=true:=by simp[ej,aU,AV.all]
instance:cu ej 2:=⟨fun _=>rfl,fun _=>rfl,fun x=>OY x _⟩
@[go_sem] def jw6:((ej x).take 2=ej x)/\((ej x).getD 0 .any=.raw (.int .i64 x.block))/\((ej x).getD 1 .any=.raw (.int .i64 x.at_))/\(∀(v:Int),List.take 1 (ej x)++[.raw (.int .i64 v)]++List.drop 2 (ej x)=ej { x with at_:=v })/\((ej x).map ii=[some (.int .i64),some (.int .i64)]):=by and_intros<;>(intros;rfl)
@[go_sem] def j0n:gL (ej x) (ej y)=decide (x=y):=by rw[Bool.eq_iff_iff];obtain⟨a23,a24⟩:=x;obtain⟨b25,b26⟩:=y;simp[ej,gL]
end
structure aP where
 fn:Int
 ab:List ai
 path:List cU
 deriving Inhabited,DecidableEq
def fa(x:aP):PW:=[.raw (.int .i64 x.fn),ax bk 3 x.ab,ax ej 2 x.path]
section
variable (x y:aP)
@[go_sem] def jyk:((fa x).length=3)/\((fa x).all AV.one=true):=by and_intros<;>(intros;rfl)
@[go_sem] def Co(q:P5):aU q (fa x)=true:=by simp[fa,aU,AV.all]
instance:cu fa 3:=⟨fun _=>rfl,fun _=>rfl,fun x=>Co x _⟩
@[go_sem] def jw2:((fa x).take 3=fa x)/\((fa x).getD 0 .any=.raw (.int .i64 x.fn))/\((fa x).getD 1 .any=ax bk 3 x.ab)/\((fa x).getD 2 .any=ax ej 2 x.path):=by and_intros<;>(intros;rfl)
end
structure aw where
 ah:List aP
 heap:List (List Int)
 in_:Int
 aS:List ByteArray
 status:Int
 bL:Int
 time:Int
 deriving Inhabited,DecidableEq
def bv(x:aw):PW:=[ax fa 3 x.ah,ax gu 1 x.heap,.raw (.int .i64 x.in_),ax eS 1 x.aS,.raw (.int .i64 x.status),.raw (.int .i64 x.bL),.raw (.int .i64 x.time)]
section
variable (x y:aw)
@[go_sem] def jyt:((bv x).length=7)/\((bv x).all AV.one=true):=by and_intros<;>(intros;rfl)
@[go_sem] def qW(q:P5):aU q (bv x)=true:=by simp[bv,aU,AV.all]
instance:cu bv 7:=⟨fun _=>rfl,fun _=>rfl,fun x=>qW x _⟩
@[go_sem] def jw8:((bv x).take 7=bv x)/\((bv x).getD 0 .any=ax fa 3 x.ah)/\((bv x).getD 1 .any=ax gu 1 x.heap)/\((bv x).getD 2 .any=.raw (.int .i64 x.in_))/\((bv x).getD 3 .any=ax eS 1 x.aS)/\((bv x).getD 4 .any=.raw (.int .i64 x.status))/\(∀(v:Int),List.take 4 (bv x)++[.raw (.int .i64 v)]++List.drop 5 (bv x)=bv { x with status:=v })/\((bv x).getD 5 .any=.raw (.int .i64 x.bL))/\(∀(v:Int),List.take 5 (bv x)++[.raw (.int .i64 v)]++List.drop 6 (bv x)=bv { x with bL:=v })/\((bv x).getD 6 .any=.raw (.int .i64 x.time))/\(∀(v:Int),List.take 6 (bv x)++[.raw (.int .i64 v)]++List.drop 7 (bv x)=bv { x with time:=v }):=by and_intros<;>(intros;rfl)
end
structure n6 where
 fn:Int
 node:Int
 ab:List ai
 deriving Inhabited,DecidableEq
def yd(x:n6):PW:=[.raw (.int .i64 x.fn),.raw (.int .i64 x.node),ax bk 3 x.ab]
section
variable (x y:n6)
@[go_sem] def L8(q:P5):aU q (yd x)=true:=by simp[yd,aU,AV.all]
instance:cu yd 3:=⟨fun _=>rfl,fun _=>rfl,fun x=>L8 x _⟩
end
structure qG where
 calls:List n6
 heap:List (List Int)
 in_:Int
 aS:List ByteArray
 status:Int
 bL:Int
 time:Int
 deriving Inhabited,DecidableEq
def yx(x:qG):PW:=[ax yd 3 x.calls,ax gu 1 x.heap,.raw (.int .i64 x.in_),ax eS 1 x.aS,.raw (.int .i64 x.status),.raw (.int .i64 x.bL),.raw (.int .i64 x.time)]
section
variable (x y:qG)
@[go_sem] def O9(q:P5):aU q (yx x)=true:=by simp[yx,aU,AV.all]
instance:cu yx 7:=⟨fun _=>rfl,fun _=>rfl,fun x=>O9 x _⟩
end
structure lT where
 op:Int
 a:Int
 b:Int
 s:ByteArray
 deriving Inhabited,DecidableEq
def wq(x:lT):PW:=[.raw (.int .i64 x.op),.raw (.int .i64 x.a),.raw (.int .i64 x.b),.raw (.string x.s)]
section
variable (x y:lT)
@[go_sem] def LF(q:P5):aU q (wq x)=true:=by simp[wq,aU,AV.all]
instance:cu wq 4:=⟨fun _=>rfl,fun _=>rfl,fun x=>LF x _⟩
end
structure qC where
 ins:List lT
 entry:List Int
 deriving Inhabited,DecidableEq
def yO(x:qC):PW:=[ax wq 4 x.ins,ax eI 1 x.entry]
section
variable (x y:qC)
@[go_sem] def HN(q:P5):aU q (yO x)=true:=by simp[yO,aU,AV.all]
instance:cu yO 2:=⟨fun _=>rfl,fun _=>rfl,fun x=>HN x _⟩
end
structure ba where
 at_:Int
 name:ByteArray
 v:ai
 deriving Inhabited,DecidableEq
def dw(x:ba):PW:=[.raw (.int .i64 x.at_),.raw (.string x.name),.raw (.int .i64 x.v.ty),.raw (.int .i64 x.v.n),.raw (.string x.v.s)]
section
variable (x y:ba)
@[go_sem] def j0f:((dw x).length=5)/\((dw x).all AV.one=true):=by and_intros<;>(intros;rfl)
@[go_sem] def Pz(q:P5):aU q (dw x)=true:=by simp[dw,aU,AV.all]
instance:cu dw 5:=⟨fun _=>rfl,fun _=>rfl,fun x=>Pz x _⟩
@[go_sem] def jyj:((dw x).take 5=dw x)/\((dw x).getD 0 .any=.raw (.int .i64 x.at_))/\((dw x).getD 1 .any=.raw (.string x.name))/\(∀(v:P0),List.take 1 (dw x)++[.raw (.string v)]++List.drop 2 (dw x)=dw { x with name:=v })/\((dw x).getD 3 .any=.raw (.int .i64 x.v.n))/\(∀(v:Int),List.take 3 (dw x)++[.raw (.int .i64 v)]++List.drop 4 (dw x)=dw { x with v.n:=v })/\((dw x).getD 4 .any=.raw (.string x.v.s))/\(∀(v:P0),List.take 4 (dw x)++[.raw (.string v)]++List.drop 5 (dw x)=dw { x with v.s:=v })/\(((dw x).drop 2).take 3=bk x.v):=by and_intros<;>(intros;rfl)
end
end Go.Gd