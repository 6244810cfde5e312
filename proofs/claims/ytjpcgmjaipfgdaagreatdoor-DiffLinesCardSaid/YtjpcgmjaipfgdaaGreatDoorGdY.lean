/- Lemmas. No conditions. -/
import Derived.Test.YtjpcgmjaipfgdaaGreatDoorGdL
set_option linter.all false
namespace Go.Gd
open Go
section
variable {P:U3}{ops:Array Oper}{H:Hp}
variable{ty:UY}{K:UP}
def wM{ev ev':UZ}(o:Op)(h:∀x∈o.operands.toList,ev x=ev' x):vc P ev H ty K o=vc P ev' H ty K o:=by
 have quiet:((vq P ev H o).1/\K (vq P ev H o).2 H)=((vq P ev' H o).1/\K (vq P ev' H o).2 H):=by rw[uE o h]
 have other:jg P o ty ev H K=jg P o ty ev' H K:=by
  unfold jg;apply propext;constructor<;>intro hh w ρ dst pos after guard h1 h2
  ·exact hh w ρ dst pos after guard h1 fun x hx=>by rw[h x hx];exact h2 x hx
  ·exact hh w ρ dst pos after guard h1 fun x hx=>by rw[<-h x hx];exact h2 x hx
 cases o
 case box t x=>simp only[vc];rw[h x (by simp[Op.operands])]
 case store t a x=>simp only[vc];rw[h x (by simp[Op.operands]),h a (by simp[Op.operands])]
 case buildSlice t n ps=> simp only[Op.operands]at h;simp only[vc];rw[List.map_congr_left (g:=fun p=>(p.1,ev' p.2)) (fun x hx=>by rw[h x.2 (by simp at hx ⊢;exact⟨_,hx⟩)])]
 case binOp op t x y t'=>
  cases op<;>first
   |(simp only[vc];rw[h x (by simp[Op.operands]),h y (by simp[Op.operands])];done)
   |exact quiet
 case call c=>
  obtain⟨callee,args,ts⟩:=c;cases callee
  case value f=> simp only[Op.operands,Call.operands]at h;simp only[vc];rw[h f jE,List.map_congr_left (fun x hx=>h x (by simp at hx ⊢;exact .inr hx))]
  case invoke f m=> simp only[Op.operands,Call.operands]at h;simp only[vc];rw[h f jE,List.map_congr_left (fun x hx=>h x (by simp at hx ⊢;exact .inr hx))]
  case builtin b=>
   have hm:args.toList.map ev=args.toList.map ev':=List.map_congr_left fun x hx=>h x (by simpa[Op.operands,Call.operands]using hx)
   cases b
   case append=>
    simp only[vc];split
    ·rename_i t t' a x ht ha;rw[h a (by simp[Op.operands,Call.operands];rw[<-Array.mem_toList_iff,ha];simp),h x (by simp[Op.operands,Call.operands];rw[<-Array.mem_toList_iff,ha];simp)]
    ·rfl
   case len=>exact quiet
   case cap=>exact quiet
   case max=>exact quiet
   case min=>exact quiet
   all_goals(simp only[vc,di,Bool.false_eq_true,if_false];rw[hm])
  all_goals exact other
 all_goals first
  |rfl
  |exact quiet
  |exact other
variable{t:UY}{K':UP}
def Jo{n:Nat}{parts:List (Nat×AV)}(h:pk P H t n parts K)(hk:∀r H,K r H->K' r H):pk P H t n parts K':=by
 unfold pk at*;split at h
 ·rename_i e he;split at h
  ·refine⟨h.1,?_⟩;rcases h.2 with h2|⟨h2,i,h3,h4⟩
   ·exact .inl ⟨h2.1,hk _ _ h2.2⟩
   ·exact .inr ⟨h2,i,h3,hk _ _ h4⟩
  ·exact h.elim
 ·exact h.elim
def Jb{ev:UZ}(o:Op)(hk:∀r H',K r H'->K' r H')(h:vc P ev H ty K o):vc P ev H ty K' o:=by
 have quiet:((vq P ev H o).1/\K (vq P ev H o).2 H)->((vq P ev H o).1/\K' (vq P ev H o).2 H):=fun h=>⟨h.1,hk _ _ h.2⟩
 have other:jg P o ty ev H K->jg P o ty ev H K':=fun hh w ρ dst pos after guard h1 h2=>by obtain⟨w',H',r,g1,g2⟩:=hh w ρ dst pos after guard h1 h2;exact⟨w',H',r,hk _ _ g1,g2⟩
 cases o
 case box t x=>obtain⟨h1,i,h2,h3⟩:=h;exact⟨h1,i,h2,hk _ _ h3⟩
 case alloc t=>
  simp only[vc,nZ]at h ⊢;split at h
  ·obtain⟨i,h2,h3⟩:=h;exact⟨i,h2,hk _ _ h3⟩
  ·exact h.elim
 case store t a x=>
  simp only[vc,wN]at h ⊢;split at h
  ·split at h
   ·exact⟨h.1,hk _ _ h.2⟩
   ·exact h.elim
  ·exact h.elim
 case buildSlice t n ps=>exact Jo h hk
 case binOp op t x y t'=>
  have nileq:∀ne,qx P ne t (ev x) (ev y) H K->qx P ne t (ev x) (ev y) H K':=fun ne h=>by
   unfold qx at h ⊢;split at h
   ·exact⟨h.1,fun b hb=>hk _ _ (h.2 b hb)⟩
   ·exact⟨h.1,fun b hb=>hk _ _ (h.2 b hb)⟩
   ·rename_i Vd;exact⟨h.1,hk _ _ h.2⟩
  cases op<;>first
   |exact nileq false h
   |exact nileq true h
   |exact quiet h
 case call c=>
  obtain⟨callee,args,ts⟩:=c;cases callee
  case value f=>exact zZ h hk
  case invoke f m=>
   simp only[vc,qW]at h ⊢;split at h
   ·split at h
    ·exact zZ h hk
    ·exact h.elim
   ·exact h.elim
  case builtin b=>
   have bvc:re P b ts.toList (args.toList.map ev) H K->re P b ts.toList (args.toList.map ev) H K':=fun hh w vs ty cs h1 h2=>by obtain⟨w',H',r,v,g1,g2,g3⟩:=hh w vs ty cs h1 h2;exact⟨w',H',r,v,g1,hk _ _ g2,g3⟩
   cases b
   case append=>
    simp only[vc]at h ⊢;split at h
    ·intro w va vx ty h1 h2 h3;obtain⟨w',H',r,v,g1,g2,g3⟩:=h w va vx ty h1 h2 h3;exact⟨w',H',r,v,g1,hk _ _ g2,g3⟩
    ·exact h.elim
   case len=>exact quiet h
   case cap=>exact quiet h
   case max=>exact quiet h
   case min=>exact quiet h
   all_goals exact bvc h
  all_goals exact other h
 all_goals first
  |exact quiet h
  |exact other h
-- what is quiet, what is an effect
def qd:Op->Bool
 |.buildSlice ..=>true
 |_=>false
abbrev AS:=UW×UW×UW
def uW(A:AS)(o:Oper):Bool:=match o.dst with
 |some t=>A.2.1.contains t
 |none=>false
def oU(A:AS)(o:Oper):Bool:=match o.dst with
 |some t=>A.2.2.contains t
 |none=>false
def pi(A:AS)(o:Oper):Bool:=o.guard.isSome && oU A o && jm o.op
def nF(A:AS)(o:Oper):Bool:=(o.guard.isNone && !di o.op && !oG o.op && !(qd o.op && !oU A o) && !uW A o) || pi A o
def Dw(P:U3)(ev:UZ)(H:Hp)(K:AV->Prop):Op->Prop
 |.call { callee:=.value f,args,.. }=>∃r,(eQ P (ev f) (args.toList.map ev) H fun r' H'=>r'=r/\H'=H)/\K r
 |.lookup t m k c=>∃r,jg P (.lookup t m k c) 0 ev H (fun r' H'=>r'=r/\H'=H)/\K r
 |_=>False
def pn(o:Oper):Bool:=match o.op with
 |.load ..=>true
 |.lookup ..=>true
 |.call { callee:=.value _,.. }=>true
 |.call { callee:=.invoke ..,.. }=>true
 |.call { callee:=.builtin .len,argTypes,.. }=>jh.contains (argTypes.toList.headD 0)
 |_=>false
def nE(A:AS)(o:Oper):Bool:=match o.op with
 |.alloc _=>true
 |.box ..=>true
 |.store ..=>!A.1.isEmpty && !A.2.2.contains 1000000
 |.call { callee:=.value _,.. }=>oU A o
 |.call { callee:=.builtin .append,.. }=>oU A o
 |.buildSlice ..=>oU A o
 |.makeSlice ..=>oU A o
 |_=>false
def px(o:Oper):Bool:=match o.op with
 |.load ..=>o.guard.isNone
 |_=>false
def eG(A:AS)(H H':Hp):Prop:=∀i r,A.1.contains i=false->H.get i=some r->H'.get i=some r\/(A.1.contains (i+16)=true/\∃t c c' cs,r=.var t (c::cs)/\H'.get i=some (.var t (c'::cs)))
def eG.refl(A:AS)(H:Hp):eG A H H:=fun _ _ _ h=>.inl h
def eG.trans{L:AS}{A B C:Hp}(h:eG L A B)(k:eG L B C):eG L A C:=fun i r ha e=>by
 rcases h i r ha e with h1|⟨h0,t,c,c',cs,rfl,h1⟩
 ·exact k i r ha h1
 ·rcases k i _ ha h1 with k1|⟨_,t',d,d',ds,e',k1⟩
  ·exact .inr ⟨h0,t,c,c',cs,rfl,k1⟩
  ·cases e';exact .inr ⟨h0,t,c,d',cs,rfl,k1⟩
theorem eG.put{A:AS}{H:Hp}{i:Nat}{r:Row}(h:H.get i=none):eG A H (H.put i r):=fun j s _ hj=>by
 left
 rw[Hp.bj,if_neg (by rintro rfl;rw[h]at hj;cases hj)];exact hj
variable{A:AS}{i:Nat}
def eG.set{H:Hp}{r:Row}(h:A.1.contains i=true):eG A H (H.put i r):=fun j s ha hj=>by
 left
 rw[Hp.bj,if_neg (by rintro rfl;rw[h]at ha;cases ha)];exact hj
def tG(A:AS):AV->Bool
 |.pt i _ _ j=>!A.1.contains i && (decide (1<=j) || !A.1.contains (i+16))
 |_=>true
def DF(A:AS):AV->Bool
 |.pt i _ _ _=>A.1.contains i
 |_=>false
def iW(A:AS)(ev:UZ):Op->Bool
 |.load _ x=>tG A (ev x)
 |.store _ a _=>(A.1.isEmpty || A.2.2.contains 1000000) || DF A (ev a)
 |_=>true
variable{H':Hp}
def RE{H:Hp}(h:eG A H H'){a:AV}(ha:tG A a=true){x:Prop×US}(hc:qj H a=some x):qj H' a=some x:=by
 unfold qj at*;split at hc
 ·exact hc
 ·rename_i i m k j;have ha:A.1.contains i=false/\(1<=j\/A.1.contains (i+16)=false):=by
   simp only[tG,Bool.and_eq_true,Bool.or_eq_true,Bool.not_eq_true',decide_eq_true_eq]at ha;exact ha
  cases e:H.get i with
  |none=>rw[e]at hc;cases hc
  |some r=>
   rw[e]at hc;rcases h i r ha.1 e with h1|⟨h0,t,c,c',cs,rfl,h1⟩
   ·simp only[h1];exact hc
   ·rcases ha.2 with h2|h2
    ·obtain⟨j',rfl⟩:∃j',j=j'+1:=⟨j-1,jB⟩;simp only[h1,List.drop_succ_cons]at hc ⊢;exact hc
    ·rw[h0]at h2;cases h2
 ·cases hc
def LG{H:Hp}(h:eG A H H'){a:AV}(ha:tG A a=true)(hq:(oq P H t a).1):oq P H' t a=oq P H t a:=by
 unfold oq at*;cases e:qj H a with
 |none=>rw[e]at hq;exact hq.elim
 |some x=>rw[RE h ha e]
def fm(P:U3)(ev:UZ)(H:Hp)(ty:UY)(K:UP)(op:Op):Prop:=if oG op then(vq P ev H op).1/\K (vq P ev H op).2 H else match op with
 |.buildSlice t n parts=>pG P t n (parts.toList.map fun p=>(p.1,ev p.2)) fun r=>K r H
 |op=>vc P ev H ty K op
def P4{ev:UZ}(t:UY)(n:Nat)(parts:Array (Nat×Operand)):fm P ev H ty K (.buildSlice t n parts)=pG P t n (parts.toList.map fun p=>(p.1,ev p.2)) fun r=>K r H:=rfl
def Cc{ev:UZ}{op:Op}(h1:¬oG op=true)(h2:¬qd op=true):fm P ev H ty K op=vc P ev H ty K op:=by unfold fm;rw[if_neg h1];cases op<;>first|rfl|(exact(h2 rfl).elim)
def u5(P:U3)(A:AS)(ev:UZ)(H:Hp)(K:UP):Op->Prop
 |.call { callee:=.value f,args,.. }=>eQ P (ev f) (args.toList.map ev) H fun r H'=>eG A H H'/\K r H'
 |.buildSlice t n parts=>pk P H t n (parts.toList.map fun p=>(p.1,ev p.2)) fun r H'=>eG A H H'/\K r H'
 |.makeSlice t l c=>jg P (.makeSlice t l c) 0 ev H fun r H'=>eG A H H'/\K r H'
 |.call { callee:=.builtin .append,args,argTypes }=>vc P ev H 0 (fun r H'=>eG A H H'/\K r H') (.call ⟨.builtin .append,args,argTypes⟩)
 |_=>False
def fC(A:AS)(P:U3)(ops:Array Oper)(K:UO):List Oper->UO
 |[],F,H=>K F H
 |o::rest,F,H=>match o.guard with
  |none=>if uW A o=true then Dw P (bM F) H (fun r=>fC A P ops K rest (cr F o.dst r) H) o.op else if oU A o=true then u5 P A (bM F) H (fun r H'=>fC A P ops K rest (cr F o.dst r) H') o.op else iW A (bM F) o.op=true/\fm P (bM F) H o.type (fun r H'=>fC A P ops K rest (cr F o.dst r) H') o.op
  |some (j,want)=>match mo ops F j want with
   |some b=>if pi A o=true then(b=true->gp F o.op=true/\u5 P A (bK F) H (fun r H'=>fC A P ops K rest (cr F o.dst r) H') o.op)/\(b=false->fC A P ops K rest (cr F o.dst (.gd false (.raw (.bool false)))) H)
    else(jm o.op || iT o.op)=true/\eJ P F H b (fun r=>fC A P ops K rest (cr F o.dst r) H) o.op
   |none=>False
def Tt(ts:List UY)(args:US)(h:jh.contains (ts.headD 0)=false):lP P H .len ts args=lP P H' .len ts args:=by
 unfold lP;cases ts with
 |nil=>rfl
 |cons t ts=>
  cases args with
  |nil=>rfl
  |cons x l=>
   show u6 P H t x=u6 P H' t x;unfold u6;have h:jh.contains t=false:=h;have hn:¬(jh.contains t=true):=by rw[h];exact Bool.false_ne_true
   cases x with
   |raw v=>cases v<;>rfl
   |mr i=> show(if jh.contains t=true then _ else iq)=(if jh.contains t=true then _ else iq);rw[if_neg hn,if_neg hn]
   |_=>rfl
variable{o:Oper}
def xW{ev:UZ}(h:pn o=false):vq P ev H o.op=vq P ev H' o.op:=by
 obtain⟨dst,op,ty,pos,after,guard⟩:=o;cases op<;>first
  |rfl
  |(simp[pn]at h;done)
  |skip
 rename_i c;obtain⟨callee,args,ts⟩:=c;cases callee
 case builtin b=>
  cases b
  case len=>exact Tt _ _ h
  all_goals(simp only[vq];unfold lP;generalize ts.toList=a;generalize args.toList.map ev=b;cases a<;>cases b<;>rfl)
 all_goals rfl
variable{F:US}
def TO{g:Bool}{K:AV->Prop}(h:pn o=false):eJ P F H g K o.op=eJ P F H' g K o.op:=by
 have hc:jm o.op=false:=by
  obtain⟨dst,op,ty,pos,after,guard⟩:=o;cases op<;>first
   |rfl
   |(rename_i c;obtain⟨callee,args,ts⟩:=c;cases callee<;>first|rfl|simp[pn]at h)
 by_cases hp:yk o.op=true
 ·obtain⟨dst,op,ty,pos,after,guard⟩:=o;cases op<;>first|(cases hp;done)|rfl|(rename_i c;obtain⟨callee,args,ts⟩:=c;cases callee<;>first|(cases hp;done)|simp[pn]at h)
 have hp:yk o.op=false:=by simpa using hp
 rw[zF _ hc hp,zF _ hc hp,xW h]
def NE{ev:UZ}{o:Op}(h:di o=true):vc P ev H ty K o=((vq P ev H o).1/\K (vq P ev H o).2 H):=by
 cases o
 case binOp op t x y t'=>cases op<;>first|(simp[di]at h;done)|simp[vc,di]
 case call c=>
  obtain⟨callee,args,ts⟩:=c;cases callee
  case builtin b=>cases b<;>first|(simp[di]at h;done)|simp[vc,di]
  all_goals(simp[di]at h;done)
 all_goals first
  |(simp[di]at h;done)
  |simp[vc,di]
def Hg{K:UO}{rest:List Oper}(h:fC A P ops K (o::rest) F H) :
  (nF A o=true/\∀G,yl ops o F G->nB P ops o G H fun G' H'=>(nE A o=true->eG A H H')/\∃r,G'=cr G o.dst r/\fC A P ops K rest (cr F o.dst r) H')\/
  (nF A o=false/\∃r,QV P ops o F H r/\(pn o=false->∀H',QV P ops o F H' r)/\(px o=true->∀H',eG A H H'->QV P ops o F H' r)/\fC A P ops K rest (cr F o.dst r) H):=by
 unfold fC at h;split at h
 ·rename_i hg;by_cases XX:uW A o=true
  ·rw[if_pos XX]at h;refine .inr ⟨by simp[nF,pi,hg,XX],?_⟩;obtain⟨dst,op,ty,pos,after,guard⟩:=o;simp only at hg;subst hg;cases op<;>first|exact h.elim|skip
   case call=>
    rename_i c;obtain⟨callee,args,ts⟩:=c;cases callee<;>first|exact h.elim|skip
    obtain⟨r,h1,h2⟩:=h;exact⟨r,Ky h1,fun hd=>by simp[pn]at hd,fun WX=>by simp[px]at WX,h2⟩
   case lookup=>
    rename_i t m k c;obtain⟨r,h1,h2⟩:=h;refine⟨r,fun G hG=>?_,fun hd=>by simp[pn]at hd,fun WX=>by simp[px]at WX,h2⟩;refine qR (K:=fun F' H'=>F'=cr G dst r/\H'=H) rfl ?_;rw[wM _ hG.1];have e:∀K:UP,vc P (bM F) H ty K (.lookup t m k c)=jg P (.lookup t m k c) ty (bM F) H K:=fun K=>by simp[vc,di]
    show vc P (bM F) H ty _ (.lookup t m k c);rw[e];intro w ρ dst' pos' after' guard' g1 g2;obtain⟨w',H',r',hk,g⟩:=h1 w ρ dst' pos' after' guard' g1 g2;exact⟨w',H',r',⟨by rw[hk.1],hk.2⟩,g⟩
  rw[if_neg XX]at h;by_cases W2:oU A o=true
  ·rw[if_pos W2]at h;have XX:uW A o=false:=by simpa using XX
   obtain⟨dst,op,ty,pos,after,guard⟩:=o;simp only at hg;subst hg;cases op
   case call=>
    rename_i c _;obtain⟨callee,args,ts⟩:=c;cases callee
    case value f _=> refine .inl ⟨by simp[nF,di,oG,qd,XX],fun G hG=>?_⟩;refine qR rfl ?_;rw[wM _ hG.1];exact zZ (f:=bM F f) (args:=args.toList.map (bM F)) h fun r H' hk=>⟨fun _=>hk.1,r,rfl,hk.2⟩
    case builtin bi _=>
     cases bi
     case append=> refine .inl ⟨by simp[nF,di,oG,qd,XX],fun G hG=>?_⟩;refine qR rfl ?_;rw[wM _ hG.1];exact Jb (K:=fun r H'=>eG A H H'/\fC A P ops K rest (cr F dst r) H') (.call ⟨.builtin .append,args,ts⟩) (fun r H' hk=>⟨fun _=>hk.1,r,rfl,hk.2⟩) h
     all_goals exact h.elim
    all_goals exact h.elim
   case buildSlice=> refine .inl ⟨by simp[nF,di,oG,qd,XX,W2],fun G hG=>?_⟩;refine qR rfl ?_;rw[wM _ hG.1];exact Jo h fun r H' hk=>⟨fun _=>hk.1,r,rfl,hk.2⟩
   case makeSlice=>
    rename_i t l c _;refine .inl ⟨by simp[nF,di,oG,qd,XX],fun G hG=>?_⟩;refine qR rfl ?_;rw[wM _ hG.1];have e:∀K:UP,vc P (bM F) H ty K (.makeSlice t l c)=jg P (.makeSlice t l c) ty (bM F) H K:=fun K=>by simp[vc,di]
    show vc P (bM F) H ty _ (.makeSlice t l c);rw[e];intro w ρ dst' pos' after' guard' h1 h2;obtain⟨w',H',r,hk,g⟩:=h w ρ dst' pos' after' guard' h1 h2;exact⟨w',H',r,⟨fun _=>hk.1,r,rfl,hk.2⟩,g⟩
   all_goals exact h.elim
  rw[if_neg W2]at h;obtain⟨hA,h⟩:=h;by_cases he:oG o.op=true
  ·unfold fm at h;rw[if_pos he]at h;exact .inr ⟨by simp[nF,pi,hg,he],_,wQ hg h.1,fun hd H'=>by rw[xW hd];exact wQ hg (by rw[<-xW (H:=H) hd];exact h.1),fun WX=>by obtain⟨dst,op,ty,pos,after,guard⟩:=o;cases op<;>first|(simp[oG]at he;done)|(simp[px]at WX;done),h.2⟩
  ·by_cases hl:qd o.op=true
   ·refine .inr ⟨by simp[nF,pi,hg,hl,W2],?_⟩;obtain⟨dst,op,ty,pos,after,guard⟩:=o;simp only at hg;subst hg;cases op<;>first|(simp[qd]at hl;done)|skip
    rename_i t n parts;rw[P4]at h;obtain⟨r,h1,h2⟩:=CU h;exact⟨r,A8 (h2 _ rfl),fun _ H'=>A8 (h2 _ rfl),fun WX=>by simp[px]at WX,h1⟩
   ·rw[Cc he hl]at h;by_cases hq:di o.op=true
    ·have h':(vq P (bM F) H o.op).1/\fC A P ops K rest (cr F o.dst (vq P (bM F) H o.op).2) H:=by
      rw[NE hq]at h;exact h
     refine .inr ⟨by simp[nF,pi,hg,hq],_,wQ hg h'.1,fun hd H'=>by rw[xW hd];exact wQ hg (by rw[<-xW (H:=H) hd];exact h'.1),fun WX H' Vj=>?_,h'.2⟩;obtain⟨dst,op,ty,pos,after,guard⟩:=o;cases op<;>first|(simp[px]at WX;done)|skip
     rename_i t a;have e:vq P (bM F) H' (.load t a)=vq P (bM F) H (.load t a):=LG Vj hA h'.1;have:=wQ (P:=P) (ops:=ops) (H:=H') (o:=⟨dst,.load t a,ty,pos,after,guard⟩) (F:=F) hg (by rw[e];exact h'.1);rw[e]at this;exact this
    ·refine .inl ⟨by simp[nF,pi,hg];simp at hq he hl XX;exact⟨⟨⟨hq,he⟩,.inl hl⟩,XX⟩,fun G hG=>?_⟩;refine qR hg ?_;rw[wM o.op hG.1];by_cases XR:nE A o=true
     ·obtain⟨dst,op,ty,pos,after,guard⟩:=o;cases op<;>first|(simp[nE]at XR;done)|(exact(W2 XR).elim)|skip
      case call c=>
       obtain⟨callee,args,ts⟩:=c;cases callee
       case builtin bi=>cases bi<;>first|(exact(W2 XR).elim)|(simp[nE]at XR;done)
       all_goals first|(exact(W2 XR).elim)|(simp[nE]at XR;done)
      case alloc t=>
       simp only[vc,nZ]at h ⊢;split at h
       ·obtain⟨i,h2,h3⟩:=h;exact⟨i,h2,fun _=>eG.put h2,_,rfl,h3⟩
       ·exact h.elim
      case box t x=>obtain⟨h1,i,h2,h3⟩:=h;exact⟨h1,i,h2,fun _=>eG.put h2,_,rfl,h3⟩
      case store t a x=>
       simp only[nE,Bool.and_eq_true,Bool.not_eq_true']at XR;simp only[iW,XR.1,XR.2,Bool.false_or]at hA;simp only[vc,wN]at h ⊢;split at h
       ·rename_i i m k j n ha hn;have hi:A.1.contains i=true:=by rw[ha]at hA;exact hA
        split at h
        ·rename_i r hr;obtain⟨h1,h2⟩:=h;exact⟨h1,fun _=>eG.set hi,_,rfl,h2⟩
        ·exact h.elim
       ·exact h.elim
     ·exact Jb o.op (fun r H' hk=>⟨fun haW=>(XR haW).elim,r,rfl,hk⟩) h
 ·rename_i j want hg;split at h
  ·rename_i b hb;by_cases YR:pi A o=true
   ·rw[if_pos YR]at h;refine .inl ⟨by simp[nF,YR],fun G hG=>?_⟩;obtain⟨dst,op,ty,pos,after,guard⟩:=o;simp only at hg;subst hg;have hc:jm op=true:=by unfold pi at YR;simp only[Bool.and_eq_true]at YR;exact YR.2
    cases op<;>first|(cases hc;done)|skip
    rename_i c;obtain⟨callee,args,ts⟩:=c;cases callee<;>first|(cases hc;done)|skip
    rename_i f;have hev:∀x∈(Op.call ⟨.value f,args,ts⟩).operands.toList,bM G x=bM F x:=hG.1;have hbG:=hG.2 j want rfl;rw[hb]at hbG;have hGg:∀x∈(Op.call ⟨.value f,args,ts⟩).operands.toList,bK G x=bK F x:=fun x hx=>by unfold bK;rw[hev x hx]
    refine pT rfl hbG (fun VE w tm Q next h1 h2 hn=>?_) (fun VE=>⟨.gd false (.raw (.bool false)),qH rfl,⟨fun _=>eG.refl _ _,_,rfl,h.2 VE⟩⟩);obtain⟨ok,Vz⟩:=h.1 VE;have ok:gp G (.call ⟨.value f,args,ts⟩)=true:=by unfold gp at ok ⊢;rw[List.all_eq_true]at ok ⊢;exact fun x hx=>by rw[hev x hx];exact ok x hx
    have Xw:=qy ok;have e1:kN G f=bK F f:=(Xw f (by simp[Op.operands,Call.operands])).trans (hGg f (by simp[Op.operands,Call.operands]));have e2:args.toList.map (kN G)=args.toList.map (bK F):=List.map_congr_left fun x hx=>(Xw x (by simp[Op.operands,Call.operands]at hx ⊢;exact .inr hx)).trans (hGg x (by simp[Op.operands,Call.operands]at hx ⊢;exact .inr hx))
    refine xa (ev:=kN G) e1 e2 Vz h1 (sQ h2) fun v r' w' H' hR g1 g2 g3=>?_
    rw[Act.put_eq];exact hn _ w' _ H' ⟨fun _=>hR.1,r',rfl,hR.2⟩ g1 ((h2.ext g3).put dst g2 []) g3
   rw[if_neg YR]at h;obtain⟨hq,hv⟩:=h;obtain⟨r,h1,h2⟩:=A0 hv;have h3:=h2 F (fun r'=>r'=.gd b r) (fun _ _=>rfl) rfl;exact .inr ⟨by simp[nF,hg,YR],_,C1 hg hb hq h3,fun hd H'=>C1 hg hb hq (by rw[TO hd]at h3;exact h3),(fun WX=>by
    unfold px at WX;split at WX
    ·rw[hg]at WX;cases WX
    ·cases WX),h1⟩
  ·exact h.elim
def dN(l:List Oper)(i:Nat):Oper:=l.getD i default
def lh(A:AS)(l:List Oper)(i:Nat):Bool:=nF A (dN l i)
def pD(A:AS)(E:UW)(l:List Oper)(ps:List UW):UW->UW->Bool
 |done,[]=>(List.range l.length).all fun i=>done.contains i
 |done,i::rest=>((ps.getD i []).all fun k=>done.contains k) && !done.contains i && decide (i<l.length) &&
   (!lh A l i || ((rest.all fun k=>(ps.getD k []).contains i || E.contains k) && done.all fun q=>lh A l q || !pn (dN l q) || (ps.getD i []).contains q || (nE A (dN l i) && px (dN l q)))) && pD A E l ps (i::done) rest
def qu(A:AS)(E:UW)(l:List Oper)(ord:UW):Bool:=uO l && pD A E l (kK l) [] ord && E.all fun i=>!uW A (dN l i) && !oU A (dN l i)
def mem(done:UW)(i:Nat):Bool:=done.contains i
variable{l:List Oper}{done:UW}
def uQ{E:UW}{rest:UW}(h:pD A E l (kK l) done (i::rest)=true) :
  (∀k∈(kK l).getD i [],k∈done)/\i ∉ done/\i<l.length/\(lh A l i=true->(∀k∈rest,i∈(kK l).getD k []\/k∈E)/\∀q∈done,lh A l q=true\/pn (dN l q)=false\/q∈(kK l).getD i []\/(nE A (dN l i)=true/\px (dN l q)=true))/\pD A E l (kK l) (i::done) rest=true:=by
 simp only[pD,Bool.and_eq_true,List.all_eq_true,List.contains_iff_mem,Bool.not_eq_true',decide_eq_true_eq,Bool.or_eq_true]at h;obtain⟨⟨⟨⟨h1,h2⟩,h3⟩,h4⟩,h5⟩:=h;refine⟨h1,by simpa using h2,h3,fun he=>?_,h5⟩;rcases h4 with h4|h4
 ·rw[he]at h4;cases h4
 ·exact⟨h4.1,fun q hq=>by
   rcases h4.2 q hq with((h|h)|h)|h
   ·exact .inl h
   ·exact .inr (.inl h)
   ·exact .inr (.inr (.inl h))
   ·exact .inr (.inr (.inr h))⟩
theorem MF{A:AS}{E:UW}{l:List Oper}:∀{rest done:UW},pD A E l (kK l) done rest=true->∀e∈rest,lh A l e=true->∀q∈done,lh A l q=true\/pn (dN l q)=false\/q∈(kK l).getD e []\/(nE A (dN l e)=true/\px (dN l q)=true)
 |[],_,_=>fun e he=>by simp at he
 |i::rest,done,h=>fun e he Yo q hq=>by
  obtain⟨_,_,_,h4,h5⟩:=uQ h;rcases List.mem_cons.1 he with rfl|he
  ·exact(h4 Yo).2 q hq
  ·exact MF h5 e he Yo q (List.mem_cons_of_mem _ hq)
theorem DN{A:AS}{E:UW}{l:List Oper}:∀{rest done:UW},pD A E l (kK l) done rest=true->∀i,i<l.length->i∈done\/i∈rest
 |[],done,h=>fun i hi=>by simp only[pD,List.all_eq_true,List.mem_range,List.contains_iff_mem]at h;exact .inl (h i hi)
 |j::rest,done,h=>fun i hi=>by
  obtain⟨_,_,_,_,h5⟩:=uQ h;rcases DN h5 i hi with h|h
  ·rcases List.mem_cons.1 h with rfl|h
   ·exact .inr jE
   ·exact .inl h
  ·exact .inr (List.mem_cons_of_mem _ h)
def mz:mem done i=true<->i∈done:=by simp[mem]
def Dh(done:UW)(i:Nat):(fun k=>mem (i::done) k)=fun k=>mem done k || k == i:=by
 funext k
 rw[Bool.eq_iff_iff];simp[mem,or_comm]
def zc(ho:l[i]?=some o){e:Edge}(he:e∈o.after.toList)(hb:Region.binds .any e=true):e.on∈(kK l).getD i []:=by rw[IW ho,Dv];exact List.mem_flatMap.2 ⟨e,List.mem_filter.2 ⟨he,hb⟩,jE⟩
theorem FI{os:List Oper}{rs F:US}{L L':U2}{s:Nat}(h:∀k o,os[k]?=some o->o.dst=some s->L k=L' k):∀m,lU os rs L F s m=lU os rs L' F s m
 |0=>rfl
 |m+1=>by
  unfold lU;rw[FI h m];cases ho:os[m]? with
  |none=>simp
  |some o=>
   simp only[Option.bind_some];by_cases hd:o.dst=some s
   ·rw[h m o ho hd]
   ·simp[hd]
theorem rK{os:List Oper}{rs F:US}{L:U2}{i:Nat}{r:AV}(hL:L i=false):∀m,FL os (rs.set i r) L F m=FL os rs L F m
 |0=>rfl
 |m+1=>by
  unfold FL;rw[rK hL m];by_cases hm:m=i
  ·subst hm;simp[hL]
  ·have:(rs.set i r).getD m .any=rs.getD m .any:=by simp[List.getElem?_set,Ne.symm hm]
   rw[this]
section
variable {l:List Oper}(I':∀j o,l[j]?=some o->∀e∈o.after.toList,Region.binds .any e=true->e.on<j)
 (U9:∀i j a b,i<j->l[i]?=some a->l[j]?=some b->ue l a b=true->i∈(kK l).getD j [])
include I' U9
variable{L:U2}
theorem Ci(Xg:oD l L){i:Nat}{o:Oper}(ho:l[i]?=some o)(Yn:L i=false)(V5:∀e∈o.after.toList,Region.binds .any e=true->L e.on=true) :
  ∀k o' s,l[k]?=some o'->o'.dst=some s->(s∈looks l o\/o.dst=some s)->L k=decide (k<i):=by
 intro k o' s hk hs VH;have VA:=v8 Xg I' (i+1) i jB o ho V5;rcases Nat.lt_trichotomy k i with h|h|h
 ·rw[decide_eq_true h];refine VA k (U9 k i o' o h hk ho ?_);unfold ue;rw[hs];rcases VH with h5|h5
  ·simp[h5]
  ·simp[h5]
 ·subst h;simpa using Yn
 ·rw[decide_eq_false jB];cases hv:L k with
  |false=>rfl
  |true=>
   have WA:i∈(kK l).getD k []:=U9 i k o o' h ho hk (by
    unfold ue;rw[hs];rcases VH with h5|h5
    ·simp[h5]
    ·simp[h5])
   have:=v8 Xg I' (k+1) k jB o' hk (fun e he hb=>Xg k o' hk hv e he hb) i WA;rw[Yn]at this;cases this
theorem Fh{rs F:US}{L':U2}(hL:oD l L)(W7:oD l L'){i:Nat}{o:Oper}(ho:l[i]?=some o)(h1:L i=false)(h2:L' i=false)
  (h3:∀e∈o.after.toList,Region.binds .any e=true->L e.on=true) (h4:∀e∈o.after.toList,Region.binds .any e=true->L' e.on=true):yl l.toArray o (FL l rs L F l.length) (FL l rs L' F l.length):=by
 refine GU (by rw[lW,lW]) fun s hs J'=>?_
 rw[lW]at J';rw[tA _ _ _ _ J',tA _ _ _ _ J'];exact(FI (fun k o' hk hd=>by rw[Ci I' U9 hL ho h1 h3 k o' s hk hd (.inl hs),Ci I' U9 W7 ho h2 h4 k o' s hk hd (.inl hs)]) _).symm
theorem vV{rs F:US}{L2:U2}(hL:oD l L){i:Nat}{o:Oper}(ho:l[i]?=some o)(h1:L i=false)(h3:∀e∈o.after.toList,Region.binds .any e=true->L e.on=true){r:AV}(hr:rs.getD i .any=r)(Xc:∀k,L2 k=(L k || k == i)) :
  cr (FL l rs L F l.length) o.dst r=FL l rs L2 F l.length:=by
 have WK:=(List.getElem?_eq_some_iff.1 ho).1;refine HV (m':=0) (L':=fun _=>true) (by cases o.dst<;>simp[cr,lW]) fun s hs=>?_
 by_cases hd:o.dst=some s
 ·rw[Bf (L:=L) ho Xc (fun k o' hk hd'=>Ci I' U9 hL ho h1 h3 k o' s hk hd' (.inr hd)) hd _ WK,hd,hr];simp[cr,lW,hs]
 ·rw[BJ (L:=L) ho Xc hd,<-tA _ _ _ _ hs];cases hd':o.dst with
  |none=>rfl
  |some d=>
   have:d≠s:=fun e=>hd (by rw[hd',e])
   simp[cr,List.getElem?_set,this]
end
structure Inv(A:AS)(E:List Nat)(P:Program)(l:List Oper)(K:List AV->Hp->Prop)(F:List AV)(L:Nat->Bool)(done rest:List Nat)(rs:List AV)(H:Hp):Prop where
 len:rs.length=l.length
 sub:∀i,L i=true->i∈done\/i∈E
 eT:oD l L
 lj:oD l (mem done)
 ord:pD A E l (kK l) done rest=true
 walk:fC A P l.toArray K (rest.map (dN l)) (FL l rs (mem done) F l.length) H
 wait:∀i∈done,L i=false->lh A l i=false/\i<l.length/\∃D,oD l D/\D i=false/\(∀k,D k=true->k∈done)/\(∀e∈(dN l i).after.toList,Region.binds .any e=true->D e.on=true)/\
  QV P l.toArray (dN l i) (FL l rs D F l.length) H (rs.getD i .any)/\(pn (dN l i)=false->∀H',QV P l.toArray (dN l i) (FL l rs D F l.length) H' (rs.getD i .any))/\(px (dN l i)=true->∀H',eG A H H'->QV P l.toArray (dN l i) (FL l rs D F l.length) H' (rs.getD i .any))
def Az(hi:i<l.length):l[i]?=some (dN l i):=by simp[dN,hi]
def sk(P:U3)(l:List Oper):UW->Prop
 |[]=>True
 |i::E=>(match (dN l i).op with|.alloc t=>(dS P t).isSome=true|_=>False)/\(dN l i).guard=none/\sk P l E
theorem yU{P:U3}{l:List Oper}:∀{E:UW},sk P l E->∀i∈E,∃t zs,(dN l i).op=.alloc t/\dS P t=some zs/\(dN l i).guard=none
 |[],_,i,hi=>by simp at hi
 |j::E,h,i,hi=>by
  obtain⟨h1,h2,h3⟩:=h;rcases List.mem_cons.1 hi with rfl|hi
  ·split at h1
   ·rename_i t e;obtain⟨zs,hz⟩:=Option.isSome_iff_exists.1 h1;exact⟨t,zs,e,hz,h2⟩
   ·exact h1.elim
  ·exact yU h3 i hi
def Cb(A:AS)(P:U3)(l:List Oper)(E:UW):Prop:=sk P l E/\∀i∈E,uW A (dN l i)=false/\oU A (dN l i)=false
def PG{P:U3}{E:UW}(h:Cb A P l E)(hi:i∈E):lh A l i=true/\nE A (dN l i)=true:=by obtain⟨t,zs,e,_,hg⟩:=yU h.1 i hi;simp[lh,nF,nE,e,hg,di,oG,qd,(h.2 i hi).1]
def Hid(P:U3)(l:List Oper)(L:U2)(done:UW)(rs:US)(w0 w:NW)(β:Nat->Nat):Prop:=∀i,L i=true->i ∉ done->
 (∃t cur,(dN l i).op=.alloc t/\dS P t=some cur.toList/\rs.getD i .any=.raw (.pointer (some ⟨β i,0,none⟩))/\w.heap[β i]?=some (.cells cur t (0,0))/\w.O (β i)/\w0.heap.size<=β i/\β i<w.heap.size/\∀j m t s,w.nm j m≠some (.at (β i) t s))/\∀j,L j=true->j ∉ done->β i=β j->i=j
def Hid.ext{P:U3}{L:U2}{rs:US}{w0 w w':NW}{β:Nat->Nat}{H:Hp}(h:Hid P l L done rs w0 w β)(e:Ext w H w' H'):Hid P l L done rs w0 w' β:=fun i h1 h2=>by obtain⟨⟨t,cur,a1,a2,a3,a4,a5,a6,a7,a8⟩,b⟩:=h i h1 h2;obtain⟨e1,e2,e3⟩:=e.rest (β i) a7 a5 a8;exact⟨⟨t,cur,a1,a2,a3,e1.trans a4,e2,a6,Nat.lt_of_lt_of_le a7 e.size,e3⟩,b⟩
def Rx{w:NW}{H:Hp}(r:aF w H){b:Nat}{cur:U0}(hi:H.get i=none)(hb:w.heap[b]?=some (.cells cur t (0,0)))(hO:w.O b)(I':b<w.heap.size)(Vd:∀j m t s,w.nm j m≠some (.at b t s)) :
  aF (w.name i 0 (.at b cur.size 0)) (H.put i (.var t (cur.toList.map .raw)))/\Keep rW w (w.name i 0 (.at b cur.size 0))/\aw (w.name i 0 (.at b cur.size 0)) (.pt i 0 0 0) (.pointer (some ⟨b,0,none⟩)):=by
 have V9:∀j n,(w.name i 0 (.at b cur.size 0)).nm j n=if j=i/\n=0 then some (Rz.at b cur.size 0)else w.nm j n:=fun _ _=>rfl
 have kp:Keep rW w (w.name i 0 (.at b cur.size 0)):=⟨Nat.le_refl _,fun _ _ h=>⟨rfl,h⟩,fun j n z _ h=>by
  rw[V9,if_neg]
  ·exact h
  ·rintro⟨rfl,rfl⟩;rw[r.none hi]at h;cases h⟩
 refine⟨{ rows:=fun j s hj=>?_,dt:=fun j n z hz=>?_,inj:=fun j n j' n' b' t1 s1 t2 s2 h1 h2=>?_,own:=fun j n b' t1 s1 h=>?_,fin:=r.fin,bY:=r.bY.aU kp },kp,?_⟩
 ·rw[Hp.bj]at hj;split at hj
  ·rename_i e;subst e;cases hj;refine⟨trivial,.at b cur.size 0,by rw[V9];exact if_pos ⟨rfl,rfl⟩,rfl,cur,hb,⟨rfl,by show(cur.toList.map AV.raw).length<=_;simp⟩,fun k a v ha hv=>?_⟩;have ha:(cur.toList.map AV.raw)[k]?=some a:=ha;simp only[List.getElem?_map,Array.getElem?_toList,hv,Option.map_some,Option.some.injEq]at ha;subst ha;exact .raw _
  ·rename_i e;obtain⟨h1,z,h2,h3⟩:=r.rows j s hj;refine⟨h1,z,by rw[V9,if_neg (fun h=>e h.1)];exact h2,?_⟩;cases z with
   |nil=>exact h3
   |«at» b' t' st=> obtain⟨g1,Ww,g2,g3,g5⟩:=h3;exact⟨g1,Ww,g2,g3,fun k a v ha hv=>(g5 k a v ha hv).aU kp (nH a)⟩
 ·rw[V9]at hz;rw[Hp.bj];split at hz
  ·rename_i e;exact⟨_,by rw[if_pos e.1],by rw[e.2];exact Nat.zero_le _⟩
  ·obtain⟨r',h1,h2⟩:=r.dt j n z hz;have e:j≠i:=fun e=>by subst e;rw[hi]at h1;cases h1
   exact⟨r',by rw[if_neg e];exact h1,h2⟩
 ·rw[V9]at h1 h2;split at h1<;>split at h2
  ·rename_i e1 e2;rw[e1.1,e2.1]
  ·cases h1;exact(Vd _ _ _ _ h2).elim
  ·cases h2;exact(Vd _ _ _ _ h1).elim
  ·exact r.inj _ _ _ _ _ _ _ _ _ h1 h2
 ·rw[V9]at h;split at h
  ·cases h;exact hO
  ·exact r.own _ _ _ _ _ h
 ·have:=aw.pt (w:=w.name i 0 (.at b cur.size 0)) i 0 0 0 b cur.size 0 (NW.ci _ _ _ _);simpa using this
def KM{w0 w:NW}{H0 H:Hp}(e:Ext w0 H0 w H)(r:aF w H){b sz:Nat}(hi:H.get i=none)(hb:w0.heap.size<=b)(hB:H'.B=H.B):Ext w0 H0 (w.name i 0 (.at b sz 0)) H':={
 size:=e.size,free:=e.free
 names:=fun j n z hq h=>by
  have:=e.names j n z hq h;show(if j=i/\n=0 then _ else _)=_;rw[if_neg]
  ·exact this
  ·rintro⟨rfl,rfl⟩;rw[r.none hi]at this;cases this
 os:=e.os,tape:=e.tape,output:=e.output
 rest:=fun c hc hO Vd=>by
  obtain⟨e1,e2,e3⟩:=e.rest c hc hO Vd;refine⟨e1,e2,fun j n t s h=>?_⟩;have h:(if j=i/\n=0 then some (Rz.at b sz 0)else w.nm j n)=some (.at c t s):=h;split at h
  ·cases h;omega
  ·exact e3 _ _ _ _ h
 base:=hB.trans e.base }
theorem EP{os:List Oper}{rs F:US}{L:U2}{i:Nat}{r:AV}:∀(m:Nat) (s:Nat) (a:AV),(FL os (rs.set i r) L F m)[s]?=some a->(FL os rs L F m)[s]?=some a\/(a=r/\(FL os rs L F m)[s]?=some (rs.getD i .any)/\i<rs.length)
 |0=>fun s a h=>.inl h
 |m+1=>fun s a h=>by
  have ih:=EP (os:=os) (rs:=rs) (F:=F) (L:=L) (i:=i) (r:=r) m;have hl:(FL os (rs.set i r) L F m).length=(FL os rs L F m).length:=by rw[lW,lW]
  unfold FL at h ⊢;cases hL:L m with
  |false=>simp only[hL,Bool.false_eq_true,if_false]at h ⊢;exact ih s a h
  |true=>
   simp only[hL,if_true]at h ⊢;cases hd:(os[m]?).bind (·.dst)with
   |none=>rw[hd]at h;exact ih s a h
   |some d=>
    rw[hd]at h;simp only[cr]at h ⊢;rw[List.getElem?_set]at h ⊢;by_cases e:d=s
    ·subst e;simp only[if_true]at h ⊢;rw[hl]at h;split at h
     ·rename_i I';rw[if_pos I'];simp only[Option.some.injEq]at h;by_cases hm:i=m
      ·subst hm;by_cases hi:i<rs.length
       ·refine .inr ⟨?_,rfl,hi⟩;rw[<-h];simp[hi]
       ·refine .inl ?_;rw[<-h];simp[hi,List.getElem?_set]
      ·refine .inl ?_;rw[<-h];simp[List.getElem?_set,hm]
     ·cases h
    ·simp only[if_neg e]at h ⊢;exact ih s a h
section
variable {A:AS}{E:UW}{l:List Oper}{K:UO}{F:US}(hok:uO l=true)(hE:Cb A P l E)
include hok
variable{done:UW}{i:Nat}
theorem AT(hi:i<l.length)(hd:oD l (mem done))(hp:∀k∈(kK l).getD i [],k∈done):oD l (mem (i::done)):=fun j o ho hj e he hb=>by
 rw[mz]at hj ⊢;rcases List.mem_cons.1 hj with rfl|hj
 ·exact List.mem_cons_of_mem _ (hp _ (zc ho he hb))
 ·exact List.mem_cons_of_mem _ (mz.1 (hd j o ho (mz.2 hj) e he hb))
include hE
theorem BZ:∀(rest:UW) {L:U2} {done:UW} {rs:US},Inv A E P l K F L done rest rs H->
  ∃done' Wj V4,Inv A E P l K F L done' Wj V4 H/\(∀i r,Wj=i::r->lh A l i=true)/\FL l V4 L F l.length=FL l rs L F l.length/\Wj.length<=rest.length/\(∀w0 w β,Hid P l L done rs w0 w β->Hid P l L done' V4 w0 w β)
 |[],L,done,rs,h=>⟨done,[],rs,h,(fun i r e=>by cases e),rfl,Nat.le_refl _,fun _ _ _ h=>h⟩
 |i::rest,L,done,rs,h=>by
  obtain⟨I',U9⟩:=wj hok;cases he:lh A l i with
  |true=>exact⟨done,i::rest,rs,h,fun j r e=>by cases e;exact he,rfl,Nat.le_refl _,fun _ _ _ h=>h⟩
  |false=>
   obtain⟨hp,hni,WK,_,h5⟩:=uQ h.ord;have ho:=Az WK;have hw:=h.walk;rw[List.map_cons]at hw;rcases Hg hw with⟨hx,_⟩|⟨_,r,q1,q2,q2',q3⟩
   ·unfold lh at he;rw[he]at hx;cases hx
   have X8:mem done i=false:=by rw[<-Bool.not_eq_true,mz];exact hni
   have hLi:L i=false:=by
    cases e:L i with
    |false=>rfl
    |true=>
     rcases h.sub i e with h6|h6
     ·exact(hni h6).elim
     ·rw[(PG (A:=A) hE h6).1]at he;cases he
   have V5:∀e∈(dN l i).after.toList,Region.binds .any e=true->mem done e.on=true:=fun e he hb=>mz.2 (hp _ (zc ho he hb))
   have U7:∀D:U2,(∀k,D k=true->k∈done)->FL l (rs.set i r) D F l.length=FL l rs D F l.length:=fun D hD=>rK (by
    cases e:D i with
    |false=>rfl
    |true=>exact(hni (hD i e)).elim) _
   have Vo:(rs.set i r).getD i .any=r:=by simp[h.len,WK]
   have VZ:∀j,j≠i->(rs.set i r).getD j .any=rs.getD j .any:=fun j hj=>by simp[List.getElem?_set,Ne.symm hj]
   have X7:=vV (rs:=rs.set i r) (F:=F) I' U9 h.lj ho X8 V5 Vo (L2:=mem (i::done)) (fun k=>by rw[show mem (i::done) k=(fun k=>mem (i::done) k) k from rfl,Dh]);rw[U7 _ (fun k hk=>mz.1 hk)]at X7;have hinv:Inv A E P l K F L (i::done) rest (rs.set i r) H:=by
    refine⟨by simpa using h.len,fun k hk=>(h.sub k hk).imp_left (List.mem_cons_of_mem _),h.eT,AT hok WK h.lj hp,h5,by rw[<-X7];exact q3,fun j hj WW=>?_⟩;rcases List.mem_cons.1 hj with rfl|hj
    ·exact⟨he,WK,mem done,h.lj,X8,fun k hk=>List.mem_cons_of_mem _ (mz.1 hk),V5,by rw[U7 _ (fun k hk=>mz.1 hk),Vo];exact q1,fun hd H'=>by rw[U7 _ (fun k hk=>mz.1 hk),Vo];exact q2 hd H',fun hd H' Vj=>by rw[U7 _ (fun k hk=>mz.1 hk),Vo];exact q2' hd H' Vj⟩
    ·obtain⟨w1,w2,D,w3,w4,w5,w6,w7,w8,w9⟩:=h.wait j hj WW;have WN:j≠i:=fun e=>hni (e ▸ hj)
     exact⟨w1,w2,D,w3,w4,fun k hk=>List.mem_cons_of_mem _ (w5 k hk),w6,by rw[U7 _ w5,VZ j WN];exact w7,fun hd H'=>by rw[U7 _ w5,VZ j WN];exact w8 hd H',fun hd H' Vj=>by rw[U7 _ w5,VZ j WN];exact w9 hd H' Vj⟩
   obtain⟨d',r',V4,g1,g2,g3,g4,g5⟩:=BZ rest hinv;refine⟨d',r',V4,g1,g2,by rw[g3,rK hLi],by simp;omega,fun w0 w β hh=>g5 w0 w β fun k Vs Va=>?_⟩;have WA:k≠i:=fun e=>Va (by simp[e])
   obtain⟨a,b⟩:=hh k Vs fun Xo=>Va (List.mem_cons_of_mem _ Xo)
   rw[VZ k WA];exact⟨a,fun j YE Xy=>b j YE fun hj3=>Xy (List.mem_cons_of_mem _ hj3)⟩
variable{L:U2}{rest:UW}
theorem Ga{L2:U2}{rs:US}{r:AV}{H':Hp}(h:Inv A E P l K F L done (i::rest) rs H)(Yo:lh A l i=true)(Xc:∀k,L2 k=(L k || k == i))(X9:nE A (dN l i)=true->eG A H H')
  (VA:∀k∈(kK l).getD i [],L k=true):∀j∈i::done,L2 j=false->lh A l j=false/\j<l.length/\∃D,oD l D/\D j=false/\(∀k,D k=true->k∈i::done)/\(∀e∈(dN l j).after.toList,Region.binds .any e=true->D e.on=true)/\
  QV P l.toArray (dN l j) (FL l (rs.set i r) D F l.length) H' ((rs.set i r).getD j .any)/\(pn (dN l j)=false->∀VU,QV P l.toArray (dN l j) (FL l (rs.set i r) D F l.length) VU ((rs.set i r).getD j .any))/\(px (dN l j)=true->∀VU,eG A H' VU->QV P l.toArray (dN l j) (FL l (rs.set i r) D F l.length) VU ((rs.set i r).getD j .any)):=by
 intro j hj WW;obtain⟨hp,VZ,Xp,h4,h5⟩:=uQ h.ord;have U7:∀D:U2,(∀k,D k=true->k∈done)->FL l (rs.set i r) D F l.length=FL l rs D F l.length:=fun D hD=>rK (by
  cases e:D i with
  |false=>rfl
  |true=>exact(VZ (hD i e)).elim) _
 have hgn:∀j,j≠i->(rs.set i r).getD j .any=rs.getD j .any:=fun j hj=>by simp[List.getElem?_set,Ne.symm hj]
 rw[Xc]at WW;obtain⟨WW,WN⟩:=Bool.or_eq_false_iff.1 WW;have WN:j≠i:=by simpa using WN
 have hj:j∈done:=by rcases List.mem_cons.1 hj with e|h;exact(WN e).elim;exact h
 obtain⟨w1,w2,D,w3,w4,w5,w6,w7,w8,w9⟩:=h.wait j hj WW;have haX:QV P l.toArray (dN l j) (FL l rs D F l.length) H' (rs.getD j .any):=by
  rcases(h4 Yo).2 j hj with h6|h6|h6|h6
  ·rw[w1]at h6;cases h6
  ·exact w8 h6 H'
  ·have:=VA j h6;rw[WW]at this;cases this
  ·exact w9 h6.2 H' (X9 h6.1)
 refine⟨w1,w2,D,w3,w4,fun k hk=>List.mem_cons_of_mem _ (w5 k hk),w6,by rw[U7 _ w5,hgn j WN];exact haX,fun hd VU=>by rw[U7 _ w5,hgn j WN];exact w8 hd VU,fun hd VU Vj=>?_⟩;rw[U7 _ w5,hgn j WN];rcases(h4 Yo).2 j hj with h6|h6|h6|h6
 ·rw[w1]at h6;cases h6
 ·exact w8 h6 VU
 ·have:=VA j h6;rw[WW]at this;cases this
 ·exact w9 h6.2 VU ((X9 h6.1).trans Vj)
theorem Gz{w0:NW}{H0:Hp}:∀(n:Nat) {L:U2} {done rest:UW} {rs:US} {H:Hp} {w:NW} {tm:U0} {β:Nat->Nat},rest.length<=n->Inv A E P l K F L done rest rs H->aF w H->br w (FL l rs L F l.length) tm->Ext w0 H0 w H->Hid P l L done rs w0 w β->
  ∃done' Wj V4 H' w',NW.toWorld w'=w.toWorld/\Inv A E P l K F L done' Wj V4 H'/\(∀i r,Wj=i::r->lh A l i=true/\L i=false)/\aF w' H'/\br w' (FL l V4 L F l.length) tm/\Ext w0 H0 w' H'/\Hid P l L done' V4 w0 w' β
 |n,L,done,rest,rs,H,w,tm,β,hn,h,h1,h2,h3,h4=>by
  obtain⟨I',U9⟩:=wj hok;obtain⟨d',r',V4,g1,g2,g3,g4,g5⟩:=BZ hok hE rest h;have g5:=g5 _ _ _ h4;rw[<-g3]at h2;cases r' with
  |nil=>exact⟨d',[],V4,H,w,rfl,g1,(fun i r e=>by cases e),h1,h2,h3,g5⟩
  |cons i r=>
   have Yo:=g2 i r rfl;cases hLi:L i with
   |false=>exact⟨d',i::r,V4,H,w,rfl,g1,(fun j q e=>by cases e;exact⟨Yo,hLi⟩),h1,h2,h3,g5⟩
   |true=>
    obtain⟨hp,VZ,Xp,c4,c5⟩:=uQ g1.ord;obtain⟨⟨t,cur,a1,a2,a3,a4,a5,a6,a7,a8⟩,a9⟩:=g5 i hLi VZ;have hiE:i∈E:=(g1.sub i hLi).resolve_left VZ;have YR:(dN l i).guard=none:=by obtain⟨_,_,_,_,hg⟩:=yU hE.1 i hiE;exact hg
    have hw:=g1.walk;rw[List.map_cons]at hw;unfold fC at hw;rw[YR]at hw;simp only at hw;rw[if_neg (by rw[(hE.2 i hiE).1];exact Bool.false_ne_true),if_neg (by rw[(hE.2 i hiE).2];exact Bool.false_ne_true)]at hw;obtain⟨_,hw⟩:=hw;rw[a1,Cc (by simp[oG]) (by simp[qd])]at hw;simp only[vc,nZ,a2]at hw;obtain⟨id,hid,hv⟩:=hw;have ho:=Az Xp;obtain⟨k1,k2,k3⟩:=Rx h1 hid a4 a5 a7 a8;have X8:mem d' i=false:=by rw[<-Bool.not_eq_true,mz];exact VZ
    have Wr:∀e∈(dN l i).after.toList,Region.binds .any e=true->mem d' e.on=true:=fun e he hb=>mz.2 (hp _ (zc ho he hb))
    have Vo:(V4.set i (.pt id 0 0 0)).getD i .any=.pt id 0 0 0:=by simp[g1.len,Xp]
    have U7:∀D:U2,(∀k,D k=true->k∈d')->FL l (V4.set i (.pt id 0 0 0)) D F l.length=FL l V4 D F l.length:=fun D hD=>rK (by
     cases e:D i with
     |false=>rfl
     |true=>exact(VZ (hD i e)).elim) _
    have V0:=vV (rs:=V4.set i (.pt id 0 0 0)) (F:=F) I' U9 g1.lj ho X8 Wr Vo (L2:=mem (i::d')) (fun k=>by rw[show mem (i::d') k=(fun k=>mem (i::d') k) k from rfl,Dh]);rw[U7 _ (fun k hk=>mz.1 hk)]at V0;have VA:∀k∈(kK l).getD i [],L k=true:=v8 g1.eT I' (i+1) i jB _ ho fun e he hb=>g1.eT i _ ho hLi e he hb
    have hinv:Inv A E P l K F L (i::d') r (V4.set i (.pt id 0 0 0)) (H.put id (.var t (cur.toList.map .raw))):=
     ⟨by simpa using g1.len,fun k hk=>(g1.sub k hk).imp_left (List.mem_cons_of_mem _),g1.eT,AT hok Xp g1.lj hp,c5,by rw[<-V0];exact hv,
      Ga hok hE g1 Yo (fun k=>by
       by_cases e:k=i
       ·subst e;simp[hLi]
       ·simp[e]) (fun _=>eG.put hid) VA⟩
    have Vp:br (w.name id 0 (.at (β i) cur.size 0)) (FL l (V4.set i (.pt id 0 0 0)) L F l.length) tm:=by
     refine⟨by rw[lW];have:=h2.1;rw[lW]at this;exact this,fun s a v ha Ve=>?_⟩;rcases EP l.length s a ha with h6|⟨rfl,h6,_⟩
     ·exact(h2.2 s a v h6 Ve).aU k2 (nH a)
     ·have:=h2.2 s _ v h6 Ve;rw[a3]at this;have:=cZ this;subst this;exact k3
    have Zr:Hid P l L (i::d') (V4.set i (.pt id 0 0 0)) w0 (w.name id 0 (.at (β i) cur.size 0)) β:=fun k Vs Va=>by
     have WA:k≠i:=fun e=>Va (by simp[e])
     have Xo:k ∉ d':=fun e=>Va (List.mem_cons_of_mem _ e)
     obtain⟨⟨t',Ww,b1,b2,b3,b4,b5,b6,b7,b8⟩,b9⟩:=g5 k Vs Xo;refine⟨⟨t',Ww,b1,b2,by rw[<-b3];simp[List.getElem?_set,Ne.symm WA],b4,b5,b6,b7,fun j m t1 s1 hh=>?_⟩,fun j YE Xy=>b9 j YE fun e=>Xy (List.mem_cons_of_mem _ e)⟩;have hh:(if j=id/\m=0 then some (Rz.at (β i) cur.size 0)else w.nm j m)=some (.at (β k) t1 s1):=hh;split at hh
     ·simp only[Option.some.injEq,Rz.at.injEq]at hh;exact WA (a9 k Vs Xo hh.1).symm
     ·exact b8 _ _ _ _ hh
    simp only[List.length_cons]at g4;obtain⟨n,rfl⟩:∃k,n=k+1:=⟨n-1,jB⟩;obtain⟨d2,r2,rs2,H2,w2,x1,x2,x3,x4,x5,x6,x7⟩:=Gz n jB hinv k1 Vp (KM h3 h1 hid a6 rfl) Zr;exact⟨d2,r2,rs2,H2,w2,x1,x2,x3,x4,x5,x6,x7⟩
theorem Qi{rs:US}(h:Inv A E P l K F L done rest rs H)(hs:∀i r,rest=i::r->lh A l i=true/\L i=false){o:Oper}(ho:l[i]?=some o)(hi:L i=false)(V5:∀e∈o.after.toList,Region.binds .any e=true->L e.on=true)
  {L2:U2} (Xc:∀k,L2 k=(L k || k == i)) (hnE:i∈done\/i ∉ E\/∃r,rest=i::r) :
  nB P l.toArray o (FL l rs L F l.length) H fun G' H'=>∃done' Wj V4,Inv A E P l K F L2 done' Wj V4 H'/\G'=FL l V4 L2 F l.length/\∀w0 w β,Hid P l L done rs w0 w β->Hid P l L2 done' V4 w0 w β:=by
 obtain⟨I',U9⟩:=wj hok;have WK:=(List.getElem?_eq_some_iff.1 ho).1;obtain rfl:o=dN l i:=by have:=(Az WK).symm.trans ho;cases this;rfl
 have Ya:oD l L2:=fun j o' hj WW e he hb=>by
  rw[Xc]at WW ⊢;rcases Bool.or_eq_true_iff.1 WW with h6|h6
  ·rw[h.eT j o' hj h6 e he hb];rfl
  ·obtain rfl:j=i:=by simpa using h6
   rw[ho]at hj;cases hj;rw[V5 e he hb];rfl
 by_cases hd:i∈done
 ·obtain⟨w1,w2,D,w3,w4,w5,w6,w7,w8,w9⟩:=h.wait i hd hi;refine(w7 _ (Fh I' U9 w3 h.eT ho w4 hi w6 V5)).mono ?_;rintro G' H' ⟨rfl,rfl⟩;refine⟨done,rest,rs,⟨h.len,fun k hk=>?_,Ya,h.lj,h.ord,h.walk,fun j hj WW=>h.wait j hj ?_⟩,vV I' U9 h.eT ho hi V5 rfl Xc,fun w0 w β hh k Vs Va=>?_⟩
  ·rw[Xc]at hk;rcases Bool.or_eq_true_iff.1 hk with h6|h6
   ·exact h.sub k h6
   ·obtain rfl:k=i:=by simpa using h6
    exact .inl hd
  ·rw[Xc]at WW;exact(Bool.or_eq_false_iff.1 WW).1
  ·have Zf:∀k,L2 k=true->k ∉ done->L k=true:=fun k h1 h2=>by
    rw[Xc]at h1;rcases Bool.or_eq_true_iff.1 h1 with h6|h6
    ·exact h6
    ·obtain rfl:k=i:=by simpa using h6
     exact(h2 hd).elim
   obtain⟨a,b⟩:=hh k (Zf k Vs Va) Va;exact⟨a,fun j YE Xy=>b j (Zf j YE Xy) Xy⟩
 ·-- the next effect
  have Vk:i∈rest:=(DN h.ord i WK).resolve_left hd;obtain⟨e,Wj,rfl⟩:∃e r,rest=e::r:=by cases rest with|nil=>simp at Vk|cons e r=>exact⟨e,r,rfl⟩
  obtain⟨Yo,hLe⟩:=hs e Wj rfl;obtain⟨hp,VZ,Xp,h4,h5⟩:=uQ h.ord;have VA:=v8 h.eT I' (i+1) i jB _ ho V5;obtain rfl:i=e:=by
   rcases List.mem_cons.1 Vk with h|hr
   ·exact h
   ·rcases(h4 Yo).1 i hr with h6|h6
    ·have:=VA e h6;rw[hLe]at this;cases this
    ·rcases hnE with h7|h7|⟨r,h7⟩
     ·exact(hd h7).elim
     ·exact(h7 h6).elim
     ·cases h7;rfl
  have X8:mem done i=false:=by rw[<-Bool.not_eq_true,mz];exact VZ
  have Wr:∀e∈(dN l i).after.toList,Region.binds .any e=true->mem done e.on=true:=fun e he hb=>mz.2 (hp _ (zc ho he hb))
  have hw:=h.walk;rw[List.map_cons]at hw;obtain⟨_,hx⟩:=(Hg hw).resolve_right fun⟨hx,_⟩=>by unfold lh at Yo;rw[Yo]at hx;cases hx
  refine(hx _ (Fh I' U9 h.lj h.eT ho X8 hi Wr V5)).mono ?_;rintro G' H' ⟨X9,r,rfl,hv⟩;have U7:∀D:U2,(∀k,D k=true->k∈done)->FL l (rs.set i r) D F l.length=FL l rs D F l.length:=fun D hD=>rK (by
   cases e:D i with
   |false=>rfl
   |true=>exact(VZ (hD i e)).elim) _
  have Vo:(rs.set i r).getD i .any=r:=by simp[h.len,WK]
  have V0:=vV (rs:=rs.set i r) (F:=F) I' U9 h.lj ho X8 Wr Vo (L2:=mem (i::done)) (fun k=>by rw[show mem (i::done) k=(fun k=>mem (i::done) k) k from rfl,Dh]);rw[U7 _ (fun k hk=>mz.1 hk)]at V0;have Xd:=vV (rs:=rs.set i r) (F:=F) I' U9 h.eT ho hi V5 Vo Xc;rw[rK hi]at Xd;refine⟨i::done,Wj,rs.set i r,⟨by simpa using h.len,fun k hk=>?_,Ya,AT hok WK h.lj hp,h5,by rw[<-V0];exact hv,Ga hok hE h Yo Xc X9 VA⟩,Xd,fun w0 w β hh k Vs Va=>?_⟩
  ·rw[Xc]at hk;rcases Bool.or_eq_true_iff.1 hk with h6|h6
   ·exact(h.sub k h6).imp_left (List.mem_cons_of_mem _)
   ·obtain rfl:k=i:=by simpa using h6
    simp
  ·have Zf:∀k,L2 k=true->k ∉ i::done->L k=true/\k ∉ done/\k≠i:=fun k h1 h2=>by
    rw[Xc]at h1;simp only[List.mem_cons,not_or]at h2;rcases Bool.or_eq_true_iff.1 h1 with h6|h6
    ·exact⟨h6,h2.2,h2.1⟩
    ·exact(h2.1 (by simpa using h6)).elim
   obtain⟨y1,y2,y3⟩:=Zf k Vs Va;obtain⟨⟨t,cur,b1,b2,b3,b4⟩,b⟩:=hh k y1 y2;exact⟨⟨t,cur,b1,b2,by rw[<-b3];simp[List.getElem?_set,Ne.symm y3],b4⟩,fun j YE Xy=>b j (Zf j YE Xy).1 (Zf j YE Xy).2.1⟩
theorem Ry{rs:US}(h:Inv A E P l K F L done rest rs H){o:Oper}(ho:l[i]?=some o)(hi:L i=false)(hd:i ∉ done)(hiE:i∈E)(V5:∀e∈o.after.toList,Region.binds .any e=true->L e.on=true)
  {L2:U2} (Xc:∀k,L2 k=(L k || k == i)) {w0 w:NW} {H0:Hp} {tm:U0} {β:Nat->Nat} (h1:aF w H) (h2:br w (FL l rs L F l.length) tm) (h3:Ext w0 H0 w H) (h4:Hid P l L done rs w0 w β) {Q:Exit->Act->World->Prop} {next:Act->World->Prop}
  (hn:∀VI w' V4 β',Inv A E P l K F L2 done rest V4 H->aF w' H->br w' (FL l V4 L2 F l.length) VI->Ext w0 H0 w' H->Hid P l L2 done V4 w0 w' β'->next ⟨VI,[]⟩ w'.toWorld):te P l.toArray Q o next ⟨tm,[]⟩ w.toWorld:=by
 obtain⟨I',U9⟩:=wj hok;have WK:=(List.getElem?_eq_some_iff.1 ho).1;obtain rfl:o=dN l i:=by have:=(Az WK).symm.trans ho;cases this;rfl
 obtain⟨t,zs,e1,e2,e3⟩:=yU hE.1 i hiE;obtain⟨z,B',rfl⟩:=yW (w:=w.toWorld) e2;have Ya:oD l L2:=fun j o' hj WW e he hb=>by
  rw[Xc]at WW ⊢;rcases Bool.or_eq_true_iff.1 WW with h6|h6
  ·rw[h.eT j o' hj h6 e he hb];rfl
  ·obtain rfl:j=i:=by simpa using h6
   rw[ho]at hj;cases hj;rw[V5 e he hb];rfl
 have Vo:(rs.set i (.raw (.pointer (some ⟨w.heap.size,0,none⟩)))).getD i .any=.raw (.pointer (some ⟨w.heap.size,0,none⟩)):=by simp[h.len,WK]
 have VZ:∀j,j≠i->∀r:AV,(rs.set i r).getD j .any=rs.getD j .any:=fun j hj r=>by simp[List.getElem?_set,Ne.symm hj]
 have U7:∀(r:AV) (D:U2),(∀k,D k=true->k∈done)->FL l (rs.set i r) D F l.length=FL l rs D F l.length:=fun r D hD=>rK (by
  cases e:D i with
  |false=>rfl
  |true=>exact(hd (hD i e)).elim) _
 have Xd:=vV (rs:=rs.set i (.raw (.pointer (some ⟨w.heap.size,0,none⟩)))) (F:=F) I' U9 h.eT ho hi V5 Vo Xc;rw[rK hi]at Xd;have ex:Ext w H ((w.to (w.alloc (.cells z.cells t))).fZ w.heap.size) H:={
  size:=by show w.heap.size<=(w.alloc _).heap.size;simp
  free:=fun b hb hn=>⟨RowKit.Below.heap_alloc w.toWorld _ b hb,fun h=>by
   rcases h with h|h
   ·omega
   ·exact hn h⟩
  names:=fun _ _ _ _ h=>h
  os:=rfl,tape:=rfl,output:=rfl
  rest:=fun b hb hO Vd=>⟨RowKit.Below.heap_alloc w.toWorld _ b hb,.inr hO,Vd⟩
  base:=rfl }
 have hW:aF ((w.to (w.alloc (.cells z.cells t))).fZ w.heap.size) H:={
  rows:=fun j row hj=>by obtain⟨g1,y,g2,g3⟩:=h1.rows j row hj;refine⟨g1,y,g2,g3.ext ex fun b t' s e=>?_⟩;subst e;exact RowKit.Below.heap_alloc w.toWorld _ b (h1.lt g2)
  dt:=h1.dt,inj:=h1.inj,bY:=h1.bY.aU ex.toKeep
  own:=fun j n b t' s hh=>.inr (h1.own j n b t' s hh)
  fin:=fun b hb=>by
   show b<(w.alloc _).heap.size;rcases hb with hh|hh
   ·subst hh;simp
   ·have:=h1.fin b hh;simp;omega }
 have Zf:∀k,L2 k=true->k≠i->L k=true:=fun k h1 h2=>by rw[Xc]at h1;exact(Bool.or_eq_true_iff.1 h1).resolve_right (by simpa using h2)
 unfold te;rw[if_pos (by simp[Region.wanted,e3])];refine .inl ?_;have hex:(execOp (Act.mk tm []).eval (dN l i)).run P w.toWorld=.ok (.value (.pointer (some ⟨w.heap.size,0,none⟩))) (w.alloc (.cells z.cells t)):=by
  have:∀(o:Oper),o.op=.alloc t->(execOp (Act.mk tm []).eval o).run P w.toWorld=.ok (.value (.pointer (some ⟨w.heap.size,0,none⟩))) (w.alloc (.cells z.cells t)):=fun o ho=>by obtain⟨dst,op,ty,pos,after,guard⟩:=o;simp only at ho;subst ho;simp only[execOp,Sem.run_bind,Instr.alloc,B',Result.andThen_ok,newVar,newRow];simp
  exact this _ e1
 simp only[Oper.wp,hex,Oper.upon];rw[Act.put_eq];refine hn _ ((w.to (w.alloc (.cells z.cells t))).fZ w.heap.size) (rs.set i (.raw (.pointer (some ⟨w.heap.size,0,none⟩)))) (fun k=>if k=i then w.heap.size else β k) ⟨by simpa using h.len,fun k hk=>?_,Ya,h.lj,h.ord,by rw[U7 _ _ (fun k hk=>mz.1 hk)];exact h.walk,fun j hj WW=>?_⟩ hW ?_ (h3.trans ex) ?_
 ·rw[Xc]at hk;rcases Bool.or_eq_true_iff.1 hk with h6|h6
  ·exact h.sub k h6
  ·obtain rfl:k=i:=by simpa using h6
   exact .inr hiE
 ·rw[Xc]at WW;obtain⟨w1,w2,D,w3,w4,w5,w6,w7,w8,w9⟩:=h.wait j hj (Bool.or_eq_false_iff.1 WW).1;have WN:j≠i:=fun e=>hd (e ▸ hj)
  exact⟨w1,w2,D,w3,w4,w5,w6,by rw[U7 _ _ w5,VZ j WN];exact w7,fun hd H'=>by rw[U7 _ _ w5,VZ j WN];exact w8 hd H',fun hd H' Vj=>by rw[U7 _ _ w5,VZ j WN];exact w9 hd H' Vj⟩
 ·rw[<-Xd];exact(h2.ext ex).put _ (.raw _) []
 ·intro k Vs Va;by_cases WA:k=i
  ·subst WA;refine⟨⟨t,z.cells,e1,e2,by simp only[if_true];exact Vo,by simp only[if_true];exact heap_alloc_new w.toWorld _,by simp only[if_true];exact .inl rfl,by simp only[if_true];exact h3.size,by simp only[if_true];show w.heap.size<(w.alloc _).heap.size;simp,fun j m t' s hh=>?_⟩,fun j YE Xy e=>?_⟩
   ·simp only[if_true]at hh;have hh:w.nm j m=some (.at w.heap.size t' s):=hh;have:=h1.lt hh;omega
   ·by_cases hjk:j=k
    ·exact hjk.symm
    ·exfalso;obtain⟨⟨_,_,_,_,_,_,_,_,b7,_⟩,_⟩:=h4 j (Zf j YE hjk) Xy;simp only[if_true,if_neg hjk]at e;omega
  ·obtain⟨⟨t',cur,b1,b2,b3,b4,b5,b6,b7,b8⟩,b9⟩:=h4 k (Zf k Vs WA) Va;simp only[if_neg WA];refine⟨⟨t',cur,b1,b2,by rw[VZ k WA];exact b3,(RowKit.Below.heap_alloc w.toWorld _ _ b7).trans b4,.inr b5,b6,Nat.lt_of_lt_of_le b7 ex.size,b8⟩,fun j YE Xy e=>?_⟩;by_cases WN:j=i
   ·subst WN;simp only[if_true]at e;omega
   ·simp only[if_neg WN]at e;exact b9 j (Zf j YE WN) Xy e
theorem Ql{Q:Exit->UO}(hQ:∀F H,K F H->Q .normal F H){H0:Hp}(w0:NW) :
  ∀(fuel:Nat) (listed:Array Bool),listed.size=l.length->(List.range l.length).countP (fun i=>!listed.getD i false)=fuel->
   ∀H done rest rs (w:NW) tm β,Inv A E P l K F (fun i=>listed.getD i false) done rest rs H->(∀i r,rest=i::r->lh A l i=true/\listed.getD i false=false)->
    aF w H->br w (FL l rs (fun i=>listed.getD i false) F l.length) tm->Ext w0 H0 w H->Hid P l (fun i=>listed.getD i false) done rs w0 w β->wpAny P .any l.toArray (gZ Q w0 H0) fuel listed ⟨tm,[]⟩ w.toWorld:=by
 obtain⟨I',U9⟩:=wj hok;have fin:∀(listed:Array Bool) H done rest rs,Inv A E P l K F (fun i=>listed.getD i false) done rest rs H->(∀i r,rest=i::r->lh A l i=true/\listed.getD i false=false)->(∀i,i<l.length->listed.getD i false=true)->∀(w:NW) tm,aF w H->br w (FL l rs (fun i=>listed.getD i false) F l.length) tm->Ext w0 H0 w H->gZ Q w0 H0 .normal ⟨tm,[]⟩ w.toWorld:=by
  intro listed H done rest rs h hs Vm w tm h1 h2 h3;obtain rfl:rest=[]:=by
   cases rest with
   |nil=>rfl
   |cons i r=> obtain⟨_,hni,WK,_⟩:=uQ h.ord;have h6:=(hs i r rfl).2;rw[Vm i WK]at h6;cases h6
  have e:FL l rs (fun i=>listed.getD i false) F l.length=FL l rs (mem done) F l.length:=by
   have gen:∀m,m<=l.length->FL l rs (fun i=>listed.getD i false) F m=FL l rs (mem done) F m:=by
    intro m;induction m with
    |zero=>intro _;rfl
    |succ m ih=> intro hm;have h4:=Vm m jB;have h5:mem done m=true:=mz.2 ((DN h.ord m jB).resolve_right jE);rw[FL,FL,ih jB,h4,h5]
   exact gen _ jl
  rw[e]at h2;exact⟨tm,_,H,w,rfl,rfl,hQ _ _ h.walk,h1,h2,h3.qA⟩
 intro fuel;induction fuel with
 |zero=>
  intro listed Vb YQ H done rest rs w tm β h hs h1 h2 h3 _;have Vm:∀i,i<l.length->listed.getD i false=true:=fun i hi=>by have:=(List.countP_eq_zero.1 YQ) i (List.mem_range.2 hi);simpa using this
  refine⟨?_,fin listed H done rest rs h hs Vm w tm h1 h2 h3⟩;rw[List.eq_nil_iff_forall_not_mem];intro j hj;obtain⟨hj0,o,ho,_⟩:=mem_ready.1 hj;have Xh:j<l.length:=by have:=(Array.getElem?_eq_some_iff.1 ho).1;simpa using this
  have:=Vm j Xh;simp[Vb,Xh]at this hj0;rw[this]at hj0;cases hj0
 |succ fuel ih=>
  intro listed Vb YQ H done rest rs w tm β h hs h1 h2 h3 Zr;refine⟨fun hac=>?_,fun i hi=>?_⟩
  ·exfalso;have hex:∃i,i<l.length/\listed.getD i false=false:=by
    have VK:0<(List.range l.length).countP (fun i=>!listed.getD i false):=jB;obtain⟨i,hi,hp⟩:=List.countP_pos_iff.1 VK;exact⟨i,List.mem_range.1 hi,by simpa using hp⟩
   obtain⟨i,⟨hi,hf⟩,XW⟩:=exists_least hex;have ho:l[i]?=some l[i]:=List.getElem?_eq_getElem hi;have:i∈Region.ready .any l.toArray listed:=mem_ready.2 ⟨by simp[Vb,hi]at hf ⊢;exact hf,l[i],by simp[hi],fun e he hb=>by
    have h4:=I' i _ ho e (by simpa using he) hb;cases hv:listed.getD e.on false with
    |true=>rfl
    |false=>have:=XW e.on ⟨jB,hv⟩;omega⟩
   rw[hac]at this;cases this
  ·obtain⟨Xi,o,ho,V5⟩:=mem_ready.1 hi;have W6:l[i]?=some o:=by simpa using ho
   have WK:=(List.getElem?_eq_some_iff.1 W6).1;have Yn:listed.getD i false=false:=by simp[Vb,WK]at Xi ⊢;exact Xi
   have Wr:∀e∈o.after.toList,Region.binds .any e=true->listed.getD e.on false=true:=fun e he hb=>V5 e (by simpa using he) hb
   have W7:∀k,(listed.setIfInBounds i true).getD k false=(listed.getD k false || k == i):=fun k=>by
    by_cases hk:k=i
    ·subst hk;simp[Vb,WK]
    ·simp[Array.getElem?_setIfInBounds_ne (Ne.symm hk),hk]
   have haE:(List.range l.length).countP (fun k=>!(listed.setIfInBounds i true).getD k false)=fuel:=by
    have:∀(n:Nat),i<n->(List.range n).countP (fun k=>!(listed.setIfInBounds i true).getD k false)+1=(List.range n).countP (fun k=>!listed.getD k false):=by
     intro n;induction n with
     |zero=>intro h;omega
     |succ n ihn=>
      intro h;rw[List.range_succ,List.countP_append,List.countP_append];by_cases hn:n=i
      ·subst hn;have:(List.range n).countP (fun k=>!(listed.setIfInBounds n true).getD k false)=(List.range n).countP (fun k=>!listed.getD k false):=by
        refine List.countP_congr fun k hk=>?_
        rw[W7];have:k≠n:=by have:=List.mem_range.1 hk;omega
        simp[this]
       rw[this];simp only[List.countP_singleton,W7,Yn];simp
      ·rw[<-ihn jB];simp only[List.countP_singleton,W7];have:(n == i)=false:=by simpa using hn
       rw[this,Bool.or_false];omega
    have:=this l.length WK;omega
   have go:∀{d' r' V4 H'} {w':NW} {VI} {β'},Inv A E P l K F (fun k=>(listed.setIfInBounds i true).getD k false) d' r' V4 H'->aF w' H'->br w' (FL l V4 (fun k=>(listed.setIfInBounds i true).getD k false) F l.length) VI->Ext w0 H0 w' H'->Hid P l (fun k=>(listed.setIfInBounds i true).getD k false) d' V4 w0 w' β'->
     wpAny P .any l.toArray (gZ Q w0 H0) fuel (listed.setIfInBounds i true) ⟨VI,[]⟩ w'.toWorld:=fun{d' r' V4 H' w' VI β'} k1 k2 k3 k4 k5=>by
    obtain⟨d2,r2,rs2,H2,w2,x1,x2,x3,x4,x5,x6,x7⟩:=Gz hok hE r'.length jl k1 k2 k3 k4 k5;rw[<-x1];exact ih (listed.setIfInBounds i true) (by simpa using Vb) haE H2 d2 r2 rs2 w2 VI β' x2 x3 x4 x5 x6 x7
   unfold wpOp;rw[ho];by_cases XY:i ∉ done/\i∈E/\¬ ∃r,rest=i::r
   ·have:=Ry hok hE h W6 Yn XY.1 XY.2.1 Wr (L2:=fun k=>(listed.setIfInBounds i true).getD k false) W7 h1 h2 h3 Zr (Q:=gZ Q w0 H0) (next:=wpAny P .any l.toArray (gZ Q w0 H0) fuel (listed.setIfInBounds i true)) fun VI w' V4 β' k1 k2 k3 k4 k5=>go k1 k2 k3 k4 k5
    exact this
   ·have hnE:i∈done\/i ∉ E\/∃r,rest=i::r:=by
     by_cases a:i∈done
     ·exact .inl a
     ·by_cases b:i∈E
      ·exact .inr (.inr (Classical.byContradiction fun c=>XY ⟨a,b,c⟩))
      ·exact .inr (.inl b)
    have W3:=Qi hok hE h hs W6 Yn Wr (L2:=fun k=>(listed.setIfInBounds i true).getD k false) W7 hnE;have:=W3 w tm (gZ Q w0 H0) (wpAny P .any l.toArray (gZ Q w0 H0) fuel (listed.setIfInBounds i true)) h1 h2 (by rintro VI w' F' H' ⟨d',r',V4,k1,rfl,k2⟩ g1 g2 g3;exact go k1 g1 g2 (h3.trans g3) (k2 _ _ _ (Zr.ext g3)))
    exact this
end
def CG(A:AS)(E:UW){id:Nat}(ord:UW){Q:Exit->UO}(hm:P.follows .mixedOrders=true)(hok:qu A E l ord=true)(hE:sk P l E)(h:fC A P l.toArray (Q .normal) (ord.map (dN l)) F H):dJ P (.region id l.toArray true) Q F H:=fun w tm h1 h2=>by
 simp only[qu,Bool.and_eq_true,List.all_eq_true,Bool.not_eq_true']at hok;obtain⟨⟨hdr,haY⟩,hqE⟩:=hok;have hE:Cb A P l E:=⟨hE,hqE⟩;have hz:∀i,(Array.replicate l.toArray.size false).getD i false=false:=fun i=>by by_cases hi:i<l.length<;>simp[Array.getElem?_replicate,hi]
 refine wp_region_any hm ?_;have e0:∀(rs:US) (L:U2),(∀i,L i=false)->FL l rs L F l.length=F:=fun rs L hL=>by
  have gen:∀m,FL l rs L F m=F:=by
   intro m;induction m with
   |zero=>rfl
   |succ m ih=>rw[FL,hL,if_neg jE,ih]
  exact gen _
 have hinv:Inv A E P l (Q .normal) F (fun i=>(Array.replicate l.toArray.size false).getD i false) [] ord (List.replicate l.length .any) H:=
  ⟨jE,(fun i hi=>by have:=(hz i).symm.trans hi;cases this),(fun j o _ hj=>by have:=(hz j).symm.trans hj;cases this),(fun j o _ hj=>by simp[mem]at hj),haY,
   (by rw[e0 _ _ (fun i=>by simp[mem])];exact h),(fun i hi=>by simp at hi)⟩
 obtain⟨d',r',V4,k1,k2,k3,_⟩:=BZ hdr hE ord hinv;refine Ql hdr hE (fun _ _ h=>h) w l.toArray.size (Array.replicate l.toArray.size false) jE (by rw[List.countP_eq_length.2 (fun i _=>by rw[hz];rfl)];simp) H d' r' V4 (w.to w.drew) tm (fun _=>0) k1 (fun i r e=>⟨k2 i r e,hz i⟩) h1.drew (by rw[e0 _ _ hz];exact h2.ext (Ext.drew w H)) (Ext.drew w H) (fun i hi _=>by have:=(hz i).symm.trans hi;cases this)
end
variable{P:U3}{H:Hp}{id:Nat}{F:US}{Q:Exit->UO}
def Gv(A:AS){l:List Oper}(ord:UW)(hm:P.follows .mixedOrders=true)(hok:qu A [] l ord=true)(h:fC A P l.toArray (Q .normal) (ord.map (dN l)) F H):dJ P (.region id l.toArray true) Q F H:=CG A [] ord hm hok trivial h
def Qv{l:List Oper}(ord:UW)(hm:P.follows .mixedOrders=true)(hok:qu ([],[],[]) [] l ord=true)(h:fC ([],[],[]) P l.toArray (Q .normal) (ord.map (dN l)) F H):dJ P (.region id l.toArray true) Q F H:=Gv ([],[],[]) ord hm hok h
section
variable {P:U3}{ev:UZ}{H:Hp}{ty:UY}{K:UP}
@[go_sem] def j72:(∀(x:Operand),fm P ev H ty K (.move x)=vc P ev H ty K (.move x))/\(∀(x:Operand),fm P ev H ty K (.assign x)=vc P ev H ty K (.assign x))/\(∀(c a b:Operand),fm P ev H ty K (.pick c a b)=vc P ev H ty K (.pick c a b))/\(∀(x:Operand),fm P ev H ty K (.nilCheck x)=vc P ev H ty K (.nilCheck x))/\(∀(op:UnOp) (t:UY) (x:Operand),fm P ev H ty K (.unOp op t x)=vc P ev H ty K (.unOp op t x))/\(∀(t:UY) (x:Operand),fm P ev H ty K (.load t x)=vc P ev H ty K (.load t x))/\(∀(t:UY) (x:Operand) (f:Nat),fm P ev H ty K (.fieldAddr t x f)=vc P ev H ty K (.fieldAddr t x f))/\(∀(t:UY) (x:Operand) (f:Nat),fm P ev H ty K (.field t x f)=vc P ev H ty K (.field t x f))/\(∀(t:UY) (x i:Operand),fm P ev H ty K (.indexAddr t x i)=vc P ev H ty K (.indexAddr t x i))/\(∀(t:UY) (x i:Operand),fm P ev H ty K (.index t x i)=vc P ev H ty K (.index t x i))/\(∀(x:Operand) (i:Nat),fm P ev H ty K (.extract x i)=vc P ev H ty K (.extract x i))/\(∀(t:UY) (a:Operand) (lo hi mx:Option Operand),fm P ev H ty K (.slice t a lo hi mx)=vc P ev H ty K (.slice t a lo hi mx))/\(∀(fn:Fn) (a b:Array Operand),fm P ev H ty K (.makeFunc fn a b)=vc P ev H ty K (.makeFunc fn a b))/\(∀(s d:UY) (x:Operand),fm P ev H ty K (.convert s d x)=vc P ev H ty K (.convert s d x))/\(∀(t:UY) (ps:Array (Nat×Operand)),fm P ev H ty K (.build t ps)=vc P ev H ty K (.build t ps))/\(∀(as:Array Operand) (ts:Array UY),fm P ev H ty K (.call ⟨.builtin .len,as,ts⟩)=vc P ev H ty K (.call ⟨.builtin .len,as,ts⟩)):=by and_intros<;>(intros;rfl)
@[go_sem] def j9M:(∀(as:Array Operand) (ts:Array UY),fm P ev H ty K (.call ⟨.builtin .min,as,ts⟩)=vc P ev H ty K (.call ⟨.builtin .min,as,ts⟩))/\(∀(t:UY) (x y:Operand) (t':UY),fm P ev H ty K (.binOp .add t x y t')=vc P ev H ty K (.binOp .add t x y t'))/\(∀(t:UY) (x y:Operand) (t':UY),fm P ev H ty K (.binOp .sub t x y t')=vc P ev H ty K (.binOp .sub t x y t'))/\(∀(t:UY) (x y:Operand) (t':UY),fm P ev H ty K (.binOp .rem t x y t')=vc P ev H ty K (.binOp .rem t x y t'))/\(∀(t:UY) (x y:Operand) (t':UY),fm P ev H ty K (.binOp .lss t x y t')=vc P ev H ty K (.binOp .lss t x y t'))/\(∀(t:UY) (x y:Operand) (t':UY),fm P ev H ty K (.binOp .gtr t x y t')=vc P ev H ty K (.binOp .gtr t x y t'))/\(∀(t:UY) (x y:Operand) (t':UY),fm P ev H ty K (.binOp .geq t x y t')=vc P ev H ty K (.binOp .geq t x y t')):=by and_intros<;>(intros;rfl)
@[go_sem] def j9H(t:UY)(x y:Operand)(t':UY):fm P ev H ty K (.binOp .eql t x y t')=((fp P .eql t (ev x) (ev y)).1/\K (fp P .eql t (ev x) (ev y)).2 H):=by simp[fm,oG,vq]
@[go_sem] def j9N(t:UY)(x y:Operand)(t':UY):fm P ev H ty K (.binOp .neq t x y t')=((fp P .neq t (ev x) (ev y)).1/\K (fp P .neq t (ev x) (ev y)).2 H):=by simp[fm,oG,vq]
@[go_sem] def j9G:(∀(t:UY) (x:Operand),fm P ev H ty K (.box t x)=vc P ev H ty K (.box t x))/\(∀(t:UY),fm P ev H ty K (.alloc t)=vc P ev H ty K (.alloc t))/\(∀(t:UY) (a x:Operand),fm P ev H ty K (.store t a x)=vc P ev H ty K (.store t a x))/\(∀(t:UY) (n:Nat) (ps:Array (Nat×Operand)),fm P ev H ty K (.buildSlice t n ps)=pG P t n (ps.toList.map fun p=>(p.1,ev p.2)) fun r=>K r H)/\(∀(f:Operand) (as:Array Operand) (ts:Array UY),fm P ev H ty K (.call ⟨.value f,as,ts⟩)=vc P ev H ty K (.call ⟨.value f,as,ts⟩))/\(∀(f:Operand) (m:String) (as:Array Operand) (ts:Array UY),fm P ev H ty K (.call ⟨.invoke f m,as,ts⟩)=vc P ev H ty K (.call ⟨.invoke f m,as,ts⟩))/\(∀(t:UY) (a x:Operand),fm P ev H ty K (.call ⟨.builtin .append,#[a,x],#[t,t]⟩)=vc P ev H ty K (.call ⟨.builtin .append,#[a,x],#[t,t]⟩))/\(∀(as:Array Operand) (ts:Array UY),fm P ev H ty K (.call ⟨.builtin .copy,as,ts⟩)=vc P ev H ty K (.call ⟨.builtin .copy,as,ts⟩)):=by and_intros<;>(intros;rfl)
end
variable{C D:UW}
@[go_sem] def j7I{ev:UZ}(op:Op):iW ([],C,D) ev op=true:=by cases op<;>first|rfl|(rename_i t x;simp only[iW];generalize ev x=a;cases a<;>first|rfl|simp[tG])
variable{A:AS}
@[go_sem] def j40{ev:UZ}(t:UY)(x:Operand):iW A ev (.load t x)=tG A (ev x):=(rfl)
@[go_sem] def j23{ev:UZ}(t:UY)(a x:Operand):iW A ev (.store t a x)=((A.1.isEmpty || A.2.2.contains 1000000) || DF A (ev a)):=(rfl)
@[go_sem] def j3w(A:AS)(i m k j:Nat):tG A (.pt i m k j)=(!A.1.contains i && (decide (1<=j) || !A.1.contains (i+16))):=(rfl)
@[go_sem] def j3v:(∀(A:AS) (cs:US),tG A (.ip cs)=true)/\(∀(A:AS) (i m k j:Nat),DF A (.pt i m k j)=A.1.contains i)/\(∀{A:AS} {ev:UZ} (x:Operand),iW A ev (.move x)=true)/\(∀{A:AS} {ev:UZ} (x:Operand),iW A ev (.assign x)=true)/\(∀{A:AS} {ev:UZ} (c a b:Operand),iW A ev (.pick c a b)=true)/\(∀{A:AS} {ev:UZ} (x:Operand),iW A ev (.nilCheck x)=true)/\(∀{A:AS} {ev:UZ} (op:UnOp) (t:UY) (x:Operand),iW A ev (.unOp op t x)=true)/\(∀{A:AS} {ev:UZ} (op:BinOp) (t:UY) (x y:Operand) (t':UY),iW A ev (.binOp op t x y t')=true)/\(∀{A:AS} {ev:UZ} (t:UY) (x:Operand) (f:Nat),iW A ev (.fieldAddr t x f)=true)/\(∀{A:AS} {ev:UZ} (t:UY) (x:Operand) (f:Nat),iW A ev (.field t x f)=true)/\(∀{A:AS} {ev:UZ} (t:UY) (x i:Operand),iW A ev (.indexAddr t x i)=true)/\(∀{A:AS} {ev:UZ} (t:UY) (x i:Operand),iW A ev (.index t x i)=true)/\(∀{A:AS} {ev:UZ} (x:Operand) (i:Nat),iW A ev (.extract x i)=true)/\(∀{A:AS} {ev:UZ} (t:UY) (ps:Array (Nat×Operand)),iW A ev (.build t ps)=true)/\(∀{A:AS} {ev:UZ} (c:Call),iW A ev (.call c)=true)/\(∀{A:AS} {ev:UZ} (t:UY),iW A ev (.alloc t)=true):=by and_intros<;>(intros;rfl)
@[go_sem] def j7H:(∀{A:AS} {ev:UZ} (t:UY) (x:Operand),iW A ev (.box t x)=true)/\(∀{A:AS} {ev:UZ} (s d:UY) (x:Operand),iW A ev (.convert s d x)=true)/\(∀{A:AS} {ev:UZ} (t:UY) (n:Nat) (ps:Array (Nat×Operand)),iW A ev (.buildSlice t n ps)=true)/\(∀{A:AS} {P:U3} {ops:Array Oper} {K:UO} (F:US) (H:Hp),fC A P ops K [] F H=K F H):=by and_intros<;>(intros;rfl)
variable{L:UW}{ops:Array Oper}{K:UO}
@[go_sem] def j57(dst:Option Tmp)(op:Op)(ty:UY)(pos:String)(after:Array Edge)(rest:List Oper)(F:US)(H:Hp) :
  fC (L,[],[]) P ops K (⟨dst,op,ty,pos,after,none⟩::rest) F H=(iW (L,[],[]) (bM F) op=true/\fm P (bM F) H ty (AP (fun r H'=>fC (L,[],[]) P ops K rest (cr F dst r) H') .mk) op):=by
 have e:uW (L,[],[]) ⟨dst,op,ty,pos,after,none⟩=false:=by cases dst<;>rfl
 have e':oU (L,[],[]) ⟨dst,op,ty,pos,after,none⟩=false:=by cases dst<;>rfl
 unfold fC;rw[show(⟨dst,op,ty,pos,after,none⟩:Oper).guard=none from rfl];simp only[e,e'];rfl
@[go_sem] def j3m(op:Op)(ty:UY)(pos:String)(after:Array Edge)(rest:List Oper)(F:US)(H:Hp) :
  fC (L,C,D) P ops K (⟨none,op,ty,pos,after,none⟩::rest) F H=(iW (L,C,D) (bM F) op=true/\fm P (bM F) H ty (AP (fun r H'=>fC (L,C,D) P ops K rest (cr F none r) H') .mk) op):=(rfl)
variable{t:Nat}
@[go_sem] def j3k{c:Nat}(op:Op)(ty:UY)(pos:String)(after:Array Edge)(rest:List Oper)(F:US)(H:Hp) :
  fC (L,c::C,D) P ops K (⟨some t,op,ty,pos,after,none⟩::rest) F H=pX ((c::C).contains t) (Dw P (bM F) H (wk (fun r=>fC (L,c::C,D) P ops K rest (cr F (some t) r) H) .mk) op)
   (pX (D.contains t) (u5 P (L,c::C,D) (bM F) H (AP (fun r H'=>fC (L,c::C,D) P ops K rest (cr F (some t) r) H') .mk) op) (iW (L,c::C,D) (bM F) op=true/\fm P (bM F) H ty (AP (fun r H'=>fC (L,c::C,D) P ops K rest (cr F (some t) r) H') .mk) op) .mk .mk) .mk .mk:=(rfl)
@[go_sem] def j3l{c:Nat}(op:Op)(ty:UY)(pos:String)(after:Array Edge)(rest:List Oper)(F:US)(H:Hp) :
  fC (L,[],c::D) P ops K (⟨some t,op,ty,pos,after,none⟩::rest) F H=pX ((c::D).contains t) (u5 P (L,[],c::D) (bM F) H (AP (fun r H'=>fC (L,[],c::D) P ops K rest (cr F (some t) r) H') .mk) op)
   (iW (L,[],c::D) (bM F) op=true/\fm P (bM F) H ty (AP (fun r H'=>fC (L,[],c::D) P ops K rest (cr F (some t) r) H') .mk) op) .mk .mk:=(rfl)
@[go_sem] def j75:(∀{P:U3} {A:AS} {ev:UZ} {H:Hp} {K:UP} (f:Operand) (as:Array Operand) (ts:Array UY),u5 P A ev H K (.call ⟨.value f,as,ts⟩)=eQ P (ev f) (as.toList.map ev) H (AP (fun r H'=>eG A H H'/\K r H') .mk))/\(∀{P:U3} {ev:UZ} {H:Hp} {K:AV->Prop} (f:Operand) (as:Array Operand) (ts:Array UY),Dw P ev H K (.call ⟨.value f,as,ts⟩)=∃r,(eQ P (ev f) (as.toList.map ev) H fun r' H'=>r'=r/\H'=H)/\K r):=by and_intros<;>(intros;rfl)
def sC(b:Bool)(X Y:Prop)(_:ix X)(_:ix Y):Prop:=(b=true->X)/\(b=false->Y)
@[go_sem] def j7X(X Y:Prop)(d:ix X)(e:ix Y):sC true X Y d e=X:=by unfold sC;simp
@[go_sem] def j5S(X Y:Prop)(d:ix X)(e:ix Y):sC false X Y d e=Y:=by unfold sC;simp
@[go_sem] def j3n(dst:Option Tmp)(op:Op)(ty:UY)(pos:String)(after:Array Edge)(j:Nat)(want:Bool)(rest:List Oper)(F:US)(H:Hp) :
  fC (L,C,[]) P ops K (⟨dst,op,ty,pos,after,some (j,want)⟩::rest) F H=rn (mo ops F j want) (fun b=>(jm op || iT op)=true/\eJ P F H b (wk (fun r=>fC (L,C,[]) P ops K rest (cr F dst r) H) .mk) op) .mk:=by
 have e:pi (L,C,[]) ⟨dst,op,ty,pos,after,some (j,want)⟩=false:=by unfold pi oU;cases dst<;>simp
 unfold rn;conv=>lhs;unfold fC
 simp only[e];rfl
def qL(F:US):List Operand->Prop
 |[]=>True
 |x::l=>(jZ (bM F x)).1=true/\qL F l
theorem EB(F:US):∀l:List Operand,((l.all fun x=>(jZ (bM F x)).1)=true)=qL F l
 |[]=>by simp[qL]
 |x::l=>by have:=EB F l;simp only[List.all_cons,Bool.and_eq_true,qL,this]
def Io(F:US)(f:Operand)(as:Array Operand)(ts:Array UY):(gp F (.call ⟨.value f,as,ts⟩)=true)=((jZ (bM F f)).1=true/\qL F as.toList):=by rw[<-EB];unfold gp;simp[Op.operands,Call.operands]
def Ds(P:U3)(A:AS)(F:US)(H:Hp)(K:UP):Op->Prop
 |.call { callee:=.value f,args,.. }=>((jZ (bM F f)).1=true/\qL F args.toList)/\eQ P (bK F f) (args.toList.map (bK F)) H (AP (fun r H'=>eG A H H'/\K r H') .mk)
 |_=>False
variable{K:UP}
@[go_sem] def j50(f:Operand)(as:Array Operand)(ts:Array UY):Ds P A F H K (.call ⟨.value f,as,ts⟩)=(((jZ (bM F f)).1=true/\qL F as.toList)/\eQ P (bK F f) (as.toList.map (bK F)) H (AP (fun r H'=>eG A H H'/\K r H') .mk)):=(rfl)
def Nq{op:Op}(h:jm op=true):(gp F op=true/\u5 P A (bK F) H K op)=Ds P A F H K op:=by
 cases op<;>first|(cases h;done)|skip
 rename_i c;obtain⟨callee,args,ts⟩:=c;cases callee<;>first|(cases h;done)|skip
 rename_i f;rw[Io];rfl
@[go_sem] def j2b{c:Nat}{K:UO}(op:Op)(ty:UY)(pos:String)(after:Array Edge)(j:Nat)(want:Bool)(rest:List Oper)(F:US)(H:Hp) :
  fC (L,C,c::D) P ops K (⟨some t,op,ty,pos,after,some (j,want)⟩::rest) F H=rn (mo ops F j want) (fun b=>pX ((c::D).contains t && jm op)
   (sC b (Ds P (L,C,c::D) F H (AP (fun r H'=>fC (L,C,c::D) P ops K rest (cr F (some t) r) H') .mk) op) (fC (L,C,c::D) P ops K rest (cr F (some t) (.gd false (.raw (.bool false)))) H) .mk .mk)
   ((jm op || iT op)=true/\eJ P F H b (wk (fun r=>fC (L,C,c::D) P ops K rest (cr F (some t) r) H) .mk) op) .mk .mk) .mk:=by
 conv=>lhs;unfold fC
 simp only;unfold rn pX sC;have YR:pi (L,C,c::D) ⟨some t,op,ty,pos,after,some (j,want)⟩=((c::D).contains t && jm op):=by unfold pi oU;simp
 cases mo ops F j want with
 |none=>rfl
 |some b=>
  simp only;rw[YR];by_cases hc:((c::D).contains t && jm op)=true
  ·rw[if_pos hc,if_pos hc];have hv:jm op=true:=by simp only[Bool.and_eq_true]at hc;exact hc.2
   rw[<-Nq hv];rfl
  ·rw[if_neg hc,if_neg hc];rfl
attribute [go_sem] qL
attribute [go_sem] dN pG sk
universe u
def bf:Nat->Nat->UW
 |_,0=>[]
 |k,n+1=>k::bf (k+1) n
variable{q:Prop}
def dz(e:q:=by first|(simp(disch:=first|omega|assumption|fail) only[go_sem,rD,W,↓reduceIte,Int.reduceEq,Int.reduceLE,Int.reduceLT,Int.reduceNe,Int.reduceToNat,Nat.reduceMul,Nat.reduceAdd,Nat.reduceLeDiff,Nat.reduceSub,Nat.reduceEqDiff,Nat.reduceBEq,List.nodup_cons,List.nodup_nil,List.mem_cons,List.not_mem_nil,List.mem_nil_iff];done)|(simp(disch:=first|omega|assumption|fail) only[go_sem,rD,↓reduceIte,Int.reduceEq,Int.reduceLE,Int.reduceLT,Int.reduceNe,Int.reduceToNat,Nat.reduceMul,Nat.reduceAdd,Nat.reduceLeDiff,Nat.reduceSub,Nat.reduceEqDiff,Nat.reduceBEq,List.nodup_cons,List.nodup_nil,List.mem_cons,List.not_mem_nil,List.mem_nil_iff];done)|fail):q:=e
def fj(e:q:=by first|(simp(disch:=first|omega|assumption|fail) only[go_sem,rD,W,↓reduceIte,Int.reduceEq,Int.reduceLE,Int.reduceLT,Int.reduceNe,Int.reduceToNat,Nat.reduceMul,Nat.reduceAdd,Nat.reduceLeDiff,Nat.reduceSub,Nat.reduceEqDiff,Nat.reduceBEq,List.nodup_cons,List.nodup_nil,List.mem_cons,List.not_mem_nil,List.mem_nil_iff];rfl)|(simp(disch:=first|omega|assumption|fail) only[go_sem,rD,↓reduceIte,Int.reduceEq,Int.reduceLE,Int.reduceLT,Int.reduceNe,Int.reduceToNat,Nat.reduceMul,Nat.reduceAdd,Nat.reduceLeDiff,Nat.reduceSub,Nat.reduceEqDiff,Nat.reduceBEq,List.nodup_cons,List.nodup_nil,List.mem_cons,List.not_mem_nil,List.mem_nil_iff];rfl)|rfl|fail):q:=e
def PR(e:q:=by first|(simp(disch:=first|omega|assumption|fail) only[go_sem,rD,W,↓reduceIte,Int.reduceEq,Int.reduceLE,Int.reduceLT,Int.reduceNe,Int.reduceToNat,Nat.reduceMul,Nat.reduceAdd,Nat.reduceLeDiff,Nat.reduceSub,Nat.reduceEqDiff,Nat.reduceBEq,List.nodup_cons,List.nodup_nil,List.mem_cons,List.not_mem_nil,List.mem_nil_iff];rfl)|(simp(disch:=first|omega|assumption|fail) only[go_sem,rD,↓reduceIte,Int.reduceEq,Int.reduceLE,Int.reduceLT,Int.reduceNe,Int.reduceToNat,Nat.reduceMul,Nat.reduceAdd,Nat.reduceLeDiff,Nat.reduceSub,Nat.reduceEqDiff,Nat.reduceBEq,List.nodup_cons,List.nodup_nil,List.mem_cons,List.not_mem_nil,List.mem_nil_iff];rfl)|fail):q:=e
def Br(e:q:=by first|(exact u9)|rfl|fail):q:=e
variable{α:Type}
@[go_sem] def jyL[Inhabited α](f:α->US)(a:List α)(b:UQ)(k:Nat)(h:k<a.length):(a.map f++b).getD k []=f (nth a k):=by rw[ee h,List.getD_eq_getElem?_getD,List.getElem?_append_left (by simpa using h)];simp[h]
attribute [go_sem] List.isEmpty_nil
@[congr] theorem j3A{c:Code}{F':US}{H':Hp}(h1:F=F')(h2:H=H'):dJ P c Q F H=dJ P c Q F' H':=by rw[h1,h2]
def nD(p q:Prop):Prop:=q->p
section
variable {P:U3}{Q:Exit->UO}{F:US}{H:Hp}
variable{id:Nat}{q:Prop}
def SS{l:List Oper}(e:lD P l.toArray (Q .normal) l F H=q):nD (dJ P (.region id l.toArray false) Q F H) q:=fun h=>OR (e ▸ h)
def Pm{c:Code}:nD (dJ P (.block id c) Q F H) (dJ P c (sU id Q) F H):=Oy
def Ut(e:Q .normal F H=q):nD (dJ P .skip Q F H) q:=fun h=>Ti (e ▸ h)
def Lw(e:Q (.exit id) F H=q):nD (dJ P (.exit id) Q F H) q:=fun h=>Uz (e ▸ h)
def Ma(e:Q .ret F H=q):nD (dJ P .ret Q F H) q:=fun h=>SP (e ▸ h)
end
section
variable {P:U3}{H:Hp}{K:UP}
variable{t:UY}{q:Prop}
def Ro{zs:U1}(hz:dS P t=some zs)(e:K (.pt (nx H.l) 0 0 0) (H.put (nx H.l) (.var t (zs.map .raw)))=q):nD (nZ P H t K) q:=fun h=>N6 hz (e ▸ h)
def SH{x:AV}(ho:cI x.cells=true)(e:K (.pt (nx H.l) 0 0 0) (H.put (nx H.l) (.var t x.cells))=q):nD (rR H t x K) q:=fun h=>Pk ho (e ▸ h)
def Po{A:Nat->Prop}{d:ix A}(e:A (nx H.l)=q):nD (v7 H A d) q:=fun h=>OM (e ▸ h)
def NA{sz:Nat}(h0:0<sz)(e:K (.rs (nx H.l) 0 sz 0) (H.put (nx H.l) (.aD t sz []))=q):nD (tU t sz [] H K) q:=fun h=>SF h0 (e ▸ h)
def Nf{sz:Nat}{css:UQ}(h1:aR eo css.flatten=true)(e:K (.sl true sz css []) H=q):nD (tU t sz css H K) q:=fun h=>Rb h1 (e ▸ h)
def NS{a x:AV}(e:zD P t a x H K=q):nD (sf P t t a x H K) q:=fun h=>Rc (e ▸ h)
def TV{d:ix K}{r:AV}(e:K r H=q):nD (AP K d r H) q:=fun h=>Ta (e ▸ h)
def Oo{a b:Prop}(h:a):nD (a/\b) b:=fun k=>⟨h,k⟩
end
variable{p:Prop}
def aq(h:q)(e:nD p q:=by first
 |((with_reducible apply SS);exact fj)
 |with_reducible exact Pm
 |((with_reducible apply Lw);exact Br)
 |((with_reducible apply Ma);exact Br)
 |((with_reducible apply Ut);exact Br)
 |fail):p:=e h
def av(h:q)(e:nD p q:=by first
 |((with_reducible apply NS);exact fj)
 |((with_reducible apply TV);exact fj)
 |((with_reducible apply NA);(focus (exact dz));exact fj)
 |((with_reducible apply Nf);(focus (simp only[go_sem]));exact fj)
 |((with_reducible apply Ro);(focus (simp only[go_sem];rfl));exact fj)
 |((with_reducible apply SH);(focus (simp only[go_sem]));exact fj)
 |((with_reducible apply Po);exact fj)
 |((with_reducible apply Oo);first|omega|(simp +contextual;done)|(simp +contextual;intros;omega)|fail)
 |fail):p:=e h
def S(h:q)(e:p=q:=by exact PR):p:=e ▸ h
def Sd(e:p=True:=by exact dz):p:=of_eq_true e
def ar{c:Operand}{x y:Code}{b:Bool}{pt pf:Prop}(ht:pt->dJ P x Q F H)(hf:pf->dJ P y Q F H)(hc:bM F c=.raw (.bool b):=by rfl)
 (et:(b=true)=pt:=by first|(simp only[Int.reduceEq,Int.reduceLE,Int.reduceLT,Int.reduceNe,false_and,and_false,true_and,and_true,or_false,false_or,true_or,or_true,Bool.false_eq_true,Bool.true_eq_false,eq_self,reduceCtorEq,Bool.not_true,Bool.not_false,Bool.and_eq_true,Bool.or_eq_true,Bool.and_eq_false_iff,Bool.or_eq_false_iff,decide_eq_true_eq,decide_eq_false_iff_not,Bool.not_eq_true',Bool.not_eq_false',Int.not_lt,Int.not_le];rfl)|rfl) (ef:(b=false)=pf:=by first|(simp only[Int.reduceEq,Int.reduceLE,Int.reduceLT,Int.reduceNe,false_and,and_false,true_and,and_true,or_false,false_or,true_or,or_true,Bool.false_eq_true,Bool.true_eq_false,eq_self,reduceCtorEq,Bool.not_true,Bool.not_false,Bool.and_eq_true,Bool.or_eq_true,Bool.and_eq_false_iff,Bool.or_eq_false_iff,decide_eq_true_eq,decide_eq_false_iff_not,Bool.not_eq_true',Bool.not_eq_false',Int.not_lt,Int.not_le];rfl)|rfl):dJ P (.cond c x y) Q F H:=KQ hc (fun h=>ht (et ▸ h)) (fun h=>hf (ef ▸ h))
section
variable {P:U3}{f:FuncId}{args:US}{H:Hp}{K:UP}{q:Prop}
variable{r0:AV}
def cm{l l0:UR}(hc:ab P f args l fun r l'=>r=r0/\l'=l0)(k:q)(h1:si l H:=by exact dz)(h0:aW P f=true:=by exact dz)(h2:aR (fun i=>(ids l).contains i) args=true:=by exact dz)(h3:rJ (fun i=>(ids l).contains i) l:=by exact dz)
 (h4:oO (ids l) H l0:=by exact dz) (h5:(ids l0).Nodup:=by exact dz) (e:K r0 ⟨H.B,gB H.l l0⟩=q:=by exact fj):eQ P (.raw (.func (.func f) #[] #[])) args H K:=nS h0 (vF hc h1 h2 h3 h4 h5 (e ▸ k))
def cp(hc:aL P f args r0)(k:q)(h0:aW P f=true:=by exact dz)(h2:aR eo args=true:=by exact dz)(e:K r0 H=q:=by exact fj):eQ P (.raw (.func (.func f) #[] #[])) args H K:=nS h0 (y0 hc h2 (e ▸ k))
def cg{g:Prop}{R:AV->Prop}{A:Prop}(hc:aL P f args r0)(k:q)(h0:aW P f=true:=by exact dz)(h2:aR eo args=true:=by exact dz)(hA:g->A:=by first|exact id|(intro _;exact jI)|fail)(e:R r0=q:=by exact fj) :
  ∃r,(g->A/\eQ P (.raw (.func (.func f) #[] #[])) args H fun r' H'=>r'=r/\H'=H)/\R r:=⟨r0,fun hg=>⟨hA hg,nS h0 (y0 hc h2 ⟨rfl,rfl⟩)⟩,e ▸ k⟩
def pP{g:Prop}{R:AV->Prop}(hc:aL P f args r0)(k:q)(h0:aW P f=true:=by exact dz)(h2:aR eo args=true:=by exact dz)(e:R r0=q:=by exact fj) :
  ∃r,(g->eQ P (.raw (.func (.func f) #[] #[])) args H fun r' H'=>r'=r/\H'=H)/\R r:=⟨r0,fun _=>nS h0 (y0 hc h2 ⟨rfl,rfl⟩),e ▸ k⟩
end
def dM.perm{B:UW}{l:UR}(l':UR)(h:∀i,az l i=az l' i):dM F ⟨B,l⟩ F ⟨B,l'⟩:=fun w tm h1 h2=>by
 have hg:∀i,(Hp.mk B l').get i=(Hp.mk B l).get i:=fun i=>(h i).symm
 exact⟨w,rfl,{ rows:=fun i r hi=>h1.rows i r ((hg i) ▸ hi),dt:=fun i m z hz=>by rw[hg];exact h1.dt i m z hz,inj:=h1.inj,own:=h1.own,fin:=h1.fin,bY:=h1.bY },h2,{ ExtQ.refl _ w with base:=rfl }⟩
variable{t:UY}
def al(i:Nat){zs:U1}(k:q)(hi:H.get i=none:=by rfl)(hz:dS P t=some zs:=by(simp only[go_sem];rfl))(e:K (.pt i 0 0 0) (H.put i (.var t (zs.map .raw)))=q:=by exact fj):nZ P H t K:=zO i hz hi (e ▸ k)
def bx(i:Nat){x:AV}(k:q)(hi:H.get i=none:=by rfl)(ho:cI x.cells=true:=by simp only[go_sem])(e:K (.pt i 0 0 0) (H.put i (.var t x.cells))=q:=by exact fj):rR H t x K:=yH i ho hi (e ▸ k)
def sj{enc:α->US}(vars more ys:List α){i:Nat}{m sz n:Nat}{css yss:UQ}(k:q)(hm:m=vars.length+more.length:=by first|rfl|(simp only[go_sem];done)|omega)(hn:n=vars.length:=by rfl)(hc:css=(vars++more).map enc:=by first|rfl|exact List.map_append.symm|(simp only[go_sem,List.map_append];done))(hy:yss=ys.map enc:=by rfl)
 (e:K (.rs i (vars.length+ys.length+(more.drop ys.length).length) sz (vars.length+ys.length)) (H.put i (.aD t sz ((vars++ys++more.drop ys.length).map enc)))=q:=by exact fj):uD i t m sz n css yss H K:=Mt vars more ys hm hn hc hy (e ▸ k)
section
variable {P:U3}{Q:Exit->UO}{F:US}{H:Hp}
def gR{P:U3}{Q:Exit->UO}{F:US}{H:Hp}(id:Nat){l:Array Oper}{b:Bool}(h:dJ P (.region id l b) Q F H):dJ P (.region id l b) Q F H:=h
variable{l:List Oper}{q:Prop}
def dE(id:Nat)(ord:UW)(hm:P.follows .mixedOrders=true)(h:q)(hok:qu ([],[],[]) [] l ord=true:=by decide +kernel)(e:fC ([],[],[]) P l.toArray (Q .normal) (ord.map (dN l)) F H=q:=by(simp only[bf,List.map_cons,List.map_nil,dN,List.getD_cons_zero,List.getD_cons_succ];exact fj)):dJ P (.region id l.toArray true) Q F H:=Qv ord hm hok (e ▸ h)
def dA(id:Nat)(A ord:UW)(hm:P.follows .mixedOrders=true)(h:q)(hok:qu (A,[],[]) [] l ord=true:=by decide +kernel)(e:fC (A,[],[]) P l.toArray (Q .normal) (ord.map (dN l)) F H=q:=by(simp only[bf,List.map_cons,List.map_nil,dN,List.getD_cons_zero,List.getD_cons_succ];exact fj)):dJ P (.region id l.toArray true) Q F H:=Gv (A,[],[]) ord hm hok (e ▸ h)
def dC(id:Nat)(A:AS)(E ord:UW)(hm:P.follows .mixedOrders=true)(h:q)(hok:qu A E l ord=true:=by decide +kernel)(hE:sk P l E:=by simp only[sk,dN,List.getD_cons_zero,List.getD_cons_succ,go_sem])(e:fC A P l.toArray (Q .normal) (ord.map (dN l)) F H=q:=by(simp only[bf,List.map_cons,List.map_nil,dN,List.getD_cons_zero,List.getD_cons_succ];exact fj)):dJ P (.region id l.toArray true) Q F H:=CG A E ord hm hok hE (e ▸ h)
def dQ(id:Nat)(hm:P.follows .mixedOrders=true)(h:q)(hok:uO l=true:=by decide +kernel)(e:iD P l.toArray H (fun F'=>Q .normal F' H) l F=q:=by exact fj):dJ P (.region id l.toArray true) Q F H:=Oh hm hok (e ▸ h)
def Jd{c:Code}(L:UW)(slot:Nat)(a:AV)(hB:H.B.all (iY fun i=>L.contains i)=true)(hl:kI (fun i=>L.contains i) H.l)(hv:cn (fun i=>L.contains i) H F (F.set slot a))(h:dJ P c Q (F.set slot a) ⟨H.B,gi (fun i=>L.contains i) H.l⟩):dJ P c Q F H:=iQ (dM.free _ hB hl hv) h
def Uf{c:Code}(L:UW)(W:List (Nat×Nat))(J:List (Nat×AV))(h0:(L.any fun i=>(H.get i).isSome)=true)(hB:H.B.all (iY fun i=>L.contains i)=true)(hl:kI (fun i=>L.contains i) H.l)(hv:cn (fun i=>L.contains i) H F (oR J (ph W F)))(h:dJ P c Q (oR J (ph W F)) ⟨H.B,gi (fun i=>L.contains i) H.l⟩):dJ P c Q F H:=iQ (dM.free _ hB hl hv) h
end
def jU{H':Hp}(e:H=H':=by first|(simp only[go_sem];done)|(simp only[go_sem];rfl)|rfl|fail):H=H':=e
def bS{F':US}(e:kS F F':=by(simp only[go_sem,kS,Nat.reduceAdd,AV.raw.injEq,Value.int.injEq,Value.slice.injEq,Value.pointer.injEq,AV.rs.injEq];try omega)):kS F F':=e
def ie{D:U2}{l m:US}(e:cn D H l m:=by(simp only[go_sem,↓reduceIte,Int.reduceEq,Int.reduceLE,Int.reduceLT,Int.reduceNe,Int.reduceToNat,Nat.reduceMul,Nat.reduceAdd,Nat.reduceLeDiff,Nat.reduceSub,Nat.reduceEqDiff,Nat.reduceBEq,List.nodup_cons,List.nodup_nil,List.mem_cons,List.not_mem_nil,List.mem_nil_iff];repeat' (first|exact jI|exact LP _|exact dn.nil _ _|exact dn.lit _ _ _ _ _|exact dn.same _ rfl|(exact dn.same _ (by exact wI))|(exact dn.row _ (by first|rfl|(exact wI)) (by first|(exact wI)|rfl|(exact u9)) (by first|rfl|(simp only[go_sem];done)|omega))|refine jA ?_ ?_|fail))):cn D H l m:=e
def GI{l:List Oper}{b:Bool}(L:UW)(W:List (Nat×Nat))(J:List (Nat×AV))(h:q)(h0:(L.any fun i=>(H.get i).isSome)=true:=by rfl)(hB:H.B.all (iY fun i=>L.contains i)=true:=by exact dz)(hl:kI (fun i=>L.contains i) H.l:=by exact dz)
 (hv:cn (fun i=>L.contains i) H F (oR J (ph W F)):=by exact ie) (e:dJ P (.region id l.toArray b) Q (oR J (ph W F)) ⟨H.B,gi (fun i=>L.contains i) H.l⟩=q:=by exact fj):dJ P (.region id l.toArray b) Q F H:=Uf L W J h0 hB hl hv (e ▸ h)
def dG{f:FuncId}{fn:Func}{c:Code}{args:US}{r:AV}{k:Nat}(hf:P.funcs[f]?=some fn)(hn:fn.ntmps=k)(h:dJ P c (mw P fn fun r' l'=>r'=r/\l'=[]) F ⟨[],[]⟩)(hb:fn.body=some c:=by rfl)
 (hF:args++List.replicate (k-args.length) .any=F:=by(simp only[List.length_cons,List.length_nil,Nat.reduceAdd,Nat.reduceSub,List.replicate,List.cons_append,List.nil_append];rfl)):aL P f args r:=SY hf hb (by rw[hn];exact hF) h
def aK{f:FuncId}{fn:Func}{c:Code}{args:US}{l:UR}{R:AV->List U5->Prop}{k:Nat}(hf:P.funcs[f]?=some fn)(hn:fn.ntmps=k)(h:dJ P c (mw P fn R) F ⟨L,l⟩)(hb:fn.body=some c:=by rfl)(hL:ids l=L:=by rfl)
 (hF:args++List.replicate (k-args.length) .any=F:=by(simp only[List.length_cons,List.length_nil,Nat.reduceAdd,Nat.reduceSub,List.replicate,List.cons_append,List.nil_append];rfl)):ab P f args l R:=NU hf hb (by rw[hn];exact hF) hL h
section
variable {P:U3}{fn:Func}{F:US}{H:Hp}{out:US}{e:Exit}{r:AV}{l:UR}
def bL(rs:List ResultVar)(h1:lJ out=r)(h2:H.l=l)(Xx:fn.results.toList=rs:=by rfl)(he:e=.normal\/e=.ret:=by first|exact Or.inr rfl|exact Or.inl rfl|fail)(ho:kf P H F rs=some out:=by(exact u9))(hok:k8 P H F rs:=by exact wI) :
  mw P fn (fun r' l'=>r'=r/\l'=l) e F H:=OQ rs Xx he ho hok h1 h2
def bu(rs:List ResultVar)(hv:lJ out=r)(Xx:fn.results.toList=rs:=by rfl)(he:e=.normal\/e=.ret:=by first|exact Or.inr rfl|exact Or.inl rfl|fail)(ho:kf P H F rs=some out:=by(exact u9))(hok:k8 P H F rs:=by exact wI)(hl:kI (mZ H.B) H.l:=by exact dz)
 (hq:(lJ out).all (iY (mZ H.B))=true:=by exact dz) (h2:gi (mZ H.B) H.l=l:=by first|rfl|(exact dz)|(exact u9)|fail):mw P fn (fun r' l'=>r'=r/\l'=l) e F H:=DV rs Xx he ho hok hl (BL hv hq) h2
def iM(rs:List ResultVar)(hv:dn (mZ H.B) H (lJ out) r)(Xx:fn.results.toList=rs:=by rfl)(he:e=.normal\/e=.ret:=by first|exact Or.inr rfl|exact Or.inl rfl|fail)(ho:kf P H F rs=some out:=by(exact u9))(hok:k8 P H F rs:=by exact wI)(hl:kI (mZ H.B) H.l:=by exact dz)
 (h2:gi (mZ H.B) H.l=l:=by first|rfl|(exact dz)|(exact u9)|fail):mw P fn (fun r' l'=>r'=r/\l'=l) e F H:=DV rs Xx he ho hok hl hv h2
end
@[go_sem] def j1g(enc:α->US)(l:List α)(k:Nat)(x:α):(l.map enc).set k (enc x)=(l.set k x).map enc:=List.map_set.symm
attribute [go_sem] List.length_set
def eI(x:Int):US:=[.raw (.int .i64 x)]
instance:bD eI 1:=⟨fun _=>rfl,fun _=>rfl,fun _=>rfl⟩
@[go_sem] def qcI:(∀(x:Int),(eI x).length=1)/\(∀(x:Int),(eI x).getD 0 .any=.raw (.int .i64 x))/\(∀(x:Int),(eI x).drop 1=[]):=by and_intros<;>(intros;rfl)
@[go_sem] def qcJ(l:UU)(k:Nat)(x:Int):(l.map eI).set k [.raw (.int .i64 x)]=(l.set k x).map eI:=(List.map_set (f:=eI)).symm
def eS(x:UX):US:=[.raw (.string x)]
instance:bD eS 1:=⟨fun _=>rfl,fun _=>rfl,fun _=>rfl⟩
@[go_sem] def qcL:(∀(x:UX),(eS x).length=1)/\(∀(x:UX),(eS x).getD 0 .any=.raw (.string x)):=by and_intros<;>(intros;rfl)
def eB(x:Bool):US:=[.raw (.bool x)]
instance:bD eB 1:=⟨fun _=>rfl,fun _=>rfl,fun _=>rfl⟩
def eU(x:Int):US:=[.raw (.int .u8 x)]
instance:bD eU 1:=⟨fun _=>rfl,fun _=>rfl,fun _=>rfl⟩
def pM(x:UU):US:=[aO eI 1 x]
instance:bD pM 1:=⟨fun _=>rfl,fun _=>rfl,fun _=>rfl⟩
@[go_sem] def j8z:(∀(x:UU),(pM x).length=1)/\(∀(x:UU),(pM x).getD 0 .any=aO eI 1 x):=by and_intros<;>(intros;rfl)
structure cd where
 kind:Int
 text:ByteArray
 at_:Int
 deriving Inhabited,DecidableEq
def mO(x:cd):US:=[.raw (.int .i64 x.kind),.raw (.string x.text),.raw (.int .i64 x.at_)]
section
variable (x y:cd)
@[go_sem] def j0v:((mO x).length=3)/\((mO x).all AV.one=true):=by and_intros<;>(intros;rfl)
@[go_sem] def OK(q:U2):aR q (mO x)=true:=by simp[mO,aR,AV.all]
instance:bD mO 3:=⟨fun _=>rfl,fun _=>rfl,fun x=>OK x _⟩
@[go_sem] def jyA:((mO x).take 3=mO x)/\((mO x).getD 0 .any=.raw (.int .i64 x.kind))/\((mO x).getD 1 .any=.raw (.string x.text))/\((mO x).getD 2 .any=.raw (.int .i64 x.at_)):=by and_intros<;>(intros;rfl)
end
structure bk where
 kind:Int
 bA:Int
 n:Int
 name:ByteArray
 l:List Int
 deriving Inhabited,DecidableEq
def eF(x:bk):US:=[.raw (.int .i64 x.kind),.raw (.int .i64 x.bA),.raw (.int .i64 x.n),.raw (.string x.name),aO eI 1 x.l]
section
variable (x y:bk)
@[go_sem] def j2w:((eF x).length=5)/\((eF x).all AV.one=true):=by and_intros<;>(intros;rfl)
@[go_sem] def T4(q:U2):aR q (eF x)=true:=by simp[eF,aR,AV.all]
instance:bD eF 5:=⟨fun _=>rfl,fun _=>rfl,fun x=>T4 x _⟩
@[go_sem] def j0l:((eF x).take 5=eF x)/\((eF x).getD 0 .any=.raw (.int .i64 x.kind))/\((eF x).getD 1 .any=.raw (.int .i64 x.bA))/\((eF x).getD 2 .any=.raw (.int .i64 x.n))/\((eF x).getD 3 .any=.raw (.string x.name))/\((eF x).getD 4 .any=aO eI 1 x.l):=by and_intros<;>(intros;rfl)
end
structure aj where
 ty:Int
 n:Int
 s:ByteArray
 deriving Inhabited,DecidableEq
def bW(x:aj):US:=[.raw (.int .i64 x.ty),.raw (.int .i64 x.n),.raw (.string x.s)]
section
variable (x y:aj)
@[go_sem] def j0y:((bW x).length=3)/\((bW x).all AV.one=true):=by and_intros<;>(intros;rfl)
@[go_sem] def QC(q:U2):aR q (bW x)=true:=by simp[bW,aR,AV.all]
instance:bD bW 3:=⟨fun _=>rfl,fun _=>rfl,fun x=>QC x _⟩
@[go_sem] def jyC:((bW x).take 3=bW x)/\((bW x).getD 0 .any=.raw (.int .i64 x.ty))/\((bW x).getD 1 .any=.raw (.int .i64 x.n))/\(∀(v:Int),List.take 1 (bW x)++[.raw (.int .i64 v)]++List.drop 2 (bW x)=bW { x with n:=v })/\((bW x).getD 2 .any=.raw (.string x.s)):=by and_intros<;>(intros;rfl)
end
structure bp where
 name:ByteArray
 ty:Int
 deriving Inhabited,DecidableEq
def nw(x:bp):US:=[.raw (.string x.name),.raw (.int .i64 x.ty)]
section
variable (x y:bp)
@[go_sem] def j0m:((nw x).length=2)/\((nw x).all AV.one=true):=by and_intros<;>(intros;rfl)
@[go_sem] def T6(q:U2):aR q (nw x)=true:=by simp[nw,aR,AV.all]
instance:bD nw 2:=⟨fun _=>rfl,fun _=>rfl,fun x=>T6 x _⟩
@[go_sem] def jyw:((nw x).take 2=nw x)/\((nw x).getD 0 .any=.raw (.string x.name))/\((nw x).getD 1 .any=.raw (.int .i64 x.ty)):=by and_intros<;>(intros;rfl)
end
structure aV where
 name:ByteArray
 bA:Int
 params:List bp
 ret:Int
 body:Int
 deriving Inhabited,DecidableEq
def fW(x:aV):US:=[.raw (.string x.name),.raw (.int .i64 x.bA),aO nw 2 x.params,.raw (.int .i64 x.ret),.raw (.int .i64 x.body)]
section
variable (x y:aV)
@[go_sem] def j2q:((fW x).length=5)/\((fW x).all AV.one=true):=by and_intros<;>(intros;rfl)
@[go_sem] def UE(q:U2):aR q (fW x)=true:=by simp[fW,aR,AV.all]
instance:bD fW 5:=⟨fun _=>rfl,fun _=>rfl,fun x=>UE x _⟩
@[go_sem] def j0h:((fW x).take 5=fW x)/\((fW x).getD 0 .any=.raw (.string x.name))/\((fW x).getD 2 .any=aO nw 2 x.params)/\((fW x).getD 3 .any=.raw (.int .i64 x.ret))/\((fW x).getD 4 .any=.raw (.int .i64 x.body)):=by and_intros<;>(intros;rfl)
end
structure aB where
 nodes:List bk
 ak:List aV
 deriving Inhabited,DecidableEq
def l6(x:aB):US:=[aO eF 5 x.nodes,aO fW 5 x.ak]
section
variable (x y:aB)
@[go_sem] def j2L:((l6 x).length=2)/\((l6 x).all AV.one=true):=by and_intros<;>(intros;rfl)
@[go_sem] def Ud(q:U2):aR q (l6 x)=true:=by simp[l6,aR,AV.all]
instance:bD l6 2:=⟨fun _=>rfl,fun _=>rfl,fun x=>Ud x _⟩
@[go_sem] def j0x:((l6 x).take 2=l6 x)/\((l6 x).getD 0 .any=aO eF 5 x.nodes)/\((l6 x).getD 1 .any=aO fW 5 x.ak):=by and_intros<;>(intros;rfl)
end
structure ba where
 name:ByteArray
 ty:Int
 slot:Int
 deriving Inhabited,DecidableEq
def lg(x:ba):US:=[.raw (.string x.name),.raw (.int .i64 x.ty),.raw (.int .i64 x.slot)]
section
variable (x y:ba)
@[go_sem] def j4n:((lg x).length=3)/\((lg x).all AV.one=true):=by and_intros<;>(intros;rfl)
@[go_sem] def LM(q:U2):aR q (lg x)=true:=by simp[lg,aR,AV.all]
instance:bD lg 3:=⟨fun _=>rfl,fun _=>rfl,fun x=>LM x _⟩
@[go_sem] def j2R:((lg x).take 3=lg x)/\((lg x).getD 0 .any=.raw (.string x.name))/\((lg x).getD 1 .any=.raw (.int .i64 x.ty))/\((lg x).getD 2 .any=.raw (.int .i64 x.slot)):=by and_intros<;>(intros;rfl)
end
structure ah where
 aa:aB
 types:List Int
 slots:List Int
 fn:List Int
 size:List Int
 deriving Inhabited,DecidableEq
def dj(x:ah):US:=[aO eF 5 x.aa.nodes,aO fW 5 x.aa.ak,aO eI 1 x.types,aO eI 1 x.slots,aO eI 1 x.fn,aO eI 1 x.size]
section
variable (x y:ah)
@[go_sem] def j2A:((dj x).length=6)/\((dj x).all AV.one=true):=by and_intros<;>(intros;rfl)
@[go_sem] def KO(q:U2):aR q (dj x)=true:=by simp[dj,aR,AV.all]
instance:bD dj 6:=⟨fun _=>rfl,fun _=>rfl,fun x=>KO x _⟩
@[go_sem] def j0o:((dj x).take 6=dj x)/\((dj x).getD 0 .any=aO eF 5 x.aa.nodes)/\((dj x).getD 1 .any=aO fW 5 x.aa.ak)/\((dj x).getD 2 .any=aO eI 1 x.types)/\((dj x).getD 3 .any=aO eI 1 x.slots)/\((dj x).getD 4 .any=aO eI 1 x.fn):=by and_intros<;>(intros;rfl)
end
structure fh where
 fn:Int
 node:Int
 slots:List aj
 deriving Inhabited,DecidableEq
def mT(x:fh):US:=[.raw (.int .i64 x.fn),.raw (.int .i64 x.node),aO bW 3 x.slots]
section
variable (x y:fh)
@[go_sem] def j2G:((mT x).length=3)/\((mT x).all AV.one=true):=by and_intros<;>(intros;rfl)
@[go_sem] def Q6(q:U2):aR q (mT x)=true:=by simp[mT,aR,AV.all]
instance:bD mT 3:=⟨fun _=>rfl,fun _=>rfl,fun x=>Q6 x _⟩
@[go_sem] def j0u:((mT x).take 3=mT x)/\((mT x).getD 0 .any=.raw (.int .i64 x.fn))/\((mT x).getD 1 .any=.raw (.int .i64 x.node))/\((mT x).getD 2 .any=aO bW 3 x.slots):=by and_intros<;>(intros;rfl)
end
structure gM where
 calls:List fh
 heap:List (List Int)
 in_:Int
 aS:List ByteArray
 status:Int
 bs:Int
 time:Int
 deriving Inhabited,DecidableEq
def js(x:gM):US:=[aO mT 3 x.calls,aO pM 1 x.heap,.raw (.int .i64 x.in_),aO eS 1 x.aS,.raw (.int .i64 x.status),.raw (.int .i64 x.bs),.raw (.int .i64 x.time)]
section
variable (x y:gM)
@[go_sem] def j2C:((js x).length=7)/\((js x).all AV.one=true):=by and_intros<;>(intros;rfl)
@[go_sem] def Pz(q:U2):aR q (js x)=true:=by simp[js,aR,AV.all]
instance:bD js 7:=⟨fun _=>rfl,fun _=>rfl,fun x=>Pz x _⟩
@[go_sem] def j4b:((js x).getD 0 .any=aO mT 3 x.calls)/\((js x).getD 1 .any=aO pM 1 x.heap)/\((js x).getD 2 .any=.raw (.int .i64 x.in_))/\((js x).getD 3 .any=aO eS 1 x.aS)/\((js x).getD 4 .any=.raw (.int .i64 x.status))/\((js x).getD 5 .any=.raw (.int .i64 x.bs))/\((js x).getD 6 .any=.raw (.int .i64 x.time)):=by and_intros<;>(intros;rfl)
end
structure ax where
 op:Int
 a:Int
 b:Int
 s:ByteArray
 deriving Inhabited,DecidableEq
def df(x:ax):US:=[.raw (.int .i64 x.op),.raw (.int .i64 x.a),.raw (.int .i64 x.b),.raw (.string x.s)]
section
variable (x y:ax)
@[go_sem] def j0i:((df x).length=4)/\((df x).all AV.one=true):=by and_intros<;>(intros;rfl)
@[go_sem] def M7(q:U2):aR q (df x)=true:=by simp[df,aR,AV.all]
instance:bD df 4:=⟨fun _=>rfl,fun _=>rfl,fun x=>M7 x _⟩
@[go_sem] def jyu:((df x).take 4=df x)/\((df x).getD 0 .any=.raw (.int .i64 x.op))/\((df x).getD 1 .any=.raw (.int .i64 x.a))/\(∀(v:Int),List.take 1 (df x)++[.raw (.int .i64 v)]++List.drop 2 (df x)=df { x with a:=v })/\((df x).getD 2 .any=.raw (.int .i64 x.b))/\((df x).getD 3 .any=.raw (.string x.s)):=by and_intros<;>(intros;rfl)
end
structure aE where
 ins:List ax
 entry:List Int
 deriving Inhabited,DecidableEq
def xD(x:aE):US:=[aO df 4 x.ins,aO eI 1 x.entry]
section
variable (x y:aE)
@[go_sem] def R4(q:U2):aR q (xD x)=true:=by simp[xD,aR,AV.all]
instance:bD xD 2:=⟨fun _=>rfl,fun _=>rfl,fun x=>R4 x _⟩
end
structure aP where
 at_:Int
 name:ByteArray
 v:aj
 deriving Inhabited,DecidableEq
def bQ(x:aP):US:=[.raw (.int .i64 x.at_),.raw (.string x.name),.raw (.int .i64 x.v.ty),.raw (.int .i64 x.v.n),.raw (.string x.v.s)]
section
variable (x y:aP)
@[go_sem] def j2p:((bQ x).length=5)/\((bQ x).all AV.one=true):=by and_intros<;>(intros;rfl)
@[go_sem] def I1(q:U2):aR q (bQ x)=true:=by simp[bQ,aR,AV.all]
instance:bD bQ 5:=⟨fun _=>rfl,fun _=>rfl,fun x=>I1 x _⟩
@[go_sem] def j0f:((bQ x).take 5=bQ x)/\((bQ x).getD 0 .any=.raw (.int .i64 x.at_))/\((bQ x).getD 1 .any=.raw (.string x.name))/\(∀(v:UX),List.take 1 (bQ x)++[.raw (.string v)]++List.drop 2 (bQ x)=bQ { x with name:=v })/\((bQ x).getD 4 .any=.raw (.string x.v.s))/\(∀(v:UX),List.take 4 (bQ x)++[.raw (.string v)]++List.drop 5 (bQ x)=bQ { x with v.s:=v })/\(((bQ x).drop 2).take 3=bW x.v):=by and_intros<;>(intros;rfl)
end
structure aG where
 name:ByteArray
 text:ByteArray
 deriving Inhabited,DecidableEq
def j7(x:aG):US:=[.raw (.string x.name),.raw (.string x.text)]
section
variable (x y:aG)
@[go_sem] def j0s:((j7 x).length=2)/\((j7 x).all AV.one=true):=by and_intros<;>(intros;rfl)
@[go_sem] def M3(q:U2):aR q (j7 x)=true:=by simp[j7,aR,AV.all]
instance:bD j7 2:=⟨fun _=>rfl,fun _=>rfl,fun x=>M3 x _⟩
@[go_sem] def jyy:((j7 x).take 2=j7 x)/\((j7 x).getD 0 .any=.raw (.string x.name))/\((j7 x).getD 1 .any=.raw (.string x.text))/\((j7 x).map kF=[some .str,some .str]):=by and_intros<;>(intros;rfl)
@[go_sem] def j2D:jQ (j7 x) (j7 y)=decide (x=y):=by rw[Bool.eq_iff_iff];obtain⟨a41,a42⟩:=x;obtain⟨b43,b44⟩:=y;simp[j7,jQ]
end
structure gH where
 name:ByteArray
 bA:Int
 vars:List aG
 deriving Inhabited,DecidableEq
def jq(x:gH):US:=[.raw (.string x.name),.raw (.int .i64 x.bA),aO j7 2 x.vars]
section
variable (x y:gH)
@[go_sem] def j2B:((jq x).length=3)/\((jq x).all AV.one=true):=by and_intros<;>(intros;rfl)
@[go_sem] def Q7(q:U2):aR q (jq x)=true:=by simp[jq,aR,AV.all]
instance:bD jq 3:=⟨fun _=>rfl,fun _=>rfl,fun x=>Q7 x _⟩
@[go_sem] def j0q:((jq x).take 3=jq x)/\((jq x).getD 0 .any=.raw (.string x.name))/\((jq x).getD 1 .any=.raw (.int .i64 x.bA))/\((jq x).getD 2 .any=aO j7 2 x.vars):=by and_intros<;>(intros;rfl)
end
structure cw where
 calls:List gH
 aS:List ByteArray
 in_:Int
 status:Int
 bs:Int
 deriving Inhabited,DecidableEq
def fv(x:cw):US:=[aO jq 3 x.calls,aO eS 1 x.aS,.raw (.int .i64 x.in_),.raw (.int .i64 x.status),.raw (.int .i64 x.bs)]
section
variable (x y:cw)
@[go_sem] def j2S:((fv x).length=5)/\((fv x).all AV.one=true):=by and_intros<;>(intros;rfl)
@[go_sem] def MY(q:U2):aR q (fv x)=true:=by simp[fv,aR,AV.all]
instance:bD fv 5:=⟨fun _=>rfl,fun _=>rfl,fun x=>MY x _⟩
@[go_sem] def j0A:((fv x).take 5=fv x)/\((fv x).getD 0 .any=aO jq 3 x.calls)/\((fv x).getD 1 .any=aO eS 1 x.aS)/\((fv x).getD 2 .any=.raw (.int .i64 x.in_))/\((fv x).getD 3 .any=.raw (.int .i64 x.status))/\((fv x).getD 4 .any=.raw (.int .i64 x.bs)):=by and_intros<;>(intros;rfl)
end
structure bo where
 name:ByteArray
 de:List Int
 base:List aP
 own:List aP
 deriving Inhabited,DecidableEq
def gr(x:bo):US:=[.raw (.string x.name),aO eI 1 x.de,aO bQ 5 x.base,aO bQ 5 x.own]
section
variable (x y:bo)
@[go_sem] def jys:((gr x).length=4)/\((gr x).all AV.one=true):=by and_intros<;>(intros;rfl)
@[go_sem] def R9(q:U2):aR q (gr x)=true:=by simp[gr,aR,AV.all]
instance:bD gr 4:=⟨fun _=>rfl,fun _=>rfl,fun x=>R9 x _⟩
@[go_sem] def jwE:((gr x).take 4=gr x)/\((gr x).getD 0 .any=.raw (.string x.name))/\(∀(v:UX),.raw (.string v)::List.drop 1 (gr x)=gr { x with name:=v })/\((gr x).getD 1 .any=aO eI 1 x.de)/\((gr x).getD 2 .any=aO bQ 5 x.base)/\((gr x).getD 3 .any=aO bQ 5 x.own):=by and_intros<;>(intros;rfl)
end
structure tT where
 l:List bo
 cur:Int
 time:Int
 deriving Inhabited,DecidableEq
def BG(x:tT):US:=[aO gr 4 x.l,.raw (.int .i64 x.cur),.raw (.int .i64 x.time)]
section
variable (x y:tT)
@[go_sem] def TS(q:U2):aR q (BG x)=true:=by simp[BG,aR,AV.all]
instance:bD BG 3:=⟨fun _=>rfl,fun _=>rfl,fun x=>TS x _⟩
end
structure fT where
 block:Int
 at_:Int
 deriving Inhabited,DecidableEq
def uk(x:fT):US:=[.raw (.int .i64 x.block),.raw (.int .i64 x.at_)]
section
variable (x y:fT)
@[go_sem] def OX(q:U2):aR q (uk x)=true:=by simp[uk,aR,AV.all]
instance:bD uk 2:=⟨fun _=>rfl,fun _=>rfl,fun x=>OX x _⟩
end
structure fy where
 fn:Int
 slots:List aj
 path:List fT
 deriving Inhabited,DecidableEq
def zW(x:fy):US:=[.raw (.int .i64 x.fn),aO bW 3 x.slots,aO uk 2 x.path]
section
variable (x y:fy)
@[go_sem] def TD(q:U2):aR q (zW x)=true:=by simp[zW,aR,AV.all]
instance:bD zW 3:=⟨fun _=>rfl,fun _=>rfl,fun x=>TD x _⟩
end
structure gA where
 j8:List fy
 heap:List (List Int)
 in_:Int
 aS:List ByteArray
 status:Int
 bs:Int
 time:Int
 deriving Inhabited,DecidableEq
def B1(x:gA):US:=[aO zW 3 x.j8,aO pM 1 x.heap,.raw (.int .i64 x.in_),aO eS 1 x.aS,.raw (.int .i64 x.status),.raw (.int .i64 x.bs),.raw (.int .i64 x.time)]
section
variable (x y:gA)
@[go_sem] def Sm(q:U2):aR q (B1 x)=true:=by simp[B1,aR,AV.all]
instance:bD B1 7:=⟨fun _=>rfl,fun _=>rfl,fun x=>Sm x _⟩
end
end Go.Gd