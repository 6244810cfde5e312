/- Lemmas. No conditions. -/
import Derived.Test.YtijdhbokcdpklaaGreatDoorGdL
set_option linter.all false
namespace Go.Gd
open Go
section
variable {P:UP}{ops:Array Oper}{H:Hp}
variable{ty:UJ}{K:UB}
def uQ{ev ev':UK}(o:Op)(h:∀x∈o.operands.toList,ev x=ev' x):vc P ev H ty K o=vc P ev' H ty K o:=by
 have quiet:((vq P ev H o).1/\K (vq P ev H o).2 H)=((vq P ev' H o).1/\K (vq P ev' H o).2 H):=by rw[tQ o h]
 have other:jM P o ty ev H K=jM P o ty ev' H K:=by
  unfold jM;apply propext;constructor<;>intro hh w ρ dst pos after guard h1 h2
  ·exact hh w ρ dst pos after guard h1 fun x hx=>by rw[h x hx];exact h2 x hx
  ·exact hh w ρ dst pos after guard h1 fun x hx=>by rw[<-h x hx];exact h2 x hx
 cases o
 case box t x=>simp only[vc];rw[h x (by simp[Op.operands])]
 case store t a x=>simp only[vc];rw[h x (by simp[Op.operands]),h a (by simp[Op.operands])]
 case buildSlice t n ps=> simp only[Op.operands]at h;simp only[vc];rw[List.map_congr_left (g:=fun p=>(p.1,ev' p.2)) (fun x hx=>by rw[h x.2 (by simp at hx ⊢;exact⟨_,hx⟩)])]
 case binOp op t x y t'=>
  cases op<;>first
   |(simp only[vc];rw[h x (by simp[Op.operands]),h y (by simp[Op.operands])];done)
   |exact quiet
 case call c=>
  obtain⟨callee,args,ts⟩:=c;cases callee
  case value f=> simp only[Op.operands,Call.operands]at h;simp only[vc];rw[h f jE,List.map_congr_left (fun x hx=>h x (by simp at hx ⊢;exact .inr hx))]
  case invoke f m=> simp only[Op.operands,Call.operands]at h;simp only[vc];rw[h f jE,List.map_congr_left (fun x hx=>h x (by simp at hx ⊢;exact .inr hx))]
  case builtin b=>
   have hm:args.toList.map ev=args.toList.map ev':=List.map_congr_left fun x hx=>h x (by simpa[Op.operands,Call.operands]using hx)
   cases b
   case append=>
    simp only[vc];split
    ·rename_i t t' a x ht ha;rw[h a (by simp[Op.operands,Call.operands];rw[<-Array.mem_toList_iff,ha];simp),h x (by simp[Op.operands,Call.operands];rw[<-Array.mem_toList_iff,ha];simp)]
    ·rfl
   case len=>exact quiet
   case cap=>exact quiet
   case max=>exact quiet
   case min=>exact quiet
   all_goals(simp only[vc,du,Bool.false_eq_true,if_false];rw[hm])
  all_goals exact other
 all_goals first
  |rfl
  |exact quiet
  |exact other
variable{t:UJ}{K':UB}
def GD{n:Nat}{parts:List (Nat×AV)}(h:oE P H t n parts K)(hk:∀r H,K r H->K' r H):oE P H t n parts K':=by
 unfold oE at*;split at h
 ·rename_i e he;split at h
  ·refine⟨h.1,?_⟩;rcases h.2 with h2|⟨h2,i,h3,h4⟩
   ·exact .inl ⟨h2.1,hk _ _ h2.2⟩
   ·exact .inr ⟨h2,i,h3,hk _ _ h4⟩
  ·exact h.elim
 ·exact h.elim
def Fc{ev:UK}(o:Op)(hk:∀r H',K r H'->K' r H')(h:vc P ev H ty K o):vc P ev H ty K' o:=by
 have quiet:((vq P ev H o).1/\K (vq P ev H o).2 H)->((vq P ev H o).1/\K' (vq P ev H o).2 H):=fun h=>⟨h.1,hk _ _ h.2⟩
 have other:jM P o ty ev H K->jM P o ty ev H K':=fun hh w ρ dst pos after guard h1 h2=>by obtain⟨w',H',r,g1,g2⟩:=hh w ρ dst pos after guard h1 h2;exact⟨w',H',r,hk _ _ g1,g2⟩
 cases o
 case box t x=>obtain⟨h1,i,h2,h3⟩:=h;exact⟨h1,i,h2,hk _ _ h3⟩
 case alloc t=>
  simp only[vc,ob]at h ⊢;split at h
  ·obtain⟨i,h2,h3⟩:=h;exact⟨i,h2,hk _ _ h3⟩
  ·exact h.elim
 case store t a x=>
  simp only[vc,u6]at h ⊢;split at h
  ·split at h
   ·exact⟨h.1,hk _ _ h.2⟩
   ·exact h.elim
  ·exact h.elim
 case buildSlice t n ps=>exact GD h hk
 case binOp op t x y t'=>
  have nileq:∀ne,qC P ne t (ev x) (ev y) H K->qC P ne t (ev x) (ev y) H K':=fun ne h=>by
   unfold qC at h ⊢;split at h
   ·exact⟨h.1,fun b hb=>hk _ _ (h.2 b hb)⟩
   ·exact⟨h.1,fun b hb=>hk _ _ (h.2 b hb)⟩
   ·rename_i Ur;exact⟨h.1,hk _ _ h.2⟩
  cases op<;>first
   |exact nileq false h
   |exact nileq true h
   |exact quiet h
 case call c=>
  obtain⟨callee,args,ts⟩:=c;cases callee
  case value f=>exact Ab h hk
  case invoke f m=>
   simp only[vc,qo]at h ⊢;split at h
   ·split at h
    ·exact Ab h hk
    ·exact h.elim
   ·exact h.elim
  case builtin b=>
   have bvc:pG P b ts.toList (args.toList.map ev) H K->pG P b ts.toList (args.toList.map ev) H K':=fun hh w vs ty cs h1 h2=>by obtain⟨w',H',r,v,g1,g2,g3⟩:=hh w vs ty cs h1 h2;exact⟨w',H',r,v,g1,hk _ _ g2,g3⟩
   cases b
   case append=>
    simp only[vc]at h ⊢;split at h
    ·intro w va vx ty h1 h2 h3;obtain⟨w',H',r,v,g1,g2,g3⟩:=h w va vx ty h1 h2 h3;exact⟨w',H',r,v,g1,hk _ _ g2,g3⟩
    ·exact h.elim
   case len=>exact quiet h
   case cap=>exact quiet h
   case max=>exact quiet h
   case min=>exact quiet h
   all_goals exact bvc h
  all_goals exact other h
 all_goals first
  |exact quiet h
  |exact other h
-- what is quiet, what is an effect
def qD:Op->Bool
 |.buildSlice ..=>true
 |_=>false
abbrev AS:=UH×UH×UH
def tN(A:AS)(o:Oper):Bool:=match o.dst with
 |some t=>A.2.1.contains t
 |none=>false
def oH(A:AS)(o:Oper):Bool:=match o.dst with
 |some t=>A.2.2.contains t
 |none=>false
def oQ(A:AS)(o:Oper):Bool:=o.guard.isSome && oH A o && ja o.op
def nz(A:AS)(o:Oper):Bool:=(o.guard.isNone && !du o.op && !oD o.op && !(qD o.op && !oH A o) && !tN A o) || oQ A o
def AE(P:UP)(ev:UK)(H:Hp)(K:AV->Prop):Op->Prop
 |.call { callee:=.value f,args,.. }=>∃r,(fg P (ev f) (args.toList.map ev) H fun r' H'=>r'=r/\H'=H)/\K r
 |.lookup t m k c=>∃r,jM P (.lookup t m k c) 0 ev H (fun r' H'=>r'=r/\H'=H)/\K r
 |_=>False
def oG(o:Oper):Bool:=match o.op with
 |.load ..=>true
 |.lookup ..=>true
 |.call { callee:=.value _,.. }=>true
 |.call { callee:=.invoke ..,.. }=>true
 |.call { callee:=.builtin .len,argTypes,.. }=>jW.contains (argTypes.toList.headD 0)
 |_=>false
def mY(A:AS)(o:Oper):Bool:=match o.op with
 |.alloc _=>true
 |.box ..=>true
 |.store ..=>!A.1.isEmpty && !A.2.2.contains 1000000
 |.call { callee:=.value _,.. }=>oH A o
 |.call { callee:=.builtin .append,.. }=>oH A o
 |.buildSlice ..=>oH A o
 |.makeSlice ..=>oH A o
 |_=>false
def pm(o:Oper):Bool:=match o.op with
 |.load ..=>o.guard.isNone
 |_=>false
def eK(A:AS)(H H':Hp):Prop:=∀i r,A.1.contains i=false->H.get i=some r->H'.get i=some r\/(A.1.contains (i+16)=true/\∃t c c' cs,r=.var t (c::cs)/\H'.get i=some (.var t (c'::cs)))
def eK.refl(A:AS)(H:Hp):eK A H H:=fun _ _ _ h=>.inl h
def eK.trans{L:AS}{A B C:Hp}(h:eK L A B)(k:eK L B C):eK L A C:=fun i r ha e=>by
 rcases h i r ha e with h1|⟨h0,t,c,c',cs,rfl,h1⟩
 ·exact k i r ha h1
 ·rcases k i _ ha h1 with k1|⟨_,t',d,d',ds,e',k1⟩
  ·exact .inr ⟨h0,t,c,c',cs,rfl,k1⟩
  ·cases e';exact .inr ⟨h0,t,c,d',cs,rfl,k1⟩
theorem eK.put{A:AS}{H:Hp}{i:Nat}{r:Row}(h:H.get i=none):eK A H (H.put i r):=fun j s _ hj=>by
 left
 rw[Hp.bk,if_neg (by rintro rfl;rw[h]at hj;cases hj)];exact hj
variable{A:AS}{i:Nat}
def eK.set{H:Hp}{r:Row}(h:A.1.contains i=true):eK A H (H.put i r):=fun j s ha hj=>by
 left
 rw[Hp.bk,if_neg (by rintro rfl;rw[h]at ha;cases ha)];exact hj
def tG(A:AS):AV->Bool
 |.pt i _ _ j=>!A.1.contains i && (decide (1<=j) || !A.1.contains (i+16))
 |_=>true
def Ct(A:AS):AV->Bool
 |.pt i _ _ _=>A.1.contains i
 |_=>false
def iY(A:AS)(ev:UK):Op->Bool
 |.load _ x=>tG A (ev x)
 |.store _ a _=>(A.1.isEmpty || A.2.2.contains 1000000) || Ct A (ev a)
 |_=>true
variable{H':Hp}
def QQ{H:Hp}(h:eK A H H'){a:AV}(ha:tG A a=true){x:Prop×UE}(hc:px H a=some x):px H' a=some x:=by
 unfold px at*;split at hc
 ·exact hc
 ·rename_i i m k j;have ha:A.1.contains i=false/\(1<=j\/A.1.contains (i+16)=false):=by
   simp only[tG,Bool.and_eq_true,Bool.or_eq_true,Bool.not_eq_true',decide_eq_true_eq]at ha;exact ha
  cases e:H.get i with
  |none=>rw[e]at hc;cases hc
  |some r=>
   rw[e]at hc;rcases h i r ha.1 e with h1|⟨h0,t,c,c',cs,rfl,h1⟩
   ·simp only[h1];exact hc
   ·rcases ha.2 with h2|h2
    ·obtain⟨j',rfl⟩:∃j',j=j'+1:=⟨j-1,jB⟩;simp only[h1,List.drop_succ_cons]at hc ⊢;exact hc
    ·rw[h0]at h2;cases h2
 ·cases hc
def Ol{H:Hp}(h:eK A H H'){a:AV}(ha:tG A a=true)(hq:(o5 P H t a).1):o5 P H' t a=o5 P H t a:=by
 unfold o5 at*;cases e:px H a with
 |none=>rw[e]at hq;exact hq.elim
 |some x=>rw[QQ h ha e]
def fH(P:UP)(ev:UK)(H:Hp)(ty:UJ)(K:UB)(op:Op):Prop:=if oD op then(vq P ev H op).1/\K (vq P ev H op).2 H else match op with
 |.buildSlice t n parts=>ph P t n (parts.toList.map fun p=>(p.1,ev p.2)) fun r=>K r H
 |op=>vc P ev H ty K op
def Nt{ev:UK}(t:UJ)(n:Nat)(parts:Array (Nat×Operand)):fH P ev H ty K (.buildSlice t n parts)=ph P t n (parts.toList.map fun p=>(p.1,ev p.2)) fun r=>K r H:=rfl
def Hu{ev:UK}{op:Op}(h1:¬oD op=true)(h2:¬qD op=true):fH P ev H ty K op=vc P ev H ty K op:=by unfold fH;rw[if_neg h1];cases op<;>first|rfl|(exact(h2 rfl).elim)
def ur(P:UP)(A:AS)(ev:UK)(H:Hp)(K:UB):Op->Prop
 |.call { callee:=.value f,args,.. }=>fg P (ev f) (args.toList.map ev) H fun r H'=>eK A H H'/\K r H'
 |.buildSlice t n parts=>oE P H t n (parts.toList.map fun p=>(p.1,ev p.2)) fun r H'=>eK A H H'/\K r H'
 |.makeSlice t l c=>jM P (.makeSlice t l c) 0 ev H fun r H'=>eK A H H'/\K r H'
 |.call { callee:=.builtin .append,args,argTypes }=>vc P ev H 0 (fun r H'=>eK A H H'/\K r H') (.call ⟨.builtin .append,args,argTypes⟩)
 |_=>False
def fG(A:AS)(P:UP)(ops:Array Oper)(K:UA):List Oper->UA
 |[],F,H=>K F H
 |o::rest,F,H=>match o.guard with
  |none=>if tN A o=true then AE P (cr F) H (fun r=>fG A P ops K rest (cO F o.dst r) H) o.op else if oH A o=true then ur P A (cr F) H (fun r H'=>fG A P ops K rest (cO F o.dst r) H') o.op else iY A (cr F) o.op=true/\fH P (cr F) H o.type (fun r H'=>fG A P ops K rest (cO F o.dst r) H') o.op
  |some (j,want)=>match lZ ops F j want with
   |some b=>if oQ A o=true then(b=true->gp F o.op=true/\ur P A (bO F) H (fun r H'=>fG A P ops K rest (cO F o.dst r) H') o.op)/\(b=false->fG A P ops K rest (cO F o.dst (.gd false (.raw (.bool false)))) H)
    else(ja o.op || iM o.op)=true/\fa P F H b (fun r=>fG A P ops K rest (cO F o.dst r) H) o.op
   |none=>False
def Rj(ts:List UJ)(args:UE)(h:jW.contains (ts.headD 0)=false):mD P H .len ts args=mD P H' .len ts args:=by
 unfold mD;cases ts with
 |nil=>rfl
 |cons t ts=>
  cases args with
  |nil=>rfl
  |cons x l=>
   show uB P H t x=uB P H' t x;unfold uB;have h:jW.contains t=false:=h;have hn:¬(jW.contains t=true):=by rw[h];exact Bool.false_ne_true
   cases x with
   |raw v=>cases v<;>rfl
   |mr i=> show(if jW.contains t=true then _ else iu)=(if jW.contains t=true then _ else iu);rw[if_neg hn,if_neg hn]
   |_=>rfl
variable{o:Oper}
def xr{ev:UK}(h:oG o=false):vq P ev H o.op=vq P ev H' o.op:=by
 obtain⟨dst,op,ty,pos,after,guard⟩:=o;cases op<;>first
  |rfl
  |(simp[oG]at h;done)
  |skip
 rename_i c;obtain⟨callee,args,ts⟩:=c;cases callee
 case builtin b=>
  cases b
  case len=>exact Rj _ _ h
  all_goals(simp only[vq];unfold mD;generalize ts.toList=a;generalize args.toList.map ev=b;cases a<;>cases b<;>rfl)
 all_goals rfl
variable{F:UE}
def Qo{g:Bool}{K:AV->Prop}(h:oG o=false):fa P F H g K o.op=fa P F H' g K o.op:=by
 have hc:ja o.op=false:=by
  obtain⟨dst,op,ty,pos,after,guard⟩:=o;cases op<;>first
   |rfl
   |(rename_i c;obtain⟨callee,args,ts⟩:=c;cases callee<;>first|rfl|simp[oG]at h)
 by_cases hp:xl o.op=true
 ·obtain⟨dst,op,ty,pos,after,guard⟩:=o;cases op<;>first|(cases hp;done)|rfl|(rename_i c;obtain⟨callee,args,ts⟩:=c;cases callee<;>first|(cases hp;done)|simp[oG]at h)
 have hp:xl o.op=false:=by simpa using hp
 rw[Ag _ hc hp,Ag _ hc hp,xr h]
def Ub{ev:UK}{o:Op}(h:du o=true):vc P ev H ty K o=((vq P ev H o).1/\K (vq P ev H o).2 H):=by
 cases o
 case binOp op t x y t'=>cases op<;>first|(simp[du]at h;done)|simp[vc,du]
 case call c=>
  obtain⟨callee,args,ts⟩:=c;cases callee
  case builtin b=>cases b<;>first|(simp[du]at h;done)|simp[vc,du]
  all_goals(simp[du]at h;done)
 all_goals first
  |(simp[du]at h;done)
  |simp[vc,du]
def GL{K:UA}{rest:List Oper}(h:fG A P ops K (o::rest) F H) :
  (nz A o=true/\∀G,xK ops o F G->mR P ops o G H fun G' H'=>(mY A o=true->eK A H H')/\∃r,G'=cO G o.dst r/\fG A P ops K rest (cO F o.dst r) H')\/
  (nz A o=false/\∃r,QV P ops o F H r/\(oG o=false->∀H',QV P ops o F H' r)/\(pm o=true->∀H',eK A H H'->QV P ops o F H' r)/\fG A P ops K rest (cO F o.dst r) H):=by
 unfold fG at h;split at h
 ·rename_i hg;by_cases Xy:tN A o=true
  ·rw[if_pos Xy]at h;refine .inr ⟨by simp[nz,oQ,hg,Xy],?_⟩;obtain⟨dst,op,ty,pos,after,guard⟩:=o;simp only at hg;subst hg;cases op<;>first|exact h.elim|skip
   case call=>
    rename_i c;obtain⟨callee,args,ts⟩:=c;cases callee<;>first|exact h.elim|skip
    obtain⟨r,h1,h2⟩:=h;exact⟨r,HL h1,fun hd=>by simp[oG]at hd,fun Wz=>by simp[pm]at Wz,h2⟩
   case lookup=>
    rename_i t m k c;obtain⟨r,h1,h2⟩:=h;refine⟨r,fun G hG=>?_,fun hd=>by simp[oG]at hd,fun Wz=>by simp[pm]at Wz,h2⟩;refine qv (K:=fun F' H'=>F'=cO G dst r/\H'=H) rfl ?_;rw[uQ _ hG.1];have e:∀K:UB,vc P (cr F) H ty K (.lookup t m k c)=jM P (.lookup t m k c) ty (cr F) H K:=fun K=>by simp[vc,du]
    show vc P (cr F) H ty _ (.lookup t m k c);rw[e];intro w ρ dst' pos' after' guard' g1 g2;obtain⟨w',H',r',hk,g⟩:=h1 w ρ dst' pos' after' guard' g1 g2;exact⟨w',H',r',⟨by rw[hk.1],hk.2⟩,g⟩
  rw[if_neg Xy]at h;by_cases WD:oH A o=true
  ·rw[if_pos WD]at h;have Xy:tN A o=false:=by simpa using Xy
   obtain⟨dst,op,ty,pos,after,guard⟩:=o;simp only at hg;subst hg;cases op
   case call=>
    rename_i c _;obtain⟨callee,args,ts⟩:=c;cases callee
    case value f _=> refine .inl ⟨by simp[nz,du,oD,qD,Xy],fun G hG=>?_⟩;refine qv rfl ?_;rw[uQ _ hG.1];exact Ab (f:=cr F f) (args:=args.toList.map (cr F)) h fun r H' hk=>⟨fun _=>hk.1,r,rfl,hk.2⟩
    case builtin bi _=>
     cases bi
     case append=> refine .inl ⟨by simp[nz,du,oD,qD,Xy],fun G hG=>?_⟩;refine qv rfl ?_;rw[uQ _ hG.1];exact Fc (K:=fun r H'=>eK A H H'/\fG A P ops K rest (cO F dst r) H') (.call ⟨.builtin .append,args,ts⟩) (fun r H' hk=>⟨fun _=>hk.1,r,rfl,hk.2⟩) h
     all_goals exact h.elim
    all_goals exact h.elim
   case buildSlice=> refine .inl ⟨by simp[nz,du,oD,qD,Xy,WD],fun G hG=>?_⟩;refine qv rfl ?_;rw[uQ _ hG.1];exact GD h fun r H' hk=>⟨fun _=>hk.1,r,rfl,hk.2⟩
   case makeSlice=>
    rename_i t l c _;refine .inl ⟨by simp[nz,du,oD,qD,Xy],fun G hG=>?_⟩;refine qv rfl ?_;rw[uQ _ hG.1];have e:∀K:UB,vc P (cr F) H ty K (.makeSlice t l c)=jM P (.makeSlice t l c) ty (cr F) H K:=fun K=>by simp[vc,du]
    show vc P (cr F) H ty _ (.makeSlice t l c);rw[e];intro w ρ dst' pos' after' guard' h1 h2;obtain⟨w',H',r,hk,g⟩:=h w ρ dst' pos' after' guard' h1 h2;exact⟨w',H',r,⟨fun _=>hk.1,r,rfl,hk.2⟩,g⟩
   all_goals exact h.elim
  rw[if_neg WD]at h;obtain⟨hA,h⟩:=h;by_cases he:oD o.op=true
  ·unfold fH at h;rw[if_pos he]at h;exact .inr ⟨by simp[nz,oQ,hg,he],_,vw hg h.1,fun hd H'=>by rw[xr hd];exact vw hg (by rw[<-xr (H:=H) hd];exact h.1),fun Wz=>by obtain⟨dst,op,ty,pos,after,guard⟩:=o;cases op<;>first|(simp[oD]at he;done)|(simp[pm]at Wz;done),h.2⟩
  ·by_cases hl:qD o.op=true
   ·refine .inr ⟨by simp[nz,oQ,hg,hl,WD],?_⟩;obtain⟨dst,op,ty,pos,after,guard⟩:=o;simp only at hg;subst hg;cases op<;>first|(simp[qD]at hl;done)|skip
    rename_i t n parts;rw[Nt]at h;obtain⟨r,h1,h2⟩:=AU h;exact⟨r,Ca (h2 _ rfl),fun _ H'=>Ca (h2 _ rfl),fun Wz=>by simp[pm]at Wz,h1⟩
   ·rw[Hu he hl]at h;by_cases hq:du o.op=true
    ·have h':(vq P (cr F) H o.op).1/\fG A P ops K rest (cO F o.dst (vq P (cr F) H o.op).2) H:=by
      rw[Ub hq]at h;exact h
     refine .inr ⟨by simp[nz,oQ,hg,hq],_,vw hg h'.1,fun hd H'=>by rw[xr hd];exact vw hg (by rw[<-xr (H:=H) hd];exact h'.1),fun Wz H' Uq=>?_,h'.2⟩;obtain⟨dst,op,ty,pos,after,guard⟩:=o;cases op<;>first|(simp[pm]at Wz;done)|skip
     rename_i t a;have e:vq P (cr F) H' (.load t a)=vq P (cr F) H (.load t a):=Ol Uq hA h'.1;have:=vw (P:=P) (ops:=ops) (H:=H') (o:=⟨dst,.load t a,ty,pos,after,guard⟩) (F:=F) hg (by rw[e];exact h'.1);rw[e]at this;exact this
    ·refine .inl ⟨by simp[nz,oQ,hg];simp at hq he hl Xy;exact⟨⟨⟨hq,he⟩,.inl hl⟩,Xy⟩,fun G hG=>?_⟩;refine qv hg ?_;rw[uQ o.op hG.1];by_cases X0:mY A o=true
     ·obtain⟨dst,op,ty,pos,after,guard⟩:=o;cases op<;>first|(simp[mY]at X0;done)|(exact(WD X0).elim)|skip
      case call c=>
       obtain⟨callee,args,ts⟩:=c;cases callee
       case builtin bi=>cases bi<;>first|(exact(WD X0).elim)|(simp[mY]at X0;done)
       all_goals first|(exact(WD X0).elim)|(simp[mY]at X0;done)
      case alloc t=>
       simp only[vc,ob]at h ⊢;split at h
       ·obtain⟨i,h2,h3⟩:=h;exact⟨i,h2,fun _=>eK.put h2,_,rfl,h3⟩
       ·exact h.elim
      case box t x=>obtain⟨h1,i,h2,h3⟩:=h;exact⟨h1,i,h2,fun _=>eK.put h2,_,rfl,h3⟩
      case store t a x=>
       simp only[mY,Bool.and_eq_true,Bool.not_eq_true']at X0;simp only[iY,X0.1,X0.2,Bool.false_or]at hA;simp only[vc,u6]at h ⊢;split at h
       ·rename_i i m k j n ha hn;have hi:A.1.contains i=true:=by rw[ha]at hA;exact hA
        split at h
        ·rename_i r hr;obtain⟨h1,h2⟩:=h;exact⟨h1,fun _=>eK.set hi,_,rfl,h2⟩
        ·exact h.elim
       ·exact h.elim
     ·exact Fc o.op (fun r H' hk=>⟨fun haN=>(X0 haN).elim,r,rfl,hk⟩) h
 ·rename_i j want hg;split at h
  ·rename_i b hb;by_cases Yv:oQ A o=true
   ·rw[if_pos Yv]at h;refine .inl ⟨by simp[nz,Yv],fun G hG=>?_⟩;obtain⟨dst,op,ty,pos,after,guard⟩:=o;simp only at hg;subst hg;have hc:ja op=true:=by unfold oQ at Yv;simp only[Bool.and_eq_true]at Yv;exact Yv.2
    cases op<;>first|(cases hc;done)|skip
    rename_i c;obtain⟨callee,args,ts⟩:=c;cases callee<;>first|(cases hc;done)|skip
    rename_i f;have hev:∀x∈(Op.call ⟨.value f,args,ts⟩).operands.toList,cr G x=cr F x:=hG.1;have hbG:=hG.2 j want rfl;rw[hb]at hbG;have hGg:∀x∈(Op.call ⟨.value f,args,ts⟩).operands.toList,bO G x=bO F x:=fun x hx=>by unfold bO;rw[hev x hx]
    refine pn rfl hbG (fun Vg w tm Q next h1 h2 hn=>?_) (fun Vg=>⟨.gd false (.raw (.bool false)),qi rfl,⟨fun _=>eK.refl _ _,_,rfl,h.2 Vg⟩⟩);obtain⟨ok,Vc⟩:=h.1 Vg;have ok:gp G (.call ⟨.value f,args,ts⟩)=true:=by unfold gp at ok ⊢;rw[List.all_eq_true]at ok ⊢;exact fun x hx=>by rw[hev x hx];exact ok x hx
    have Xe:=qx ok;have e1:kF G f=bO F f:=(Xe f (by simp[Op.operands,Call.operands])).trans (hGg f (by simp[Op.operands,Call.operands]));have e2:args.toList.map (kF G)=args.toList.map (bO F):=List.map_congr_left fun x hx=>(Xe x (by simp[Op.operands,Call.operands]at hx ⊢;exact .inr hx)).trans (hGg x (by simp[Op.operands,Call.operands]at hx ⊢;exact .inr hx))
    refine xk (ev:=kF G) e1 e2 Vc h1 (sL h2) fun v r' w' H' hR g1 g2 g3=>?_
    rw[Act.put_eq];exact hn _ w' _ H' ⟨fun _=>hR.1,r',rfl,hR.2⟩ g1 ((h2.ext g3).put dst g2 []) g3
   rw[if_neg Yv]at h;obtain⟨hq,hv⟩:=h;obtain⟨r,h1,h2⟩:=Bv hv;have h3:=h2 F (fun r'=>r'=.gd b r) (fun _ _=>rfl) rfl;exact .inr ⟨by simp[nz,hg,Yv],_,CK hg hb hq h3,fun hd H'=>CK hg hb hq (by rw[Qo hd]at h3;exact h3),(fun Wz=>by
    unfold pm at Wz;split at Wz
    ·rw[hg]at Wz;cases Wz
    ·cases Wz),h1⟩
  ·exact h.elim
def dS(l:List Oper)(i:Nat):Oper:=l.getD i default
def kT(A:AS)(l:List Oper)(i:Nat):Bool:=nz A (dS l i)
def pc(A:AS)(E:UH)(l:List Oper)(ps:List UH):UH->UH->Bool
 |done,[]=>(List.range l.length).all fun i=>done.contains i
 |done,i::rest=>((ps.getD i []).all fun k=>done.contains k) && !done.contains i && decide (i<l.length) &&
   (!kT A l i || ((rest.all fun k=>(ps.getD k []).contains i || E.contains k) && done.all fun q=>kT A l q || !oG (dS l q) || (ps.getD i []).contains q || (mY A (dS l i) && pm (dS l q)))) && pc A E l ps (i::done) rest
def pU(A:AS)(E:UH)(l:List Oper)(ord:UH):Bool:=uw l && pc A E l (kP l) [] ord && E.all fun i=>!tN A (dS l i) && !oH A (dS l i)
def mem(done:UH)(i:Nat):Bool:=done.contains i
variable{l:List Oper}{done:UH}
def uE{E:UH}{rest:UH}(h:pc A E l (kP l) done (i::rest)=true) :
  (∀k∈(kP l).getD i [],k∈done)/\i ∉ done/\i<l.length/\(kT A l i=true->(∀k∈rest,i∈(kP l).getD k []\/k∈E)/\∀q∈done,kT A l q=true\/oG (dS l q)=false\/q∈(kP l).getD i []\/(mY A (dS l i)=true/\pm (dS l q)=true))/\pc A E l (kP l) (i::done) rest=true:=by
 simp only[pc,Bool.and_eq_true,List.all_eq_true,List.contains_iff_mem,Bool.not_eq_true',decide_eq_true_eq,Bool.or_eq_true]at h;obtain⟨⟨⟨⟨h1,h2⟩,h3⟩,h4⟩,h5⟩:=h;refine⟨h1,by simpa using h2,h3,fun he=>?_,h5⟩;rcases h4 with h4|h4
 ·rw[he]at h4;cases h4
 ·exact⟨h4.1,fun q hq=>by
   rcases h4.2 q hq with((h|h)|h)|h
   ·exact .inl h
   ·exact .inr (.inl h)
   ·exact .inr (.inr (.inl h))
   ·exact .inr (.inr (.inr h))⟩
theorem Pw{A:AS}{E:UH}{l:List Oper}:∀{rest done:UH},pc A E l (kP l) done rest=true->∀e∈rest,kT A l e=true->∀q∈done,kT A l q=true\/oG (dS l q)=false\/q∈(kP l).getD e []\/(mY A (dS l e)=true/\pm (dS l q)=true)
 |[],_,_=>fun e he=>by simp at he
 |i::rest,done,h=>fun e he X5 q hq=>by
  obtain⟨_,_,_,h4,h5⟩:=uE h;rcases List.mem_cons.1 he with rfl|he
  ·exact(h4 X5).2 q hq
  ·exact Pw h5 e he X5 q (List.mem_cons_of_mem _ hq)
theorem Cb{A:AS}{E:UH}{l:List Oper}:∀{rest done:UH},pc A E l (kP l) done rest=true->∀i,i<l.length->i∈done\/i∈rest
 |[],done,h=>fun i hi=>by simp only[pc,List.all_eq_true,List.mem_range,List.contains_iff_mem]at h;exact .inl (h i hi)
 |j::rest,done,h=>fun i hi=>by
  obtain⟨_,_,_,_,h5⟩:=uE h;rcases Cb h5 i hi with h|h
  ·rcases List.mem_cons.1 h with rfl|h
   ·exact .inr jE
   ·exact .inl h
  ·exact .inr (List.mem_cons_of_mem _ h)
def lU:mem done i=true<->i∈done:=by simp[mem]
def CU(done:UH)(i:Nat):(fun k=>mem (i::done) k)=fun k=>mem done k || k == i:=by
 funext k
 rw[Bool.eq_iff_iff];simp[mem,or_comm]
def yZ(ho:l[i]?=some o){e:Edge}(he:e∈o.after.toList)(hb:Region.binds .any e=true):e.on∈(kP l).getD i []:=by rw[II ho,CX];exact List.mem_flatMap.2 ⟨e,List.mem_filter.2 ⟨he,hb⟩,jE⟩
theorem Jq{os:List Oper}{rs F:UE}{L L':UO}{s:Nat}(h:∀k o,os[k]?=some o->o.dst=some s->L k=L' k):∀m,lG os rs L F s m=lG os rs L' F s m
 |0=>rfl
 |m+1=>by
  unfold lG;rw[Jq h m];cases ho:os[m]? with
  |none=>simp
  |some o=>
   simp only[Option.bind_some];by_cases hd:o.dst=some s
   ·rw[h m o ho hd]
   ·simp[hd]
theorem qL{os:List Oper}{rs F:UE}{L:UO}{i:Nat}{r:AV}(hL:L i=false):∀m,FL os (rs.set i r) L F m=FL os rs L F m
 |0=>rfl
 |m+1=>by
  unfold FL;rw[qL hL m];by_cases hm:m=i
  ·subst hm;simp[hL]
  ·have:(rs.set i r).getD m .any=rs.getD m .any:=by simp[List.getElem?_set,Ne.symm hm]
   rw[this]
section
variable {l:List Oper}(O':∀j o,l[j]?=some o->∀e∈o.after.toList,Region.binds .any e=true->e.on<j)
 (Uo:∀i j a b,i<j->l[i]?=some a->l[j]?=some b->ue l a b=true->i∈(kP l).getD j [])
include O' Uo
variable{L:UO}
theorem Dn(W4:n8 l L){i:Nat}{o:Oper}(ho:l[i]?=some o)(X4:L i=false)(VP:∀e∈o.after.toList,Region.binds .any e=true->L e.on=true) :
  ∀k o' s,l[k]?=some o'->o'.dst=some s->(s∈looks l o\/o.dst=some s)->L k=decide (k<i):=by
 intro k o' s hk hs Vj;have Vd:=vM W4 O' (i+1) i jB o ho VP;rcases Nat.lt_trichotomy k i with h|h|h
 ·rw[decide_eq_true h];refine Vd k (Uo k i o' o h hk ho ?_);unfold ue;rw[hs];rcases Vj with h5|h5
  ·simp[h5]
  ·simp[h5]
 ·subst h;simpa using X4
 ·rw[decide_eq_false jB];cases hv:L k with
  |false=>rfl
  |true=>
   have Wg:i∈(kP l).getD k []:=Uo i k o o' h ho hk (by
    unfold ue;rw[hs];rcases Vj with h5|h5
    ·simp[h5]
    ·simp[h5])
   have:=vM W4 O' (k+1) k jB o' hk (fun e he hb=>W4 k o' hk hv e he hb) i Wg;rw[X4]at this;cases this
theorem FH{rs F:UE}{L':UO}(hL:n8 l L)(WN:n8 l L'){i:Nat}{o:Oper}(ho:l[i]?=some o)(h1:L i=false)(h2:L' i=false)
  (h3:∀e∈o.after.toList,Region.binds .any e=true->L e.on=true) (h4:∀e∈o.after.toList,Region.binds .any e=true->L' e.on=true):xK l.toArray o (FL l rs L F l.length) (FL l rs L' F l.length):=by
 refine Jw (by rw[lM,lM]) fun s hs I'=>?_
 rw[lM]at I';rw[sx _ _ _ _ I',sx _ _ _ _ I'];exact(Jq (fun k o' hk hd=>by rw[Dn O' Uo hL ho h1 h3 k o' s hk hd (.inl hs),Dn O' Uo WN ho h2 h4 k o' s hk hd (.inl hs)]) _).symm
theorem wq{rs F:UE}{L2:UO}(hL:n8 l L){i:Nat}{o:Oper}(ho:l[i]?=some o)(h1:L i=false)(h3:∀e∈o.after.toList,Region.binds .any e=true->L e.on=true){r:AV}(hr:rs.getD i .any=r)(WV:∀k,L2 k=(L k || k == i)) :
  cO (FL l rs L F l.length) o.dst r=FL l rs L2 F l.length:=by
 have Wc:=(List.getElem?_eq_some_iff.1 ho).1;refine Gi (m':=0) (L':=fun _=>true) (by cases o.dst<;>simp[cO,lM]) fun s hs=>?_
 by_cases hd:o.dst=some s
 ·rw[C0 (L:=L) ho WV (fun k o' hk ZQ=>Dn O' Uo hL ho h1 h3 k o' s hk ZQ (.inr hd)) hd _ Wc,hd,hr];simp[cO,lM,hs]
 ·rw[AG (L:=L) ho WV hd,<-sx _ _ _ _ hs];cases ZQ:o.dst with
  |none=>rfl
  |some d=>
   have:d≠s:=fun e=>hd (by rw[ZQ,e])
   simp[cO,List.getElem?_set,this]
end
structure Inv(A:AS)(E:List Nat)(P:Program)(l:List Oper)(K:List AV->Hp->Prop)(F:List AV)(L:Nat->Bool)(done rest:List Nat)(rs:List AV)(H:Hp):Prop where
 len:rs.length=l.length
 sub:∀i,L i=true->i∈done\/i∈E
 dW:n8 l L
 kQ:n8 l (mem done)
 ord:pc A E l (kP l) done rest=true
 walk:fG A P l.toArray K (rest.map (dS l)) (FL l rs (mem done) F l.length) H
 wait:∀i∈done,L i=false->kT A l i=false/\i<l.length/\∃D,n8 l D/\D i=false/\(∀k,D k=true->k∈done)/\(∀e∈(dS l i).after.toList,Region.binds .any e=true->D e.on=true)/\
  QV P l.toArray (dS l i) (FL l rs D F l.length) H (rs.getD i .any)/\(oG (dS l i)=false->∀H',QV P l.toArray (dS l i) (FL l rs D F l.length) H' (rs.getD i .any))/\(pm (dS l i)=true->∀H',eK A H H'->QV P l.toArray (dS l i) (FL l rs D F l.length) H' (rs.getD i .any))
def z7(hi:i<l.length):l[i]?=some (dS l i):=by simp[dS,hi]
def ru(P:UP)(l:List Oper):UH->Prop
 |[]=>True
 |i::E=>(match (dS l i).op with|.alloc t=>(dR P t).isSome=true|_=>False)/\(dS l i).guard=none/\ru P l E
theorem zO{P:UP}{l:List Oper}:∀{E:UH},ru P l E->∀i∈E,∃t zs,(dS l i).op=.alloc t/\dR P t=some zs/\(dS l i).guard=none
 |[],_,i,hi=>by simp at hi
 |j::E,h,i,hi=>by
  obtain⟨h1,h2,h3⟩:=h;rcases List.mem_cons.1 hi with rfl|hi
  ·split at h1
   ·rename_i t e;obtain⟨zs,hz⟩:=Option.isSome_iff_exists.1 h1;exact⟨t,zs,e,hz,h2⟩
   ·exact h1.elim
  ·exact zO h3 i hi
def Dd(A:AS)(P:UP)(l:List Oper)(E:UH):Prop:=ru P l E/\∀i∈E,tN A (dS l i)=false/\oH A (dS l i)=false
def MT{P:UP}{E:UH}(h:Dd A P l E)(hi:i∈E):kT A l i=true/\mY A (dS l i)=true:=by obtain⟨t,zs,e,_,hg⟩:=zO h.1 i hi;simp[kT,nz,mY,e,hg,du,oD,qD,(h.2 i hi).1]
def Hid(P:UP)(l:List Oper)(L:UO)(done:UH)(rs:UE)(w0 w:NW)(β:Nat->Nat):Prop:=∀i,L i=true->i ∉ done->
 (∃t cur,(dS l i).op=.alloc t/\dR P t=some cur.toList/\rs.getD i .any=.raw (.pointer (some ⟨β i,0,none⟩))/\w.heap[β i]?=some (.cells cur t (0,0))/\w.O (β i)/\w0.heap.size<=β i/\β i<w.heap.size/\∀j m t s,w.nm j m≠some (.at (β i) t s))/\∀j,L j=true->j ∉ done->β i=β j->i=j
def Hid.ext{P:UP}{L:UO}{rs:UE}{w0 w w':NW}{β:Nat->Nat}{H:Hp}(h:Hid P l L done rs w0 w β)(e:Ext w H w' H'):Hid P l L done rs w0 w' β:=fun i h1 h2=>by obtain⟨⟨t,cur,a1,a2,a3,a4,a5,a6,a7,a8⟩,b⟩:=h i h1 h2;obtain⟨e1,e2,e3⟩:=e.rest (β i) a7 a5 a8;exact⟨⟨t,cur,a1,a2,a3,e1.trans a4,e2,a6,Nat.lt_of_lt_of_le a7 e.size,e3⟩,b⟩
def NY{w:NW}{H:Hp}(r:aJ w H){b:Nat}{cur:UL}(hi:H.get i=none)(hb:w.heap[b]?=some (.cells cur t (0,0)))(hO:w.O b)(O':b<w.heap.size)(Ur:∀j m t s,w.nm j m≠some (.at b t s)) :
  aJ (w.name i 0 (.at b cur.size 0)) (H.put i (.var t (cur.toList.map .raw)))/\Keep rG w (w.name i 0 (.at b cur.size 0))/\ax (w.name i 0 (.at b cur.size 0)) (.pt i 0 0 0) (.pointer (some ⟨b,0,none⟩)):=by
 have Vn:∀j n,(w.name i 0 (.at b cur.size 0)).nm j n=if j=i/\n=0 then some (Rz.at b cur.size 0)else w.nm j n:=fun _ _=>rfl
 have kp:Keep rG w (w.name i 0 (.at b cur.size 0)):=⟨Nat.le_refl _,fun _ _ h=>⟨rfl,h⟩,fun j n z _ h=>by
  rw[Vn,if_neg]
  ·exact h
  ·rintro⟨rfl,rfl⟩;rw[r.none hi]at h;cases h⟩
 refine⟨{ rows:=fun j s hj=>?_,di:=fun j n z hz=>?_,inj:=fun j n j' n' b' t1 s1 t2 s2 h1 h2=>?_,own:=fun j n b' t1 s1 h=>?_,fin:=r.fin,cd:=r.cd.aX kp },kp,?_⟩
 ·rw[Hp.bk]at hj;split at hj
  ·rename_i e;subst e;cases hj;refine⟨trivial,.at b cur.size 0,by rw[Vn];exact if_pos ⟨rfl,rfl⟩,rfl,cur,hb,⟨rfl,by show(cur.toList.map AV.raw).length<=_;simp⟩,fun k a v ha hv=>?_⟩;have ha:(cur.toList.map AV.raw)[k]?=some a:=ha;simp only[List.getElem?_map,Array.getElem?_toList,hv,Option.map_some,Option.some.injEq]at ha;subst ha;exact .raw _
  ·rename_i e;obtain⟨h1,z,h2,h3⟩:=r.rows j s hj;refine⟨h1,z,by rw[Vn,if_neg (fun h=>e h.1)];exact h2,?_⟩;cases z with
   |nil=>exact h3
   |«at» b' t' st=> obtain⟨g1,We,g2,g3,g5⟩:=h3;exact⟨g1,We,g2,g3,fun k a v ha hv=>(g5 k a v ha hv).aX kp (nA a)⟩
 ·rw[Vn]at hz;rw[Hp.bk];split at hz
  ·rename_i e;exact⟨_,by rw[if_pos e.1],by rw[e.2];exact Nat.zero_le _⟩
  ·obtain⟨r',h1,h2⟩:=r.di j n z hz;have e:j≠i:=fun e=>by subst e;rw[hi]at h1;cases h1
   exact⟨r',by rw[if_neg e];exact h1,h2⟩
 ·rw[Vn]at h1 h2;split at h1<;>split at h2
  ·rename_i e1 e2;rw[e1.1,e2.1]
  ·cases h1;exact(Ur _ _ _ _ h2).elim
  ·cases h2;exact(Ur _ _ _ _ h1).elim
  ·exact r.inj _ _ _ _ _ _ _ _ _ h1 h2
 ·rw[Vn]at h;split at h
  ·cases h;exact hO
  ·exact r.own _ _ _ _ _ h
 ·have:=ax.pt (w:=w.name i 0 (.at b cur.size 0)) i 0 0 0 b cur.size 0 (NW.cz _ _ _ _);simpa using this
def TC{w0 w:NW}{H0 H:Hp}(e:Ext w0 H0 w H)(r:aJ w H){b sz:Nat}(hi:H.get i=none)(hb:w0.heap.size<=b)(hB:H'.B=H.B):Ext w0 H0 (w.name i 0 (.at b sz 0)) H':={
 size:=e.size,free:=e.free
 names:=fun j n z hq h=>by
  have:=e.names j n z hq h;show(if j=i/\n=0 then _ else _)=_;rw[if_neg]
  ·exact this
  ·rintro⟨rfl,rfl⟩;rw[r.none hi]at this;cases this
 os:=e.os,tape:=e.tape,output:=e.output
 rest:=fun c hc hO Ur=>by
  obtain⟨e1,e2,e3⟩:=e.rest c hc hO Ur;refine⟨e1,e2,fun j n t s h=>?_⟩;have h:(if j=i/\n=0 then some (Rz.at b sz 0)else w.nm j n)=some (.at c t s):=h;split at h
  ·cases h;omega
  ·exact e3 _ _ _ _ h
 base:=hB.trans e.base }
theorem Ed{os:List Oper}{rs F:UE}{L:UO}{i:Nat}{r:AV}:∀(m:Nat) (s:Nat) (a:AV),(FL os (rs.set i r) L F m)[s]?=some a->(FL os rs L F m)[s]?=some a\/(a=r/\(FL os rs L F m)[s]?=some (rs.getD i .any)/\i<rs.length)
 |0=>fun s a h=>.inl h
 |m+1=>fun s a h=>by
  have ih:=Ed (os:=os) (rs:=rs) (F:=F) (L:=L) (i:=i) (r:=r) m;have hl:(FL os (rs.set i r) L F m).length=(FL os rs L F m).length:=by rw[lM,lM]
  unfold FL at h ⊢;cases hL:L m with
  |false=>simp only[hL,Bool.false_eq_true,if_false]at h ⊢;exact ih s a h
  |true=>
   simp only[hL,if_true]at h ⊢;cases hd:(os[m]?).bind (·.dst)with
   |none=>rw[hd]at h;exact ih s a h
   |some d=>
    rw[hd]at h;simp only[cO]at h ⊢;rw[List.getElem?_set]at h ⊢;by_cases e:d=s
    ·subst e;simp only[if_true]at h ⊢;rw[hl]at h;split at h
     ·rename_i O';rw[if_pos O'];simp only[Option.some.injEq]at h;by_cases hm:i=m
      ·subst hm;by_cases hi:i<rs.length
       ·refine .inr ⟨?_,rfl,hi⟩;rw[<-h];simp[hi]
       ·refine .inl ?_;rw[<-h];simp[hi,List.getElem?_set]
      ·refine .inl ?_;rw[<-h];simp[List.getElem?_set,hm]
     ·cases h
    ·simp only[if_neg e]at h ⊢;exact ih s a h
section
variable {A:AS}{E:UH}{l:List Oper}{K:UA}{F:UE}(hok:uw l=true)(hE:Dd A P l E)
include hok
variable{done:UH}{i:Nat}
theorem B0(hi:i<l.length)(hd:n8 l (mem done))(hp:∀k∈(kP l).getD i [],k∈done):n8 l (mem (i::done)):=fun j o ho hj e he hb=>by
 rw[lU]at hj ⊢;rcases List.mem_cons.1 hj with rfl|hj
 ·exact List.mem_cons_of_mem _ (hp _ (yZ ho he hb))
 ·exact List.mem_cons_of_mem _ (lU.1 (hd j o ho (lU.2 hj) e he hb))
include hE
theorem BD:∀(rest:UH) {L:UO} {done:UH} {rs:UE},Inv A E P l K F L done rest rs H->
  ∃done' VV VC,Inv A E P l K F L done' VV VC H/\(∀i r,VV=i::r->kT A l i=true)/\FL l VC L F l.length=FL l rs L F l.length/\VV.length<=rest.length/\(∀w0 w β,Hid P l L done rs w0 w β->Hid P l L done' VC w0 w β)
 |[],L,done,rs,h=>⟨done,[],rs,h,(fun i r e=>by cases e),rfl,Nat.le_refl _,fun _ _ _ h=>h⟩
 |i::rest,L,done,rs,h=>by
  obtain⟨O',Uo⟩:=uP hok;cases he:kT A l i with
  |true=>exact⟨done,i::rest,rs,h,fun j r e=>by cases e;exact he,rfl,Nat.le_refl _,fun _ _ _ h=>h⟩
  |false=>
   obtain⟨hp,hni,Wc,_,h5⟩:=uE h.ord;have ho:=z7 Wc;have hw:=h.walk;rw[List.map_cons]at hw;rcases GL hw with⟨hx,_⟩|⟨_,r,q1,q2,q2',q3⟩
   ·unfold kT at he;rw[he]at hx;cases hx
   have Y1:mem done i=false:=by rw[<-Bool.not_eq_true,lU];exact hni
   have ZR:L i=false:=by
    cases e:L i with
    |false=>rfl
    |true=>
     rcases h.sub i e with h6|h6
     ·exact(hni h6).elim
     ·rw[(MT (A:=A) hE h6).1]at he;cases he
   have VP:∀e∈(dS l i).after.toList,Region.binds .any e=true->mem done e.on=true:=fun e he hb=>lU.2 (hp _ (yZ ho he hb))
   have Um:∀D:UO,(∀k,D k=true->k∈done)->FL l (rs.set i r) D F l.length=FL l rs D F l.length:=fun D hD=>qL (by
    cases e:D i with
    |false=>rfl
    |true=>exact(hni (hD i e)).elim) _
   have Vq:(rs.set i r).getD i .any=r:=by simp[h.len,Wc]
   have Vu:∀j,j≠i->(rs.set i r).getD j .any=rs.getD j .any:=fun j hj=>by simp[List.getElem?_set,Ne.symm hj]
   have XK:=wq (rs:=rs.set i r) (F:=F) O' Uo h.kQ ho Y1 VP Vq (L2:=mem (i::done)) (fun k=>by rw[show mem (i::done) k=(fun k=>mem (i::done) k) k from rfl,CU]);rw[Um _ (fun k hk=>lU.1 hk)]at XK;have hinv:Inv A E P l K F L (i::done) rest (rs.set i r) H:=by
    refine⟨by simpa using h.len,fun k hk=>(h.sub k hk).imp_left (List.mem_cons_of_mem _),h.dW,B0 hok Wc h.kQ hp,h5,by rw[<-XK];exact q3,fun j hj Wy=>?_⟩;rcases List.mem_cons.1 hj with rfl|hj
    ·exact⟨he,Wc,mem done,h.kQ,Y1,fun k hk=>List.mem_cons_of_mem _ (lU.1 hk),VP,by rw[Um _ (fun k hk=>lU.1 hk),Vq];exact q1,fun hd H'=>by rw[Um _ (fun k hk=>lU.1 hk),Vq];exact q2 hd H',fun hd H' Uq=>by rw[Um _ (fun k hk=>lU.1 hk),Vq];exact q2' hd H' Uq⟩
    ·obtain⟨w1,w2,D,w3,w4,w5,w6,w7,w8,w9⟩:=h.wait j hj Wy;have Wt:j≠i:=fun e=>hni (e ▸ hj)
     exact⟨w1,w2,D,w3,w4,fun k hk=>List.mem_cons_of_mem _ (w5 k hk),w6,by rw[Um _ w5,Vu j Wt];exact w7,fun hd H'=>by rw[Um _ w5,Vu j Wt];exact w8 hd H',fun hd H' Uq=>by rw[Um _ w5,Vu j Wt];exact w9 hd H' Uq⟩
   obtain⟨d',r',VC,g1,g2,g3,g4,g5⟩:=BD rest hinv;refine⟨d',r',VC,g1,g2,by rw[g3,qL ZR],by simp;omega,fun w0 w β hh=>g5 w0 w β fun k U8 Uy=>?_⟩;have Wg:k≠i:=fun e=>Uy (by simp[e])
   obtain⟨a,b⟩:=hh k U8 fun XL=>Uy (List.mem_cons_of_mem _ XL)
   rw[Vu k Wg];exact⟨a,fun j Yi Xf=>b j Yi fun hj3=>Xf (List.mem_cons_of_mem _ hj3)⟩
variable{L:UO}{rest:UH}
theorem EP{L2:UO}{rs:UE}{r:AV}{H':Hp}(h:Inv A E P l K F L done (i::rest) rs H)(X5:kT A l i=true)(WV:∀k,L2 k=(L k || k == i))(XM:mY A (dS l i)=true->eK A H H')
  (Vd:∀k∈(kP l).getD i [],L k=true):∀j∈i::done,L2 j=false->kT A l j=false/\j<l.length/\∃D,n8 l D/\D j=false/\(∀k,D k=true->k∈i::done)/\(∀e∈(dS l j).after.toList,Region.binds .any e=true->D e.on=true)/\
  QV P l.toArray (dS l j) (FL l (rs.set i r) D F l.length) H' ((rs.set i r).getD j .any)/\(oG (dS l j)=false->∀Vx,QV P l.toArray (dS l j) (FL l (rs.set i r) D F l.length) Vx ((rs.set i r).getD j .any))/\(pm (dS l j)=true->∀Vx,eK A H' Vx->QV P l.toArray (dS l j) (FL l (rs.set i r) D F l.length) Vx ((rs.set i r).getD j .any)):=by
 intro j hj Wy;obtain⟨hp,Vu,Wu,h4,h5⟩:=uE h.ord;have Um:∀D:UO,(∀k,D k=true->k∈done)->FL l (rs.set i r) D F l.length=FL l rs D F l.length:=fun D hD=>qL (by
  cases e:D i with
  |false=>rfl
  |true=>exact(Vu (hD i e)).elim) _
 have hgn:∀j,j≠i->(rs.set i r).getD j .any=rs.getD j .any:=fun j hj=>by simp[List.getElem?_set,Ne.symm hj]
 rw[WV]at Wy;obtain⟨Wy,Wt⟩:=Bool.or_eq_false_iff.1 Wy;have Wt:j≠i:=by simpa using Wt
 have hj:j∈done:=by rcases List.mem_cons.1 hj with e|h;exact(Wt e).elim;exact h
 obtain⟨w1,w2,D,w3,w4,w5,w6,w7,w8,w9⟩:=h.wait j hj Wy;have haO:QV P l.toArray (dS l j) (FL l rs D F l.length) H' (rs.getD j .any):=by
  rcases(h4 X5).2 j hj with h6|h6|h6|h6
  ·rw[w1]at h6;cases h6
  ·exact w8 h6 H'
  ·have:=Vd j h6;rw[Wy]at this;cases this
  ·exact w9 h6.2 H' (XM h6.1)
 refine⟨w1,w2,D,w3,w4,fun k hk=>List.mem_cons_of_mem _ (w5 k hk),w6,by rw[Um _ w5,hgn j Wt];exact haO,fun hd Vx=>by rw[Um _ w5,hgn j Wt];exact w8 hd Vx,fun hd Vx Uq=>?_⟩;rw[Um _ w5,hgn j Wt];rcases(h4 X5).2 j hj with h6|h6|h6|h6
 ·rw[w1]at h6;cases h6
 ·exact w8 h6 Vx
 ·have:=Vd j h6;rw[Wy]at this;cases this
 ·exact w9 h6.2 Vx ((XM h6.1).trans Uq)
theorem Iq{w0:NW}{H0:Hp}:∀(n:Nat) {L:UO} {done rest:UH} {rs:UE} {H:Hp} {w:NW} {tm:UL} {β:Nat->Nat},rest.length<=n->Inv A E P l K F L done rest rs H->aJ w H->bs w (FL l rs L F l.length) tm->Ext w0 H0 w H->Hid P l L done rs w0 w β->
  ∃done' VV VC H' w',NW.toWorld w'=w.toWorld/\Inv A E P l K F L done' VV VC H'/\(∀i r,VV=i::r->kT A l i=true/\L i=false)/\aJ w' H'/\bs w' (FL l VC L F l.length) tm/\Ext w0 H0 w' H'/\Hid P l L done' VC w0 w' β
 |n,L,done,rest,rs,H,w,tm,β,hn,h,h1,h2,h3,h4=>by
  obtain⟨O',Uo⟩:=uP hok;obtain⟨d',r',VC,g1,g2,g3,g4,g5⟩:=BD hok hE rest h;have g5:=g5 _ _ _ h4;rw[<-g3]at h2;cases r' with
  |nil=>exact⟨d',[],VC,H,w,rfl,g1,(fun i r e=>by cases e),h1,h2,h3,g5⟩
  |cons i r=>
   have X5:=g2 i r rfl;cases ZR:L i with
   |false=>exact⟨d',i::r,VC,H,w,rfl,g1,(fun j q e=>by cases e;exact⟨X5,ZR⟩),h1,h2,h3,g5⟩
   |true=>
    obtain⟨hp,Vu,Wu,c4,c5⟩:=uE g1.ord;obtain⟨⟨t,cur,a1,a2,a3,a4,a5,a6,a7,a8⟩,a9⟩:=g5 i ZR Vu;have hiE:i∈E:=(g1.sub i ZR).resolve_left Vu;have Yv:(dS l i).guard=none:=by obtain⟨_,_,_,_,hg⟩:=zO hE.1 i hiE;exact hg
    have hw:=g1.walk;rw[List.map_cons]at hw;unfold fG at hw;rw[Yv]at hw;simp only at hw;rw[if_neg (by rw[(hE.2 i hiE).1];exact Bool.false_ne_true),if_neg (by rw[(hE.2 i hiE).2];exact Bool.false_ne_true)]at hw;obtain⟨_,hw⟩:=hw;rw[a1,Hu (by simp[oD]) (by simp[qD])]at hw;simp only[vc,ob,a2]at hw;obtain⟨id,hid,hv⟩:=hw;have ho:=z7 Wu;obtain⟨k1,k2,k3⟩:=NY h1 hid a4 a5 a7 a8;have Y1:mem d' i=false:=by rw[<-Bool.not_eq_true,lU];exact Vu
    have V5:∀e∈(dS l i).after.toList,Region.binds .any e=true->mem d' e.on=true:=fun e he hb=>lU.2 (hp _ (yZ ho he hb))
    have Vq:(VC.set i (.pt id 0 0 0)).getD i .any=.pt id 0 0 0:=by simp[g1.len,Wu]
    have Um:∀D:UO,(∀k,D k=true->k∈d')->FL l (VC.set i (.pt id 0 0 0)) D F l.length=FL l VC D F l.length:=fun D hD=>qL (by
     cases e:D i with
     |false=>rfl
     |true=>exact(Vu (hD i e)).elim) _
    have Vw:=wq (rs:=VC.set i (.pt id 0 0 0)) (F:=F) O' Uo g1.kQ ho Y1 V5 Vq (L2:=mem (i::d')) (fun k=>by rw[show mem (i::d') k=(fun k=>mem (i::d') k) k from rfl,CU]);rw[Um _ (fun k hk=>lU.1 hk)]at Vw;have Vd:∀k∈(kP l).getD i [],L k=true:=vM g1.dW O' (i+1) i jB _ ho fun e he hb=>g1.dW i _ ho ZR e he hb
    have hinv:Inv A E P l K F L (i::d') r (VC.set i (.pt id 0 0 0)) (H.put id (.var t (cur.toList.map .raw))):=
     ⟨by simpa using g1.len,fun k hk=>(g1.sub k hk).imp_left (List.mem_cons_of_mem _),g1.dW,B0 hok Wu g1.kQ hp,c5,by rw[<-Vw];exact hv,
      EP hok hE g1 X5 (fun k=>by
       by_cases e:k=i
       ·subst e;simp[ZR]
       ·simp[e]) (fun _=>eK.put hid) Vd⟩
    have U2:bs (w.name id 0 (.at (β i) cur.size 0)) (FL l (VC.set i (.pt id 0 0 0)) L F l.length) tm:=by
     refine⟨by rw[lM];have:=h2.1;rw[lM]at this;exact this,fun s a v ha U3=>?_⟩;rcases Ed l.length s a ha with h6|⟨rfl,h6,_⟩
     ·exact(h2.2 s a v h6 U3).aX k2 (nA a)
     ·have:=h2.2 s _ v h6 U3;rw[a3]at this;have:=db this;subst this;exact k3
    have Y2:Hid P l L (i::d') (VC.set i (.pt id 0 0 0)) w0 (w.name id 0 (.at (β i) cur.size 0)) β:=fun k U8 Uy=>by
     have Wg:k≠i:=fun e=>Uy (by simp[e])
     have XL:k ∉ d':=fun e=>Uy (List.mem_cons_of_mem _ e)
     obtain⟨⟨t',We,b1,b2,b3,b4,b5,b6,b7,b8⟩,b9⟩:=g5 k U8 XL;refine⟨⟨t',We,b1,b2,by rw[<-b3];simp[List.getElem?_set,Ne.symm Wg],b4,b5,b6,b7,fun j m t1 s1 hh=>?_⟩,fun j Yi Xf=>b9 j Yi fun e=>Xf (List.mem_cons_of_mem _ e)⟩;have hh:(if j=id/\m=0 then some (Rz.at (β i) cur.size 0)else w.nm j m)=some (.at (β k) t1 s1):=hh;split at hh
     ·simp only[Option.some.injEq,Rz.at.injEq]at hh;exact Wg (a9 k U8 XL hh.1).symm
     ·exact b8 _ _ _ _ hh
    simp only[List.length_cons]at g4;obtain⟨n,rfl⟩:∃k,n=k+1:=⟨n-1,jB⟩;obtain⟨d2,r2,rs2,H2,w2,x1,x2,x3,x4,x5,x6,x7⟩:=Iq n jB hinv k1 U2 (TC h3 h1 hid a6 rfl) Y2;exact⟨d2,r2,rs2,H2,w2,x1,x2,x3,x4,x5,x6,x7⟩
theorem SC{rs:UE}(h:Inv A E P l K F L done rest rs H)(hs:∀i r,rest=i::r->kT A l i=true/\L i=false){o:Oper}(ho:l[i]?=some o)(hi:L i=false)(VP:∀e∈o.after.toList,Region.binds .any e=true->L e.on=true)
  {L2:UO} (WV:∀k,L2 k=(L k || k == i)) (hnE:i∈done\/i ∉ E\/∃r,rest=i::r) :
  mR P l.toArray o (FL l rs L F l.length) H fun G' H'=>∃done' VV VC,Inv A E P l K F L2 done' VV VC H'/\G'=FL l VC L2 F l.length/\∀w0 w β,Hid P l L done rs w0 w β->Hid P l L2 done' VC w0 w β:=by
 obtain⟨O',Uo⟩:=uP hok;have Wc:=(List.getElem?_eq_some_iff.1 ho).1;obtain rfl:o=dS l i:=by have:=(z7 Wc).symm.trans ho;cases this;rfl
 have XN:n8 l L2:=fun j o' hj Wy e he hb=>by
  rw[WV]at Wy ⊢;rcases Bool.or_eq_true_iff.1 Wy with h6|h6
  ·rw[h.dW j o' hj h6 e he hb];rfl
  ·obtain rfl:j=i:=by simpa using h6
   rw[ho]at hj;cases hj;rw[VP e he hb];rfl
 by_cases hd:i∈done
 ·obtain⟨w1,w2,D,w3,w4,w5,w6,w7,w8,w9⟩:=h.wait i hd hi;refine(w7 _ (FH O' Uo w3 h.dW ho w4 hi w6 VP)).mono ?_;rintro G' H' ⟨rfl,rfl⟩;refine⟨done,rest,rs,⟨h.len,fun k hk=>?_,XN,h.kQ,h.ord,h.walk,fun j hj Wy=>h.wait j hj ?_⟩,wq O' Uo h.dW ho hi VP rfl WV,fun w0 w β hh k U8 Uy=>?_⟩
  ·rw[WV]at hk;rcases Bool.or_eq_true_iff.1 hk with h6|h6
   ·exact h.sub k h6
   ·obtain rfl:k=i:=by simpa using h6
    exact .inl hd
  ·rw[WV]at Wy;exact(Bool.or_eq_false_iff.1 Wy).1
  ·have YT:∀k,L2 k=true->k ∉ done->L k=true:=fun k h1 h2=>by
    rw[WV]at h1;rcases Bool.or_eq_true_iff.1 h1 with h6|h6
    ·exact h6
    ·obtain rfl:k=i:=by simpa using h6
     exact(h2 hd).elim
   obtain⟨a,b⟩:=hh k (YT k U8 Uy) Uy;exact⟨a,fun j Yi Xf=>b j (YT j Yi Xf) Xf⟩
 ·-- the next effect
  have UZ:i∈rest:=(Cb h.ord i Wc).resolve_left hd;obtain⟨e,VV,rfl⟩:∃e r,rest=e::r:=by cases rest with|nil=>simp at UZ|cons e r=>exact⟨e,r,rfl⟩
  obtain⟨X5,hLe⟩:=hs e VV rfl;obtain⟨hp,Vu,Wu,h4,h5⟩:=uE h.ord;have Vd:=vM h.dW O' (i+1) i jB _ ho VP;obtain rfl:i=e:=by
   rcases List.mem_cons.1 UZ with h|hr
   ·exact h
   ·rcases(h4 X5).1 i hr with h6|h6
    ·have:=Vd e h6;rw[hLe]at this;cases this
    ·rcases hnE with h7|h7|⟨r,h7⟩
     ·exact(hd h7).elim
     ·exact(h7 h6).elim
     ·cases h7;rfl
  have Y1:mem done i=false:=by rw[<-Bool.not_eq_true,lU];exact Vu
  have V5:∀e∈(dS l i).after.toList,Region.binds .any e=true->mem done e.on=true:=fun e he hb=>lU.2 (hp _ (yZ ho he hb))
  have hw:=h.walk;rw[List.map_cons]at hw;obtain⟨_,hx⟩:=(GL hw).resolve_right fun⟨hx,_⟩=>by unfold kT at X5;rw[X5]at hx;cases hx
  refine(hx _ (FH O' Uo h.kQ h.dW ho Y1 hi V5 VP)).mono ?_;rintro G' H' ⟨XM,r,rfl,hv⟩;have Um:∀D:UO,(∀k,D k=true->k∈done)->FL l (rs.set i r) D F l.length=FL l rs D F l.length:=fun D hD=>qL (by
   cases e:D i with
   |false=>rfl
   |true=>exact(Vu (hD i e)).elim) _
  have Vq:(rs.set i r).getD i .any=r:=by simp[h.len,Wc]
  have Vw:=wq (rs:=rs.set i r) (F:=F) O' Uo h.kQ ho Y1 V5 Vq (L2:=mem (i::done)) (fun k=>by rw[show mem (i::done) k=(fun k=>mem (i::done) k) k from rfl,CU]);rw[Um _ (fun k hk=>lU.1 hk)]at Vw;have WG:=wq (rs:=rs.set i r) (F:=F) O' Uo h.dW ho hi VP Vq WV;rw[qL hi]at WG;refine⟨i::done,VV,rs.set i r,⟨by simpa using h.len,fun k hk=>?_,XN,B0 hok Wc h.kQ hp,h5,by rw[<-Vw];exact hv,EP hok hE h X5 WV XM Vd⟩,WG,fun w0 w β hh k U8 Uy=>?_⟩
  ·rw[WV]at hk;rcases Bool.or_eq_true_iff.1 hk with h6|h6
   ·exact(h.sub k h6).imp_left (List.mem_cons_of_mem _)
   ·obtain rfl:k=i:=by simpa using h6
    simp
  ·have YT:∀k,L2 k=true->k ∉ i::done->L k=true/\k ∉ done/\k≠i:=fun k h1 h2=>by
    rw[WV]at h1;simp only[List.mem_cons,not_or]at h2;rcases Bool.or_eq_true_iff.1 h1 with h6|h6
    ·exact⟨h6,h2.2,h2.1⟩
    ·exact(h2.1 (by simpa using h6)).elim
   obtain⟨y1,y2,y3⟩:=YT k U8 Uy;obtain⟨⟨t,cur,b1,b2,b3,b4⟩,b⟩:=hh k y1 y2;exact⟨⟨t,cur,b1,b2,by rw[<-b3];simp[List.getElem?_set,Ne.symm y3],b4⟩,fun j Yi Xf=>b j (YT j Yi Xf).1 (YT j Yi Xf).2.1⟩
theorem Rx{rs:UE}(h:Inv A E P l K F L done rest rs H){o:Oper}(ho:l[i]?=some o)(hi:L i=false)(hd:i ∉ done)(hiE:i∈E)(VP:∀e∈o.after.toList,Region.binds .any e=true->L e.on=true)
  {L2:UO} (WV:∀k,L2 k=(L k || k == i)) {w0 w:NW} {H0:Hp} {tm:UL} {β:Nat->Nat} (h1:aJ w H) (h2:bs w (FL l rs L F l.length) tm) (h3:Ext w0 H0 w H) (h4:Hid P l L done rs w0 w β) {Q:Exit->Act->World->Prop} {next:Act->World->Prop}
  (hn:∀Vk w' VC β',Inv A E P l K F L2 done rest VC H->aJ w' H->bs w' (FL l VC L2 F l.length) Vk->Ext w0 H0 w' H->Hid P l L2 done VC w0 w' β'->next ⟨Vk,[]⟩ w'.toWorld):tH P l.toArray Q o next ⟨tm,[]⟩ w.toWorld:=by
 obtain⟨O',Uo⟩:=uP hok;have Wc:=(List.getElem?_eq_some_iff.1 ho).1;obtain rfl:o=dS l i:=by have:=(z7 Wc).symm.trans ho;cases this;rfl
 obtain⟨t,zs,e1,e2,e3⟩:=zO hE.1 i hiE;obtain⟨z,B',rfl⟩:=yo (w:=w.toWorld) e2;have XN:n8 l L2:=fun j o' hj Wy e he hb=>by
  rw[WV]at Wy ⊢;rcases Bool.or_eq_true_iff.1 Wy with h6|h6
  ·rw[h.dW j o' hj h6 e he hb];rfl
  ·obtain rfl:j=i:=by simpa using h6
   rw[ho]at hj;cases hj;rw[VP e he hb];rfl
 have Vq:(rs.set i (.raw (.pointer (some ⟨w.heap.size,0,none⟩)))).getD i .any=.raw (.pointer (some ⟨w.heap.size,0,none⟩)):=by simp[h.len,Wc]
 have Vu:∀j,j≠i->∀r:AV,(rs.set i r).getD j .any=rs.getD j .any:=fun j hj r=>by simp[List.getElem?_set,Ne.symm hj]
 have Um:∀(r:AV) (D:UO),(∀k,D k=true->k∈done)->FL l (rs.set i r) D F l.length=FL l rs D F l.length:=fun r D hD=>qL (by
  cases e:D i with
  |false=>rfl
  |true=>exact(hd (hD i e)).elim) _
 have WG:=wq (rs:=rs.set i (.raw (.pointer (some ⟨w.heap.size,0,none⟩)))) (F:=F) O' Uo h.dW ho hi VP Vq WV;rw[qL hi]at WG;have ex:Ext w H ((w.to (w.alloc (.cells z.cells t))).gi w.heap.size) H:={
  size:=by show w.heap.size<=(w.alloc _).heap.size;simp
  free:=fun b hb hn=>⟨RowKit.Below.heap_alloc w.toWorld _ b hb,fun h=>by
   rcases h with h|h
   ·omega
   ·exact hn h⟩
  names:=fun _ _ _ _ h=>h
  os:=rfl,tape:=rfl,output:=rfl
  rest:=fun b hb hO Ur=>⟨RowKit.Below.heap_alloc w.toWorld _ b hb,.inr hO,Ur⟩
  base:=rfl }
 have hW:aJ ((w.to (w.alloc (.cells z.cells t))).gi w.heap.size) H:={
  rows:=fun j row hj=>by obtain⟨g1,y,g2,g3⟩:=h1.rows j row hj;refine⟨g1,y,g2,g3.ext ex fun b t' s e=>?_⟩;subst e;exact RowKit.Below.heap_alloc w.toWorld _ b (h1.lt g2)
  di:=h1.di,inj:=h1.inj,cd:=h1.cd.aX ex.toKeep
  own:=fun j n b t' s hh=>.inr (h1.own j n b t' s hh)
  fin:=fun b hb=>by
   show b<(w.alloc _).heap.size;rcases hb with hh|hh
   ·subst hh;simp
   ·have:=h1.fin b hh;simp;omega }
 have YT:∀k,L2 k=true->k≠i->L k=true:=fun k h1 h2=>by rw[WV]at h1;exact(Bool.or_eq_true_iff.1 h1).resolve_right (by simpa using h2)
 unfold tH;rw[if_pos (by simp[Region.wanted,e3])];refine .inl ?_;have hex:(execOp (Act.mk tm []).eval (dS l i)).run P w.toWorld=.ok (.value (.pointer (some ⟨w.heap.size,0,none⟩))) (w.alloc (.cells z.cells t)):=by
  have:∀(o:Oper),o.op=.alloc t->(execOp (Act.mk tm []).eval o).run P w.toWorld=.ok (.value (.pointer (some ⟨w.heap.size,0,none⟩))) (w.alloc (.cells z.cells t)):=fun o ho=>by obtain⟨dst,op,ty,pos,after,guard⟩:=o;simp only at ho;subst ho;simp only[execOp,Sem.run_bind,Instr.alloc,B',Result.andThen_ok,newVar,newRow];simp
  exact this _ e1
 simp only[Oper.wp,hex,Oper.upon];rw[Act.put_eq];refine hn _ ((w.to (w.alloc (.cells z.cells t))).gi w.heap.size) (rs.set i (.raw (.pointer (some ⟨w.heap.size,0,none⟩)))) (fun k=>if k=i then w.heap.size else β k) ⟨by simpa using h.len,fun k hk=>?_,XN,h.kQ,h.ord,by rw[Um _ _ (fun k hk=>lU.1 hk)];exact h.walk,fun j hj Wy=>?_⟩ hW ?_ (h3.trans ex) ?_
 ·rw[WV]at hk;rcases Bool.or_eq_true_iff.1 hk with h6|h6
  ·exact h.sub k h6
  ·obtain rfl:k=i:=by simpa using h6
   exact .inr hiE
 ·rw[WV]at Wy;obtain⟨w1,w2,D,w3,w4,w5,w6,w7,w8,w9⟩:=h.wait j hj (Bool.or_eq_false_iff.1 Wy).1;have Wt:j≠i:=fun e=>hd (e ▸ hj)
  exact⟨w1,w2,D,w3,w4,w5,w6,by rw[Um _ _ w5,Vu j Wt];exact w7,fun hd H'=>by rw[Um _ _ w5,Vu j Wt];exact w8 hd H',fun hd H' Uq=>by rw[Um _ _ w5,Vu j Wt];exact w9 hd H' Uq⟩
 ·rw[<-WG];exact(h2.ext ex).put _ (.raw _) []
 ·intro k U8 Uy;by_cases Wg:k=i
  ·subst Wg;refine⟨⟨t,z.cells,e1,e2,by simp only[if_true];exact Vq,by simp only[if_true];exact heap_alloc_new w.toWorld _,by simp only[if_true];exact .inl rfl,by simp only[if_true];exact h3.size,by simp only[if_true];show w.heap.size<(w.alloc _).heap.size;simp,fun j m t' s hh=>?_⟩,fun j Yi Xf e=>?_⟩
   ·simp only[if_true]at hh;have hh:w.nm j m=some (.at w.heap.size t' s):=hh;have:=h1.lt hh;omega
   ·by_cases hjk:j=k
    ·exact hjk.symm
    ·exfalso;obtain⟨⟨_,_,_,_,_,_,_,_,b7,_⟩,_⟩:=h4 j (YT j Yi hjk) Xf;simp only[if_true,if_neg hjk]at e;omega
  ·obtain⟨⟨t',cur,b1,b2,b3,b4,b5,b6,b7,b8⟩,b9⟩:=h4 k (YT k U8 Wg) Uy;simp only[if_neg Wg];refine⟨⟨t',cur,b1,b2,by rw[Vu k Wg];exact b3,(RowKit.Below.heap_alloc w.toWorld _ _ b7).trans b4,.inr b5,b6,Nat.lt_of_lt_of_le b7 ex.size,b8⟩,fun j Yi Xf e=>?_⟩;by_cases Wt:j=i
   ·subst Wt;simp only[if_true]at e;omega
   ·simp only[if_neg Wt]at e;exact b9 j (YT j Yi Wt) Xf e
theorem TZ{Q:Exit->UA}(hQ:∀F H,K F H->Q .normal F H){H0:Hp}(w0:NW) :
  ∀(fuel:Nat) (listed:Array Bool),listed.size=l.length->(List.range l.length).countP (fun i=>!listed.getD i false)=fuel->
   ∀H done rest rs (w:NW) tm β,Inv A E P l K F (fun i=>listed.getD i false) done rest rs H->(∀i r,rest=i::r->kT A l i=true/\listed.getD i false=false)->
    aJ w H->bs w (FL l rs (fun i=>listed.getD i false) F l.length) tm->Ext w0 H0 w H->Hid P l (fun i=>listed.getD i false) done rs w0 w β->wpAny P .any l.toArray (gX Q w0 H0) fuel listed ⟨tm,[]⟩ w.toWorld:=by
 obtain⟨O',Uo⟩:=uP hok;have fin:∀(listed:Array Bool) H done rest rs,Inv A E P l K F (fun i=>listed.getD i false) done rest rs H->(∀i r,rest=i::r->kT A l i=true/\listed.getD i false=false)->(∀i,i<l.length->listed.getD i false=true)->∀(w:NW) tm,aJ w H->bs w (FL l rs (fun i=>listed.getD i false) F l.length) tm->Ext w0 H0 w H->gX Q w0 H0 .normal ⟨tm,[]⟩ w.toWorld:=by
  intro listed H done rest rs h hs UX w tm h1 h2 h3;obtain rfl:rest=[]:=by
   cases rest with
   |nil=>rfl
   |cons i r=> obtain⟨_,hni,Wc,_⟩:=uE h.ord;have h6:=(hs i r rfl).2;rw[UX i Wc]at h6;cases h6
  have e:FL l rs (fun i=>listed.getD i false) F l.length=FL l rs (mem done) F l.length:=by
   have gen:∀m,m<=l.length->FL l rs (fun i=>listed.getD i false) F m=FL l rs (mem done) F m:=by
    intro m;induction m with
    |zero=>intro _;rfl
    |succ m ih=> intro hm;have h4:=UX m jB;have h5:mem done m=true:=lU.2 ((Cb h.ord m jB).resolve_right jE);rw[FL,FL,ih jB,h4,h5]
   exact gen _ jl
  rw[e]at h2;exact⟨tm,_,H,w,rfl,rfl,hQ _ _ h.walk,h1,h2,h3.pB⟩
 intro fuel;induction fuel with
 |zero=>
  intro listed Uu Yu H done rest rs w tm β h hs h1 h2 h3 _;have UX:∀i,i<l.length->listed.getD i false=true:=fun i hi=>by have:=(List.countP_eq_zero.1 Yu) i (List.mem_range.2 hi);simpa using this
  refine⟨?_,fin listed H done rest rs h hs UX w tm h1 h2 h3⟩;rw[List.eq_nil_iff_forall_not_mem];intro j hj;obtain⟨ZO,o,ho,_⟩:=mem_ready.1 hj;have Y0:j<l.length:=by have:=(Array.getElem?_eq_some_iff.1 ho).1;simpa using this
  have:=UX j Y0;simp[Uu,Y0]at this ZO;rw[this]at ZO;cases ZO
 |succ fuel ih=>
  intro listed Uu Yu H done rest rs w tm β h hs h1 h2 h3 Y2;refine⟨fun ZP=>?_,fun i hi=>?_⟩
  ·exfalso;have hex:∃i,i<l.length/\listed.getD i false=false:=by
    have VU:0<(List.range l.length).countP (fun i=>!listed.getD i false):=jB;obtain⟨i,hi,hp⟩:=List.countP_pos_iff.1 VU;exact⟨i,List.mem_range.1 hi,by simpa using hp⟩
   obtain⟨i,⟨hi,hf⟩,Xx⟩:=exists_least hex;have ho:l[i]?=some l[i]:=List.getElem?_eq_getElem hi;have:i∈Region.ready .any l.toArray listed:=mem_ready.2 ⟨by simp[Uu,hi]at hf ⊢;exact hf,l[i],by simp[hi],fun e he hb=>by
    have h4:=O' i _ ho e (by simpa using he) hb;cases hv:listed.getD e.on false with
    |true=>rfl
    |false=>have:=Xx e.on ⟨jB,hv⟩;omega⟩
   rw[ZP]at this;cases this
  ·obtain⟨WU,o,ho,VP⟩:=mem_ready.1 hi;have WM:l[i]?=some o:=by simpa using ho
   have Wc:=(List.getElem?_eq_some_iff.1 WM).1;have X4:listed.getD i false=false:=by simp[Uu,Wc]at WU ⊢;exact WU
   have V5:∀e∈o.after.toList,Region.binds .any e=true->listed.getD e.on false=true:=fun e he hb=>VP e (by simpa using he) hb
   have WN:∀k,(listed.setIfInBounds i true).getD k false=(listed.getD k false || k == i):=fun k=>by
    by_cases hk:k=i
    ·subst hk;simp[Uu,Wc]
    ·simp[Array.getElem?_setIfInBounds_ne (Ne.symm hk),hk]
   have hao:(List.range l.length).countP (fun k=>!(listed.setIfInBounds i true).getD k false)=fuel:=by
    have:∀(n:Nat),i<n->(List.range n).countP (fun k=>!(listed.setIfInBounds i true).getD k false)+1=(List.range n).countP (fun k=>!listed.getD k false):=by
     intro n;induction n with
     |zero=>intro h;omega
     |succ n ihn=>
      intro h;rw[List.range_succ,List.countP_append,List.countP_append];by_cases hn:n=i
      ·subst hn;have:(List.range n).countP (fun k=>!(listed.setIfInBounds n true).getD k false)=(List.range n).countP (fun k=>!listed.getD k false):=by
        refine List.countP_congr fun k hk=>?_
        rw[WN];have:k≠n:=by have:=List.mem_range.1 hk;omega
        simp[this]
       rw[this];simp only[List.countP_singleton,WN,X4];simp
      ·rw[<-ihn jB];simp only[List.countP_singleton,WN];have:(n == i)=false:=by simpa using hn
       rw[this,Bool.or_false];omega
    have:=this l.length Wc;omega
   have go:∀{d' r' VC H'} {w':NW} {Vk} {β'},Inv A E P l K F (fun k=>(listed.setIfInBounds i true).getD k false) d' r' VC H'->aJ w' H'->bs w' (FL l VC (fun k=>(listed.setIfInBounds i true).getD k false) F l.length) Vk->Ext w0 H0 w' H'->Hid P l (fun k=>(listed.setIfInBounds i true).getD k false) d' VC w0 w' β'->
     wpAny P .any l.toArray (gX Q w0 H0) fuel (listed.setIfInBounds i true) ⟨Vk,[]⟩ w'.toWorld:=fun{d' r' VC H' w' Vk β'} k1 k2 k3 k4 k5=>by
    obtain⟨d2,r2,rs2,H2,w2,x1,x2,x3,x4,x5,x6,x7⟩:=Iq hok hE r'.length jl k1 k2 k3 k4 k5;rw[<-x1];exact ih (listed.setIfInBounds i true) (by simpa using Uu) hao H2 d2 r2 rs2 w2 Vk β' x2 x3 x4 x5 x6 x7
   unfold wpOp;rw[ho];by_cases Xz:i ∉ done/\i∈E/\¬ ∃r,rest=i::r
   ·have:=Rx hok hE h WM X4 Xz.1 Xz.2.1 V5 (L2:=fun k=>(listed.setIfInBounds i true).getD k false) WN h1 h2 h3 Y2 (Q:=gX Q w0 H0) (next:=wpAny P .any l.toArray (gX Q w0 H0) fuel (listed.setIfInBounds i true)) fun Vk w' VC β' k1 k2 k3 k4 k5=>go k1 k2 k3 k4 k5
    exact this
   ·have hnE:i∈done\/i ∉ E\/∃r,rest=i::r:=by
     by_cases a:i∈done
     ·exact .inl a
     ·by_cases b:i∈E
      ·exact .inr (.inr (Classical.byContradiction fun c=>Xz ⟨a,b,c⟩))
      ·exact .inr (.inl b)
    have WE:=SC hok hE h hs WM X4 V5 (L2:=fun k=>(listed.setIfInBounds i true).getD k false) WN hnE;have:=WE w tm (gX Q w0 H0) (wpAny P .any l.toArray (gX Q w0 H0) fuel (listed.setIfInBounds i true)) h1 h2 (by rintro Vk w' F' H' ⟨d',r',VC,k1,rfl,k2⟩ g1 g2 g3;exact go k1 g1 g2 (h3.trans g3) (k2 _ _ _ (Y2.ext g3)))
    exact this
end
def C1(A:AS)(E:UH){id:Nat}(ord:UH){Q:Exit->UA}(hm:P.follows .mixedOrders=true)(hok:pU A E l ord=true)(hE:ru P l E)(h:fG A P l.toArray (Q .normal) (ord.map (dS l)) F H):dI P (.region id l.toArray true) Q F H:=fun w tm h1 h2=>by
 simp only[pU,Bool.and_eq_true,List.all_eq_true,Bool.not_eq_true']at hok;obtain⟨⟨Yw,haP⟩,hqE⟩:=hok;have hE:Dd A P l E:=⟨hE,hqE⟩;have hz:∀i,(Array.replicate l.toArray.size false).getD i false=false:=fun i=>by by_cases hi:i<l.length<;>simp[Array.getElem?_replicate,hi]
 refine wp_region_any hm ?_;have e0:∀(rs:UE) (L:UO),(∀i,L i=false)->FL l rs L F l.length=F:=fun rs L hL=>by
  have gen:∀m,FL l rs L F m=F:=by
   intro m;induction m with
   |zero=>rfl
   |succ m ih=>rw[FL,hL,if_neg jE,ih]
  exact gen _
 have hinv:Inv A E P l (Q .normal) F (fun i=>(Array.replicate l.toArray.size false).getD i false) [] ord (List.replicate l.length .any) H:=
  ⟨jE,(fun i hi=>by have:=(hz i).symm.trans hi;cases this),(fun j o _ hj=>by have:=(hz j).symm.trans hj;cases this),(fun j o _ hj=>by simp[mem]at hj),haP,
   (by rw[e0 _ _ (fun i=>by simp[mem])];exact h),(fun i hi=>by simp at hi)⟩
 obtain⟨d',r',VC,k1,k2,k3,_⟩:=BD Yw hE ord hinv;refine TZ Yw hE (fun _ _ h=>h) w l.toArray.size (Array.replicate l.toArray.size false) jE (by rw[List.countP_eq_length.2 (fun i _=>by rw[hz];rfl)];simp) H d' r' VC (w.to w.drew) tm (fun _=>0) k1 (fun i r e=>⟨k2 i r e,hz i⟩) h1.drew (by rw[e0 _ _ hz];exact h2.ext (Ext.drew w H)) (Ext.drew w H) (fun i hi _=>by have:=(hz i).symm.trans hi;cases this)
end
variable{P:UP}{H:Hp}{id:Nat}{F:UE}{Q:Exit->UA}
def HE(A:AS){l:List Oper}(ord:UH)(hm:P.follows .mixedOrders=true)(hok:pU A [] l ord=true)(h:fG A P l.toArray (Q .normal) (ord.map (dS l)) F H):dI P (.region id l.toArray true) Q F H:=C1 A [] ord hm hok trivial h
def LD{l:List Oper}(ord:UH)(hm:P.follows .mixedOrders=true)(hok:pU ([],[],[]) [] l ord=true)(h:fG ([],[],[]) P l.toArray (Q .normal) (ord.map (dS l)) F H):dI P (.region id l.toArray true) Q F H:=HE ([],[],[]) ord hm hok h
section
variable {P:UP}{ev:UK}{H:Hp}{ty:UJ}{K:UB}
@[go_sem] def j61:(∀(x:Operand),fH P ev H ty K (.move x)=vc P ev H ty K (.move x))/\(∀(x:Operand),fH P ev H ty K (.assign x)=vc P ev H ty K (.assign x))/\(∀(c a b:Operand),fH P ev H ty K (.pick c a b)=vc P ev H ty K (.pick c a b))/\(∀(x:Operand),fH P ev H ty K (.nilCheck x)=vc P ev H ty K (.nilCheck x))/\(∀(op:UnOp) (t:UJ) (x:Operand),fH P ev H ty K (.unOp op t x)=vc P ev H ty K (.unOp op t x))/\(∀(t:UJ) (x:Operand),fH P ev H ty K (.load t x)=vc P ev H ty K (.load t x))/\(∀(t:UJ) (x:Operand) (f:Nat),fH P ev H ty K (.fieldAddr t x f)=vc P ev H ty K (.fieldAddr t x f))/\(∀(t:UJ) (x:Operand) (f:Nat),fH P ev H ty K (.field t x f)=vc P ev H ty K (.field t x f))/\(∀(t:UJ) (x i:Operand),fH P ev H ty K (.indexAddr t x i)=vc P ev H ty K (.indexAddr t x i))/\(∀(t:UJ) (x i:Operand),fH P ev H ty K (.index t x i)=vc P ev H ty K (.index t x i))/\(∀(x:Operand) (i:Nat),fH P ev H ty K (.extract x i)=vc P ev H ty K (.extract x i))/\(∀(t:UJ) (a:Operand) (lo hi mx:Option Operand),fH P ev H ty K (.slice t a lo hi mx)=vc P ev H ty K (.slice t a lo hi mx))/\(∀(fn:Fn) (a b:Array Operand),fH P ev H ty K (.makeFunc fn a b)=vc P ev H ty K (.makeFunc fn a b))/\(∀(t:UJ) (ps:Array (Nat×Operand)),fH P ev H ty K (.build t ps)=vc P ev H ty K (.build t ps))/\(∀(as:Array Operand) (ts:Array UJ),fH P ev H ty K (.call ⟨.builtin .len,as,ts⟩)=vc P ev H ty K (.call ⟨.builtin .len,as,ts⟩))/\(∀(as:Array Operand) (ts:Array UJ),fH P ev H ty K (.call ⟨.builtin .min,as,ts⟩)=vc P ev H ty K (.call ⟨.builtin .min,as,ts⟩)):=by and_intros<;>(intros;rfl)
@[go_sem] def j8Q:(∀(t:UJ) (x y:Operand) (t':UJ),fH P ev H ty K (.binOp .add t x y t')=vc P ev H ty K (.binOp .add t x y t'))/\(∀(t:UJ) (x y:Operand) (t':UJ),fH P ev H ty K (.binOp .sub t x y t')=vc P ev H ty K (.binOp .sub t x y t'))/\(∀(t:UJ) (x y:Operand) (t':UJ),fH P ev H ty K (.binOp .lss t x y t')=vc P ev H ty K (.binOp .lss t x y t'))/\(∀(t:UJ) (x y:Operand) (t':UJ),fH P ev H ty K (.binOp .gtr t x y t')=vc P ev H ty K (.binOp .gtr t x y t'))/\(∀(t:UJ) (x y:Operand) (t':UJ),fH P ev H ty K (.binOp .geq t x y t')=vc P ev H ty K (.binOp .geq t x y t')):=by and_intros<;>(intros;rfl)
@[go_sem] def j8S(t:UJ)(x y:Operand)(t':UJ):fH P ev H ty K (.binOp .eql t x y t')=((fI P .eql t (ev x) (ev y)).1/\K (fI P .eql t (ev x) (ev y)).2 H):=by simp[fH,oD,vq]
@[go_sem] def j8Y(t:UJ)(x y:Operand)(t':UJ):fH P ev H ty K (.binOp .neq t x y t')=((fI P .neq t (ev x) (ev y)).1/\K (fI P .neq t (ev x) (ev y)).2 H):=by simp[fH,oD,vq]
@[go_sem] def j8R:(∀(t:UJ) (x:Operand),fH P ev H ty K (.box t x)=vc P ev H ty K (.box t x))/\(∀(t:UJ),fH P ev H ty K (.alloc t)=vc P ev H ty K (.alloc t))/\(∀(t:UJ) (a x:Operand),fH P ev H ty K (.store t a x)=vc P ev H ty K (.store t a x))/\(∀(t:UJ) (n:Nat) (ps:Array (Nat×Operand)),fH P ev H ty K (.buildSlice t n ps)=ph P t n (ps.toList.map fun p=>(p.1,ev p.2)) fun r=>K r H)/\(∀(f:Operand) (as:Array Operand) (ts:Array UJ),fH P ev H ty K (.call ⟨.value f,as,ts⟩)=vc P ev H ty K (.call ⟨.value f,as,ts⟩))/\(∀(f:Operand) (m:String) (as:Array Operand) (ts:Array UJ),fH P ev H ty K (.call ⟨.invoke f m,as,ts⟩)=vc P ev H ty K (.call ⟨.invoke f m,as,ts⟩))/\(∀(t:UJ) (a x:Operand),fH P ev H ty K (.call ⟨.builtin .append,#[a,x],#[t,t]⟩)=vc P ev H ty K (.call ⟨.builtin .append,#[a,x],#[t,t]⟩))/\(∀(as:Array Operand) (ts:Array UJ),fH P ev H ty K (.call ⟨.builtin .copy,as,ts⟩)=vc P ev H ty K (.call ⟨.builtin .copy,as,ts⟩)):=by and_intros<;>(intros;rfl)
end
variable{C D:UH}
@[go_sem] def j6K{ev:UK}(op:Op):iY ([],C,D) ev op=true:=by cases op<;>first|rfl|(rename_i t x;simp only[iY];generalize ev x=a;cases a<;>first|rfl|simp[tG])
variable{A:AS}
@[go_sem] def j4n{ev:UK}(t:UJ)(x:Operand):iY A ev (.load t x)=tG A (ev x):=(rfl)
@[go_sem] def j2g{ev:UK}(t:UJ)(a x:Operand):iY A ev (.store t a x)=((A.1.isEmpty || A.2.2.contains 1000000) || Ct A (ev a)):=(rfl)
@[go_sem] def j2K(A:AS)(i m k j:Nat):tG A (.pt i m k j)=(!A.1.contains i && (decide (1<=j) || !A.1.contains (i+16))):=(rfl)
@[go_sem] def j2J:(∀(A:AS) (cs:UE),tG A (.ip cs)=true)/\(∀(A:AS) (i m k j:Nat),Ct A (.pt i m k j)=A.1.contains i)/\(∀{A:AS} {ev:UK} (x:Operand),iY A ev (.move x)=true)/\(∀{A:AS} {ev:UK} (x:Operand),iY A ev (.assign x)=true)/\(∀{A:AS} {ev:UK} (c a b:Operand),iY A ev (.pick c a b)=true)/\(∀{A:AS} {ev:UK} (x:Operand),iY A ev (.nilCheck x)=true)/\(∀{A:AS} {ev:UK} (op:UnOp) (t:UJ) (x:Operand),iY A ev (.unOp op t x)=true)/\(∀{A:AS} {ev:UK} (op:BinOp) (t:UJ) (x y:Operand) (t':UJ),iY A ev (.binOp op t x y t')=true)/\(∀{A:AS} {ev:UK} (t:UJ) (x:Operand) (f:Nat),iY A ev (.fieldAddr t x f)=true)/\(∀{A:AS} {ev:UK} (t:UJ) (x:Operand) (f:Nat),iY A ev (.field t x f)=true)/\(∀{A:AS} {ev:UK} (t:UJ) (x i:Operand),iY A ev (.indexAddr t x i)=true)/\(∀{A:AS} {ev:UK} (t:UJ) (x i:Operand),iY A ev (.index t x i)=true)/\(∀{A:AS} {ev:UK} (x:Operand) (i:Nat),iY A ev (.extract x i)=true)/\(∀{A:AS} {ev:UK} (t:UJ) (ps:Array (Nat×Operand)),iY A ev (.build t ps)=true)/\(∀{A:AS} {ev:UK} (c:Call),iY A ev (.call c)=true)/\(∀{A:AS} {ev:UK} (t:UJ),iY A ev (.alloc t)=true):=by and_intros<;>(intros;rfl)
@[go_sem] def j6J:(∀{A:AS} {ev:UK} (t:UJ) (x:Operand),iY A ev (.box t x)=true)/\(∀{A:AS} {ev:UK} (t:UJ) (n:Nat) (ps:Array (Nat×Operand)),iY A ev (.buildSlice t n ps)=true)/\(∀{A:AS} {P:UP} {ops:Array Oper} {K:UA} (F:UE) (H:Hp),fG A P ops K [] F H=K F H):=by and_intros<;>(intros;rfl)
variable{L:UH}{ops:Array Oper}{K:UA}
@[go_sem] def j5q(dst:Option Tmp)(op:Op)(ty:UJ)(pos:String)(after:Array Edge)(rest:List Oper)(F:UE)(H:Hp) :
  fG (L,[],[]) P ops K (⟨dst,op,ty,pos,after,none⟩::rest) F H=(iY (L,[],[]) (cr F) op=true/\fH P (cr F) H ty (AP (fun r H'=>fG (L,[],[]) P ops K rest (cO F dst r) H') .mk) op):=by
 have e:tN (L,[],[]) ⟨dst,op,ty,pos,after,none⟩=false:=by cases dst<;>rfl
 have e':oH (L,[],[]) ⟨dst,op,ty,pos,after,none⟩=false:=by cases dst<;>rfl
 unfold fG;rw[show(⟨dst,op,ty,pos,after,none⟩:Oper).guard=none from rfl];simp only[e,e'];rfl
@[go_sem] def j2z(op:Op)(ty:UJ)(pos:String)(after:Array Edge)(rest:List Oper)(F:UE)(H:Hp) :
  fG (L,C,D) P ops K (⟨none,op,ty,pos,after,none⟩::rest) F H=(iY (L,C,D) (cr F) op=true/\fH P (cr F) H ty (AP (fun r H'=>fG (L,C,D) P ops K rest (cO F none r) H') .mk) op):=(rfl)
variable{t:Nat}
@[go_sem] def j2x{c:Nat}(op:Op)(ty:UJ)(pos:String)(after:Array Edge)(rest:List Oper)(F:UE)(H:Hp) :
  fG (L,c::C,D) P ops K (⟨some t,op,ty,pos,after,none⟩::rest) F H=pg ((c::C).contains t) (AE P (cr F) H (uN (fun r=>fG (L,c::C,D) P ops K rest (cO F (some t) r) H) .mk) op)
   (pg (D.contains t) (ur P (L,c::C,D) (cr F) H (AP (fun r H'=>fG (L,c::C,D) P ops K rest (cO F (some t) r) H') .mk) op) (iY (L,c::C,D) (cr F) op=true/\fH P (cr F) H ty (AP (fun r H'=>fG (L,c::C,D) P ops K rest (cO F (some t) r) H') .mk) op) .mk .mk) .mk .mk:=(rfl)
@[go_sem] def j2y{c:Nat}(op:Op)(ty:UJ)(pos:String)(after:Array Edge)(rest:List Oper)(F:UE)(H:Hp) :
  fG (L,[],c::D) P ops K (⟨some t,op,ty,pos,after,none⟩::rest) F H=pg ((c::D).contains t) (ur P (L,[],c::D) (cr F) H (AP (fun r H'=>fG (L,[],c::D) P ops K rest (cO F (some t) r) H') .mk) op)
   (iY (L,[],c::D) (cr F) op=true/\fH P (cr F) H ty (AP (fun r H'=>fG (L,[],c::D) P ops K rest (cO F (some t) r) H') .mk) op) .mk .mk:=(rfl)
@[go_sem] def j64:(∀{P:UP} {A:AS} {ev:UK} {H:Hp} {K:UB} (f:Operand) (as:Array Operand) (ts:Array UJ),ur P A ev H K (.call ⟨.value f,as,ts⟩)=fg P (ev f) (as.toList.map ev) H (AP (fun r H'=>eK A H H'/\K r H') .mk))/\(∀{P:UP} {ev:UK} {H:Hp} {K:AV->Prop} (f:Operand) (as:Array Operand) (ts:Array UJ),AE P ev H K (.call ⟨.value f,as,ts⟩)=∃r,(fg P (ev f) (as.toList.map ev) H fun r' H'=>r'=r/\H'=H)/\K r):=by and_intros<;>(intros;rfl)
def ra(b:Bool)(X Y:Prop)(_:iw X)(_:iw Y):Prop:=(b=true->X)/\(b=false->Y)
@[go_sem] def j6W(X Y:Prop)(d:iw X)(e:iw Y):ra true X Y d e=X:=by unfold ra;simp
@[go_sem] def j5b(X Y:Prop)(d:iw X)(e:iw Y):ra false X Y d e=Y:=by unfold ra;simp
@[go_sem] def j2A(dst:Option Tmp)(op:Op)(ty:UJ)(pos:String)(after:Array Edge)(j:Nat)(want:Bool)(rest:List Oper)(F:UE)(H:Hp) :
  fG (L,C,[]) P ops K (⟨dst,op,ty,pos,after,some (j,want)⟩::rest) F H=qV (lZ ops F j want) (fun b=>(ja op || iM op)=true/\fa P F H b (uN (fun r=>fG (L,C,[]) P ops K rest (cO F dst r) H) .mk) op) .mk:=by
 have e:oQ (L,C,[]) ⟨dst,op,ty,pos,after,some (j,want)⟩=false:=by unfold oQ oH;cases dst<;>simp
 unfold qV;conv=>lhs;unfold fG
 simp only[e];rfl
def qj(F:UE):List Operand->Prop
 |[]=>True
 |x::l=>(jK (cr F x)).1=true/\qj F l
theorem GA(F:UE):∀l:List Operand,((l.all fun x=>(jK (cr F x)).1)=true)=qj F l
 |[]=>by simp[qj]
 |x::l=>by have:=GA F l;simp only[List.all_cons,Bool.and_eq_true,qj,this]
def JG(F:UE)(f:Operand)(as:Array Operand)(ts:Array UJ):(gp F (.call ⟨.value f,as,ts⟩)=true)=((jK (cr F f)).1=true/\qj F as.toList):=by rw[<-GA];unfold gp;simp[Op.operands,Call.operands]
def CV(P:UP)(A:AS)(F:UE)(H:Hp)(K:UB):Op->Prop
 |.call { callee:=.value f,args,.. }=>((jK (cr F f)).1=true/\qj F args.toList)/\fg P (bO F f) (args.toList.map (bO F)) H (AP (fun r H'=>eK A H H'/\K r H') .mk)
 |_=>False
variable{K:UB}
@[go_sem] def j5j(f:Operand)(as:Array Operand)(ts:Array UJ):CV P A F H K (.call ⟨.value f,as,ts⟩)=(((jK (cr F f)).1=true/\qj F as.toList)/\fg P (bO F f) (as.toList.map (bO F)) H (AP (fun r H'=>eK A H H'/\K r H') .mk)):=(rfl)
def PO{op:Op}(h:ja op=true):(gp F op=true/\ur P A (bO F) H K op)=CV P A F H K op:=by
 cases op<;>first|(cases h;done)|skip
 rename_i c;obtain⟨callee,args,ts⟩:=c;cases callee<;>first|(cases h;done)|skip
 rename_i f;rw[JG];rfl
@[go_sem] def j1q{c:Nat}{K:UA}(op:Op)(ty:UJ)(pos:String)(after:Array Edge)(j:Nat)(want:Bool)(rest:List Oper)(F:UE)(H:Hp) :
  fG (L,C,c::D) P ops K (⟨some t,op,ty,pos,after,some (j,want)⟩::rest) F H=qV (lZ ops F j want) (fun b=>pg ((c::D).contains t && ja op)
   (ra b (CV P (L,C,c::D) F H (AP (fun r H'=>fG (L,C,c::D) P ops K rest (cO F (some t) r) H') .mk) op) (fG (L,C,c::D) P ops K rest (cO F (some t) (.gd false (.raw (.bool false)))) H) .mk .mk)
   ((ja op || iM op)=true/\fa P F H b (uN (fun r=>fG (L,C,c::D) P ops K rest (cO F (some t) r) H) .mk) op) .mk .mk) .mk:=by
 conv=>lhs;unfold fG
 simp only;unfold qV pg ra;have Yv:oQ (L,C,c::D) ⟨some t,op,ty,pos,after,some (j,want)⟩=((c::D).contains t && ja op):=by unfold oQ oH;simp
 cases lZ ops F j want with
 |none=>rfl
 |some b=>
  simp only;rw[Yv];by_cases hc:((c::D).contains t && ja op)=true
  ·rw[if_pos hc,if_pos hc];have hv:ja op=true:=by simp only[Bool.and_eq_true]at hc;exact hc.2
   rw[<-PO hv];rfl
  ·rw[if_neg hc,if_neg hc];rfl
attribute [go_sem] qj
attribute [go_sem] dS ph ru
universe u
def bf:Nat->Nat->UH
 |_,0=>[]
 |k,n+1=>k::bf (k+1) n
variable{q:Prop}
def dD(e:q:=by first|(simp(disch:=first|omega|assumption|fail) only[go_sem,tC,W,↓reduceIte,Int.reduceEq,Int.reduceLE,Int.reduceLT,Int.reduceNe,Int.reduceToNat,Nat.reduceMul,Nat.reduceAdd,Nat.reduceLeDiff,Nat.reduceSub,Nat.reduceEqDiff,Nat.reduceBEq,List.nodup_cons,List.nodup_nil,List.mem_cons,List.not_mem_nil,List.mem_nil_iff];done)|(simp(disch:=first|omega|assumption|fail) only[go_sem,tC,↓reduceIte,Int.reduceEq,Int.reduceLE,Int.reduceLT,Int.reduceNe,Int.reduceToNat,Nat.reduceMul,Nat.reduceAdd,Nat.reduceLeDiff,Nat.reduceSub,Nat.reduceEqDiff,Nat.reduceBEq,List.nodup_cons,List.nodup_nil,List.mem_cons,List.not_mem_nil,List.mem_nil_iff];done)|fail):q:=e
def fq(e:q:=by first|(simp(disch:=first|omega|assumption|fail) only[go_sem,tC,W,↓reduceIte,Int.reduceEq,Int.reduceLE,Int.reduceLT,Int.reduceNe,Int.reduceToNat,Nat.reduceMul,Nat.reduceAdd,Nat.reduceLeDiff,Nat.reduceSub,Nat.reduceEqDiff,Nat.reduceBEq,List.nodup_cons,List.nodup_nil,List.mem_cons,List.not_mem_nil,List.mem_nil_iff];rfl)|(simp(disch:=first|omega|assumption|fail) only[go_sem,tC,↓reduceIte,Int.reduceEq,Int.reduceLE,Int.reduceLT,Int.reduceNe,Int.reduceToNat,Nat.reduceMul,Nat.reduceAdd,Nat.reduceLeDiff,Nat.reduceSub,Nat.reduceEqDiff,Nat.reduceBEq,List.nodup_cons,List.nodup_nil,List.mem_cons,List.not_mem_nil,List.mem_nil_iff];rfl)|rfl|fail):q:=e
def QB(e:q:=by first|(simp(disch:=first|omega|assumption|fail) only[go_sem,tC,W,↓reduceIte,Int.reduceEq,Int.reduceLE,Int.reduceLT,Int.reduceNe,Int.reduceToNat,Nat.reduceMul,Nat.reduceAdd,Nat.reduceLeDiff,Nat.reduceSub,Nat.reduceEqDiff,Nat.reduceBEq,List.nodup_cons,List.nodup_nil,List.mem_cons,List.not_mem_nil,List.mem_nil_iff];rfl)|(simp(disch:=first|omega|assumption|fail) only[go_sem,tC,↓reduceIte,Int.reduceEq,Int.reduceLE,Int.reduceLT,Int.reduceNe,Int.reduceToNat,Nat.reduceMul,Nat.reduceAdd,Nat.reduceLeDiff,Nat.reduceSub,Nat.reduceEqDiff,Nat.reduceBEq,List.nodup_cons,List.nodup_nil,List.mem_cons,List.not_mem_nil,List.mem_nil_iff];rfl)|fail):q:=e
def A9(e:q:=by first|(exact uo)|rfl|fail):q:=e
variable{α:Type}
@[go_sem] def jxZ[Inhabited α](f:α->UE)(a:List α)(b:UC)(k:Nat)(h:k<a.length):(a.map f++b).getD k []=f (nth a k):=by rw[fO h,List.getD_eq_getElem?_getD,List.getElem?_append_left (by simpa using h)];simp[h]
attribute [go_sem] List.isEmpty_nil
@[congr] theorem j2O{c:Code}{F':UE}{H':Hp}(h1:F=F')(h2:H=H'):dI P c Q F H=dI P c Q F' H':=by rw[h1,h2]
def nt(p q:Prop):Prop:=q->p
section
variable {P:UP}{Q:Exit->UA}{F:UE}{H:Hp}
variable{id:Nat}{q:Prop}
def M4{l:List Oper}(e:ld P l.toArray (Q .normal) l F H=q):nt (dI P (.region id l.toArray false) Q F H) q:=fun h=>OL (e ▸ h)
def K5{c:Code}:nt (dI P (.block id c) Q F H) (dI P c (su id Q) F H):=KJ
def MR(e:Q .normal F H=q):nt (dI P .skip Q F H) q:=fun h=>LS (e ▸ h)
def SX(e:Q (.exit id) F H=q):nt (dI P (.exit id) Q F H) q:=fun h=>PE (e ▸ h)
def Nj(e:Q .ret F H=q):nt (dI P .ret Q F H) q:=fun h=>RX (e ▸ h)
end
section
variable {P:UP}{H:Hp}{K:UB}
variable{t:UJ}{q:Prop}
def Np{zs:UM}(hz:dR P t=some zs)(e:K (.pt (nx H.l) 0 0 0) (H.put (nx H.l) (.var t (zs.map .raw)))=q):nt (ob P H t K) q:=fun h=>M1 hz (e ▸ h)
def Tg{x:AV}(ho:cM x.cells=true)(e:K (.pt (nx H.l) 0 0 0) (H.put (nx H.l) (.var t x.cells))=q):nt (qI H t x K) q:=fun h=>KB ho (e ▸ h)
def TY{A:Nat->Prop}{d:iw A}(e:A (nx H.l)=q):nt (vC H A d) q:=fun h=>TM (e ▸ h)
def Sw{sz:Nat}(h0:0<sz)(e:K (.rs (nx H.l) 0 sz 0) (H.put (nx H.l) (.aG t sz []))=q):nt (sn t sz [] H K) q:=fun h=>N9 h0 (e ▸ h)
def Q5{sz:Nat}{css:UC}(h1:aY eu css.flatten=true)(e:K (.sl true sz css []) H=q):nt (sn t sz css H K) q:=fun h=>Nw h1 (e ▸ h)
def Nu{a x:AV}(e:yy P t a x H K=q):nt (qn P t t a x H K) q:=fun h=>Mi (e ▸ h)
def NQ{d:iw K}{r:AV}(e:K r H=q):nt (AP K d r H) q:=fun h=>L9 (e ▸ h)
def Kw{a b:Prop}(h:a):nt (a/\b) b:=fun k=>⟨h,k⟩
end
variable{p:Prop}
def au(h:q)(e:nt p q:=by first
 |((with_reducible apply M4);exact fq)
 |with_reducible exact K5
 |((with_reducible apply SX);exact A9)
 |((with_reducible apply Nj);exact A9)
 |((with_reducible apply MR);exact A9)
 |fail):p:=e h
def aq(h:q)(e:nt p q:=by first
 |((with_reducible apply Nu);exact fq)
 |((with_reducible apply NQ);exact fq)
 |((with_reducible apply Sw);(focus (exact dD));exact fq)
 |((with_reducible apply Q5);(focus (simp only[go_sem]));exact fq)
 |((with_reducible apply Np);(focus (simp only[go_sem];rfl));exact fq)
 |((with_reducible apply Tg);(focus (simp only[go_sem]));exact fq)
 |((with_reducible apply TY);exact fq)
 |((with_reducible apply Kw);first|omega|(simp +contextual;done)|(simp +contextual;intros;omega)|fail)
 |fail):p:=e h
def S(h:q)(e:p=q:=by exact QB):p:=e ▸ h
def Sd(e:p=True:=by exact dD):p:=of_eq_true e
def ar{c:Operand}{x y:Code}{b:Bool}{pt pf:Prop}(ht:pt->dI P x Q F H)(hf:pf->dI P y Q F H)(hc:cr F c=.raw (.bool b):=by rfl)
 (et:(b=true)=pt:=by first|(simp only[Int.reduceEq,Int.reduceLE,Int.reduceLT,Int.reduceNe,false_and,and_false,true_and,and_true,or_false,false_or,true_or,or_true,Bool.false_eq_true,Bool.true_eq_false,eq_self,reduceCtorEq,Bool.not_true,Bool.not_false,Bool.and_eq_true,Bool.or_eq_true,Bool.and_eq_false_iff,Bool.or_eq_false_iff,decide_eq_true_eq,decide_eq_false_iff_not,Bool.not_eq_true',Bool.not_eq_false',Int.not_lt,Int.not_le];rfl)|rfl) (ef:(b=false)=pf:=by first|(simp only[Int.reduceEq,Int.reduceLE,Int.reduceLT,Int.reduceNe,false_and,and_false,true_and,and_true,or_false,false_or,true_or,or_true,Bool.false_eq_true,Bool.true_eq_false,eq_self,reduceCtorEq,Bool.not_true,Bool.not_false,Bool.and_eq_true,Bool.or_eq_true,Bool.and_eq_false_iff,Bool.or_eq_false_iff,decide_eq_true_eq,decide_eq_false_iff_not,Bool.not_eq_true',Bool.not_eq_false',Int.not_lt,Int.not_le];rfl)|rfl):dI P (.cond c x y) Q F H:=OP hc (fun h=>ht (et ▸ h)) (fun h=>hf (ef ▸ h))
section
variable {P:UP}{f:FuncId}{args:UE}{H:Hp}{K:UB}{q:Prop}
variable{r0:AV}
def cm{l l0:UD}(hc:ab P f args l fun r l'=>r=r0/\l'=l0)(k:q)(h1:rY l H:=by exact dD)(h0:aS P f=true:=by exact dD)(h2:aY (fun i=>(ids l).contains i) args=true:=by exact dD)(h3:rQ (fun i=>(ids l).contains i) l:=by exact dD)
 (h4:oo (ids l) H l0:=by exact dD) (h5:(ids l0).Nodup:=by exact dD) (e:K r0 ⟨H.B,gF H.l l0⟩=q:=by exact fq):fg P (.raw (.func (.func f) #[] #[])) args H K:=nZ h0 (vz hc h1 h2 h3 h4 h5 (e ▸ k))
def cp(hc:aC P f args r0)(k:q)(h0:aS P f=true:=by exact dD)(h2:aY eu args=true:=by exact dD)(e:K r0 H=q:=by exact fq):fg P (.raw (.func (.func f) #[] #[])) args H K:=nZ h0 (y5 hc h2 (e ▸ k))
def cg{g:Prop}{R:AV->Prop}{A:Prop}(hc:aC P f args r0)(k:q)(h0:aS P f=true:=by exact dD)(h2:aY eu args=true:=by exact dD)(hA:g->A:=by first|exact id|(intro _;exact jI)|fail)(e:R r0=q:=by exact fq) :
  ∃r,(g->A/\fg P (.raw (.func (.func f) #[] #[])) args H fun r' H'=>r'=r/\H'=H)/\R r:=⟨r0,fun hg=>⟨hA hg,nZ h0 (y5 hc h2 ⟨rfl,rfl⟩)⟩,e ▸ k⟩
def qb{g:Prop}{R:AV->Prop}(hc:aC P f args r0)(k:q)(h0:aS P f=true:=by exact dD)(h2:aY eu args=true:=by exact dD)(e:R r0=q:=by exact fq) :
  ∃r,(g->fg P (.raw (.func (.func f) #[] #[])) args H fun r' H'=>r'=r/\H'=H)/\R r:=⟨r0,fun _=>nZ h0 (y5 hc h2 ⟨rfl,rfl⟩),e ▸ k⟩
end
def dV.perm{B:UH}{l:UD}(l':UD)(h:∀i,aA l i=aA l' i):dV F ⟨B,l⟩ F ⟨B,l'⟩:=fun w tm h1 h2=>by
 have hg:∀i,(Hp.mk B l').get i=(Hp.mk B l).get i:=fun i=>(h i).symm
 exact⟨w,rfl,{ rows:=fun i r hi=>h1.rows i r ((hg i) ▸ hi),di:=fun i m z hz=>by rw[hg];exact h1.di i m z hz,inj:=h1.inj,own:=h1.own,fin:=h1.fin,cd:=h1.cd },h2,{ ExtQ.refl _ w with base:=rfl }⟩
variable{t:UJ}
def al(i:Nat){zs:UM}(k:q)(hi:H.get i=none:=by rfl)(hz:dR P t=some zs:=by(simp only[go_sem];rfl))(e:K (.pt i 0 0 0) (H.put i (.var t (zs.map .raw)))=q:=by exact fq):ob P H t K:=Ak i hz hi (e ▸ k)
def bx(i:Nat){x:AV}(k:q)(hi:H.get i=none:=by rfl)(ho:cM x.cells=true:=by simp only[go_sem])(e:K (.pt i 0 0 0) (H.put i (.var t x.cells))=q:=by exact fq):qI H t x K:=yP i ho hi (e ▸ k)
def rp{enc:α->UE}(vars more ys:List α){i:Nat}{m sz n:Nat}{css yss:UC}(k:q)(hm:m=vars.length+more.length:=by first|rfl|(simp only[go_sem];done)|omega)(hn:n=vars.length:=by rfl)(hc:css=(vars++more).map enc:=by first|rfl|exact List.map_append.symm|(simp only[go_sem,List.map_append];done))(hy:yss=ys.map enc:=by rfl)
 (e:K (.rs i (vars.length+ys.length+(more.drop ys.length).length) sz (vars.length+ys.length)) (H.put i (.aG t sz ((vars++ys++more.drop ys.length).map enc)))=q:=by exact fq):uj i t m sz n css yss H K:=NB vars more ys hm hn hc hy (e ▸ k)
section
variable {P:UP}{Q:Exit->UA}{F:UE}{H:Hp}
def gR{P:UP}{Q:Exit->UA}{F:UE}{H:Hp}(id:Nat){l:Array Oper}{b:Bool}(h:dI P (.region id l b) Q F H):dI P (.region id l b) Q F H:=h
variable{l:List Oper}{q:Prop}
def dE(id:Nat)(ord:UH)(hm:P.follows .mixedOrders=true)(h:q)(hok:pU ([],[],[]) [] l ord=true:=by decide +kernel)(e:fG ([],[],[]) P l.toArray (Q .normal) (ord.map (dS l)) F H=q:=by(simp only[bf,List.map_cons,List.map_nil,dS,List.getD_cons_zero,List.getD_cons_succ];exact fq)):dI P (.region id l.toArray true) Q F H:=LD ord hm hok (e ▸ h)
def dA(id:Nat)(A ord:UH)(hm:P.follows .mixedOrders=true)(h:q)(hok:pU (A,[],[]) [] l ord=true:=by decide +kernel)(e:fG (A,[],[]) P l.toArray (Q .normal) (ord.map (dS l)) F H=q:=by(simp only[bf,List.map_cons,List.map_nil,dS,List.getD_cons_zero,List.getD_cons_succ];exact fq)):dI P (.region id l.toArray true) Q F H:=HE (A,[],[]) ord hm hok (e ▸ h)
def dC(id:Nat)(A:AS)(E ord:UH)(hm:P.follows .mixedOrders=true)(h:q)(hok:pU A E l ord=true:=by decide +kernel)(hE:ru P l E:=by simp only[ru,dS,List.getD_cons_zero,List.getD_cons_succ,go_sem])(e:fG A P l.toArray (Q .normal) (ord.map (dS l)) F H=q:=by(simp only[bf,List.map_cons,List.map_nil,dS,List.getD_cons_zero,List.getD_cons_succ];exact fq)):dI P (.region id l.toArray true) Q F H:=C1 A E ord hm hok hE (e ▸ h)
def dQ(id:Nat)(hm:P.follows .mixedOrders=true)(h:q)(hok:uw l=true:=by decide +kernel)(e:qa P l.toArray H (fun F'=>Q .normal F' H) l F=q:=by exact fq):dI P (.region id l.toArray true) Q F H:=KS hm hok (e ▸ h)
def GF{c:Code}(L:UH)(slot:Nat)(a:AV)(hB:H.B.all (gZ fun i=>L.contains i)=true)(hl:iL (fun i=>L.contains i) H.l)(hv:bt (fun i=>L.contains i) H F (F.set slot a))(h:dI P c Q (F.set slot a) ⟨H.B,fy (fun i=>L.contains i) H.l⟩):dI P c Q F H:=jw (dV.free _ hB hl hv) h
def QG{c:Code}(L:UH)(W:List (Nat×Nat))(J:List (Nat×AV))(h0:(L.any fun i=>(H.get i).isSome)=true)(hB:H.B.all (gZ fun i=>L.contains i)=true)(hl:iL (fun i=>L.contains i) H.l)(hv:bt (fun i=>L.contains i) H F (mM J (nn W F)))(h:dI P c Q (mM J (nn W F)) ⟨H.B,fy (fun i=>L.contains i) H.l⟩):dI P c Q F H:=jw (dV.free _ hB hl hv) h
end
def jR{H':Hp}(e:H=H':=by first|(simp only[go_sem];done)|(simp only[go_sem];rfl)|rfl|fail):H=H':=e
def cH{F':UE}(e:lj F F':=by(simp only[go_sem,lj,Nat.reduceAdd,AV.raw.injEq,Value.int.injEq,Value.slice.injEq,Value.pointer.injEq,AV.rs.injEq];try omega)):lj F F':=e
def jL{D:UO}{l m:UE}(e:bt D H l m:=by(simp only[go_sem,↓reduceIte,Int.reduceEq,Int.reduceLE,Int.reduceLT,Int.reduceNe,Int.reduceToNat,Nat.reduceMul,Nat.reduceAdd,Nat.reduceLeDiff,Nat.reduceSub,Nat.reduceEqDiff,Nat.reduceBEq,List.nodup_cons,List.nodup_nil,List.mem_cons,List.not_mem_nil,List.mem_nil_iff];repeat' (first|exact jI|exact RR _|exact cY.nil _ _|exact cY.lit _ _ _ _ _|exact cY.same _ rfl|(exact cY.same _ (by exact wv))|(exact cY.row _ (by first|rfl|(exact wv)) (by first|(exact wv)|rfl|(exact uo)) (by first|rfl|(simp only[go_sem];done)|omega))|refine jA ?_ ?_|fail))):bt D H l m:=e
def Fo{l:List Oper}{b:Bool}(L:UH)(W:List (Nat×Nat))(J:List (Nat×AV))(h:q)(h0:(L.any fun i=>(H.get i).isSome)=true:=by rfl)(hB:H.B.all (gZ fun i=>L.contains i)=true:=by exact dD)(hl:iL (fun i=>L.contains i) H.l:=by exact dD)
 (hv:bt (fun i=>L.contains i) H F (mM J (nn W F)):=by exact jL) (e:dI P (.region id l.toArray b) Q (mM J (nn W F)) ⟨H.B,fy (fun i=>L.contains i) H.l⟩=q:=by exact fq):dI P (.region id l.toArray b) Q F H:=QG L W J h0 hB hl hv (e ▸ h)
def bQ{f:FuncId}{fn:Func}{c:Code}{args:UE}{r:AV}{k:Nat}(hf:P.funcs[f]?=some fn)(hn:fn.ntmps=k)(h:dI P c (lD P fn fun r' l'=>r'=r/\l'=[]) F ⟨[],[]⟩)(hb:fn.body=some c:=by rfl)
 (hF:args++List.replicate (k-args.length) .any=F:=by(simp only[List.length_cons,List.length_nil,Nat.reduceAdd,Nat.reduceSub,List.replicate,List.cons_append,List.nil_append];rfl)):aC P f args r:=KE hf hb (by rw[hn];exact hF) h
def aM{f:FuncId}{fn:Func}{c:Code}{args:UE}{l:UD}{R:AV->List UR->Prop}{k:Nat}(hf:P.funcs[f]?=some fn)(hn:fn.ntmps=k)(h:dI P c (lD P fn R) F ⟨L,l⟩)(hb:fn.body=some c:=by rfl)(hL:ids l=L:=by rfl)
 (hF:args++List.replicate (k-args.length) .any=F:=by(simp only[List.length_cons,List.length_nil,Nat.reduceAdd,Nat.reduceSub,List.replicate,List.cons_append,List.nil_append];rfl)):ab P f args l R:=Oc hf hb (by rw[hn];exact hF) hL h
section
variable {P:UP}{fn:Func}{F:UE}{H:Hp}{out:UE}{e:Exit}{r:AV}{l:UD}
def bW(rs:List ResultVar)(h1:kz out=r)(h2:H.l=l)(W0:fn.results.toList=rs:=by rfl)(he:e=.normal\/e=.ret:=by first|exact Or.inr rfl|exact Or.inl rfl|fail)(ho:jU P H F rs=some out:=by(exact uo))(hok:kG P H F rs:=by exact wv) :
  lD P fn (fun r' l'=>r'=r/\l'=l) e F H:=Mn rs W0 he ho hok h1 h2
def ba(rs:List ResultVar)(hv:kz out=r)(W0:fn.results.toList=rs:=by rfl)(he:e=.normal\/e=.ret:=by first|exact Or.inr rfl|exact Or.inl rfl|fail)(ho:jU P H F rs=some out:=by(exact uo))(hok:kG P H F rs:=by exact wv)(hl:iL (mL H.B) H.l:=by exact dD)
 (hq:(kz out).all (gZ (mL H.B))=true:=by exact dD) (h2:fy (mL H.B) H.l=l:=by first|rfl|(exact dD)|(exact uo)|fail):lD P fn (fun r' l'=>r'=r/\l'=l) e F H:=Hf rs W0 he ho hok hl (zz hv hq) h2
def fF(rs:List ResultVar)(hv:cY (mL H.B) H (kz out) r)(W0:fn.results.toList=rs:=by rfl)(he:e=.normal\/e=.ret:=by first|exact Or.inr rfl|exact Or.inl rfl|fail)(ho:jU P H F rs=some out:=by(exact uo))(hok:kG P H F rs:=by exact wv)(hl:iL (mL H.B) H.l:=by exact dD)
 (h2:fy (mL H.B) H.l=l:=by first|rfl|(exact dD)|(exact uo)|fail):lD P fn (fun r' l'=>r'=r/\l'=l) e F H:=Hf rs W0 he ho hok hl hv h2
end
@[go_sem] def j0s(enc:α->UE)(l:List α)(k:Nat)(x:α):(l.map enc).set k (enc x)=(l.set k x).map enc:=List.map_set.symm
attribute [go_sem] List.length_set
def eI(x:Int):UE:=[.raw (.int .i64 x)]
instance:bH eI 1:=⟨fun _=>rfl,fun _=>rfl,fun _=>rfl⟩
@[go_sem] def qa9:(∀(x:Int),(eI x).length=1)/\(∀(x:Int),(eI x).getD 0 .any=.raw (.int .i64 x))/\(∀(x:Int),(eI x).drop 1=[]):=by and_intros<;>(intros;rfl)
@[go_sem] def qba(l:UG)(k:Nat)(x:Int):(l.map eI).set k [.raw (.int .i64 x)]=(l.set k x).map eI:=(List.map_set (f:=eI)).symm
def eS(x:UI):UE:=[.raw (.string x)]
instance:bH eS 1:=⟨fun _=>rfl,fun _=>rfl,fun _=>rfl⟩
@[go_sem] def qbb:(∀(x:UI),(eS x).length=1)/\(∀(x:UI),(eS x).getD 0 .any=.raw (.string x)):=by and_intros<;>(intros;rfl)
def eB(x:Bool):UE:=[.raw (.bool x)]
instance:bH eB 1:=⟨fun _=>rfl,fun _=>rfl,fun _=>rfl⟩
def eU(x:Int):UE:=[.raw (.int .u8 x)]
instance:bH eU 1:=⟨fun _=>rfl,fun _=>rfl,fun _=>rfl⟩
def tD(x:UG):UE:=[aP eI 1 x]
instance:bH tD 1:=⟨fun _=>rfl,fun _=>rfl,fun _=>rfl⟩
structure cA where
 kind:Int
 text:ByteArray
 at_:Int
 deriving Inhabited,DecidableEq
def mn(x:cA):UE:=[.raw (.int .i64 x.kind),.raw (.string x.text),.raw (.int .i64 x.at_)]
section
variable (x y:cA)
@[go_sem] def jzF:((mn x).length=3)/\((mn x).all AV.one=true):=by and_intros<;>(intros;rfl)
@[go_sem] def Te(q:UO):aY q (mn x)=true:=by simp[mn,aY,AV.all]
instance:bH mn 3:=⟨fun _=>rfl,fun _=>rfl,fun x=>Te x _⟩
@[go_sem] def jxP:((mn x).take 3=mn x)/\((mn x).getD 0 .any=.raw (.int .i64 x.kind))/\((mn x).getD 1 .any=.raw (.string x.text))/\((mn x).getD 2 .any=.raw (.int .i64 x.at_)):=by and_intros<;>(intros;rfl)
end
structure bq where
 kind:Int
 cV:Int
 n:Int
 name:ByteArray
 l:List Int
 deriving Inhabited,DecidableEq
def eH(x:bq):UE:=[.raw (.int .i64 x.kind),.raw (.int .i64 x.cV),.raw (.int .i64 x.n),.raw (.string x.name),aP eI 1 x.l]
section
variable (x y:bq)
@[go_sem] def j1N:((eH x).length=5)/\((eH x).all AV.one=true):=by and_intros<;>(intros;rfl)
@[go_sem] def K9(q:UO):aY q (eH x)=true:=by simp[eH,aY,AV.all]
instance:bH eH 5:=⟨fun _=>rfl,fun _=>rfl,fun x=>K9 x _⟩
@[go_sem] def jzA:((eH x).take 5=eH x)/\((eH x).getD 0 .any=.raw (.int .i64 x.kind))/\((eH x).getD 1 .any=.raw (.int .i64 x.cV))/\((eH x).getD 2 .any=.raw (.int .i64 x.n))/\((eH x).getD 3 .any=.raw (.string x.name))/\((eH x).getD 4 .any=aP eI 1 x.l):=by and_intros<;>(intros;rfl)
end
structure aj where
 ty:Int
 n:Int
 s:ByteArray
 deriving Inhabited,DecidableEq
def bV(x:aj):UE:=[.raw (.int .i64 x.ty),.raw (.int .i64 x.n),.raw (.string x.s)]
section
variable (x y:aj)
@[go_sem] def jzI:((bV x).length=3)/\((bV x).all AV.one=true):=by and_intros<;>(intros;rfl)
@[go_sem] def K8(q:UO):aY q (bV x)=true:=by simp[bV,aY,AV.all]
instance:bH bV 3:=⟨fun _=>rfl,fun _=>rfl,fun x=>K8 x _⟩
@[go_sem] def jxR:((bV x).take 3=bV x)/\((bV x).getD 0 .any=.raw (.int .i64 x.ty))/\((bV x).getD 1 .any=.raw (.int .i64 x.n))/\(∀(v:Int),List.take 1 (bV x)++[.raw (.int .i64 v)]++List.drop 2 (bV x)=bV { x with n:=v })/\((bV x).getD 2 .any=.raw (.string x.s)):=by and_intros<;>(intros;rfl)
end
structure bI where
 name:ByteArray
 ty:Int
 deriving Inhabited,DecidableEq
def mN(x:bI):UE:=[.raw (.string x.name),.raw (.int .i64 x.ty)]
section
variable (x y:bI)
@[go_sem] def jzB:((mN x).length=2)/\((mN x).all AV.one=true):=by and_intros<;>(intros;rfl)
@[go_sem] def Mr(q:UO):aY q (mN x)=true:=by simp[mN,aY,AV.all]
instance:bH mN 2:=⟨fun _=>rfl,fun _=>rfl,fun x=>Mr x _⟩
@[go_sem] def jxN:((mN x).take 2=mN x)/\((mN x).getD 0 .any=.raw (.string x.name))/\((mN x).getD 1 .any=.raw (.int .i64 x.ty)):=by and_intros<;>(intros;rfl)
end
structure bh where
 name:ByteArray
 cV:Int
 params:List bI
 ret:Int
 body:Int
 deriving Inhabited,DecidableEq
def fZ(x:bh):UE:=[.raw (.string x.name),.raw (.int .i64 x.cV),aP mN 2 x.params,.raw (.int .i64 x.ret),.raw (.int .i64 x.body)]
section
variable (x y:bh)
@[go_sem] def j1H:((fZ x).length=5)/\((fZ x).all AV.one=true):=by and_intros<;>(intros;rfl)
@[go_sem] def MD(q:UO):aY q (fZ x)=true:=by simp[fZ,aY,AV.all]
instance:bH fZ 5:=⟨fun _=>rfl,fun _=>rfl,fun x=>MD x _⟩
@[go_sem] def jzw:((fZ x).take 5=fZ x)/\((fZ x).getD 0 .any=.raw (.string x.name))/\((fZ x).getD 2 .any=aP mN 2 x.params)/\((fZ x).getD 3 .any=.raw (.int .i64 x.ret))/\((fZ x).getD 4 .any=.raw (.int .i64 x.body)):=by and_intros<;>(intros;rfl)
end
structure aH where
 nodes:List bq
 aw:List bh
 deriving Inhabited,DecidableEq
def lO(x:aH):UE:=[aP eH 5 x.nodes,aP fZ 5 x.aw]
section
variable (x y:aH)
@[go_sem] def j1Y:((lO x).length=2)/\((lO x).all AV.one=true):=by and_intros<;>(intros;rfl)
@[go_sem] def Oh(q:UO):aY q (lO x)=true:=by simp[lO,aY,AV.all]
instance:bH lO 2:=⟨fun _=>rfl,fun _=>rfl,fun x=>Oh x _⟩
@[go_sem] def jzH:((lO x).take 2=lO x)/\((lO x).getD 0 .any=aP eH 5 x.nodes)/\((lO x).getD 1 .any=aP fZ 5 x.aw):=by and_intros<;>(intros;rfl)
end
structure bE where
 name:ByteArray
 ty:Int
 slot:Int
 deriving Inhabited,DecidableEq
def lc(x:bE):UE:=[.raw (.string x.name),.raw (.int .i64 x.ty),.raw (.int .i64 x.slot)]
section
variable (x y:bE)
@[go_sem] def j3D:((lc x).length=3)/\((lc x).all AV.one=true):=by and_intros<;>(intros;rfl)
@[go_sem] def Po(q:UO):aY q (lc x)=true:=by simp[lc,aY,AV.all]
instance:bH lc 3:=⟨fun _=>rfl,fun _=>rfl,fun x=>Po x _⟩
@[go_sem] def j14:((lc x).take 3=lc x)/\((lc x).getD 0 .any=.raw (.string x.name))/\((lc x).getD 1 .any=.raw (.int .i64 x.ty))/\((lc x).getD 2 .any=.raw (.int .i64 x.slot)):=by and_intros<;>(intros;rfl)
end
structure af where
 aa:aH
 types:List Int
 slots:List Int
 fn:List Int
 size:List Int
 deriving Inhabited,DecidableEq
def cn(x:af):UE:=[aP eH 5 x.aa.nodes,aP fZ 5 x.aa.aw,aP eI 1 x.types,aP eI 1 x.slots,aP eI 1 x.fn,aP eI 1 x.size]
section
variable (x y:af)
@[go_sem] def j1R:((cn x).length=6)/\((cn x).all AV.one=true):=by and_intros<;>(intros;rfl)
@[go_sem] def Mc(q:UO):aY q (cn x)=true:=by simp[cn,aY,AV.all]
instance:bH cn 6:=⟨fun _=>rfl,fun _=>rfl,fun x=>Mc x _⟩
@[go_sem] def jzD:((cn x).take 6=cn x)/\((cn x).getD 0 .any=aP eH 5 x.aa.nodes)/\((cn x).getD 1 .any=aP fZ 5 x.aa.aw)/\((cn x).getD 2 .any=aP eI 1 x.types)/\((cn x).getD 3 .any=aP eI 1 x.slots)/\((cn x).getD 4 .any=aP eI 1 x.fn):=by and_intros<;>(intros;rfl)
end
structure ma where
 fn:Int
 node:Int
 slots:List aj
 deriving Inhabited,DecidableEq
def qQ(x:ma):UE:=[.raw (.int .i64 x.fn),.raw (.int .i64 x.node),aP bV 3 x.slots]
section
variable (x y:ma)
@[go_sem] def j1T:(qQ x).length=3:=(rfl)
@[go_sem] def Uj(q:UO):aY q (qQ x)=true:=by simp[qQ,aY,AV.all]
instance:bH qQ 3:=⟨fun _=>rfl,fun _=>rfl,fun x=>Uj x _⟩
@[go_sem] def j3A:(qQ x).getD 1 .any=.raw (.int .i64 x.node):=(rfl)
end
structure lg where
 calls:List ma
 heap:List (List Int)
 in_:Int
 bC:List ByteArray
 status:Int
 dn:Int
 time:Int
 deriving Inhabited,DecidableEq
def lp(x:lg):UE:=[aP qQ 3 x.calls,aP tD 1 x.heap,.raw (.int .i64 x.in_),aP eS 1 x.bC,.raw (.int .i64 x.status),.raw (.int .i64 x.dn),.raw (.int .i64 x.time)]
section
variable (x y:lg)
@[go_sem] def j1S:((lp x).length=7)/\((lp x).all AV.one=true):=by and_intros<;>(intros;rfl)
@[go_sem] def Lq(q:UO):aY q (lp x)=true:=by simp[lp,aY,AV.all]
instance:bH lp 7:=⟨fun _=>rfl,fun _=>rfl,fun x=>Lq x _⟩
@[go_sem] def j3w:((lp x).getD 0 .any=aP qQ 3 x.calls)/\((lp x).getD 2 .any=.raw (.int .i64 x.in_))/\((lp x).getD 4 .any=.raw (.int .i64 x.status))/\((lp x).getD 6 .any=.raw (.int .i64 x.time)):=by and_intros<;>(intros;rfl)
end
structure ay where
 op:Int
 a:Int
 b:Int
 s:ByteArray
 deriving Inhabited,DecidableEq
def dq(x:ay):UE:=[.raw (.int .i64 x.op),.raw (.int .i64 x.a),.raw (.int .i64 x.b),.raw (.string x.s)]
section
variable (x y:ay)
@[go_sem] def jzx:((dq x).length=4)/\((dq x).all AV.one=true):=by and_intros<;>(intros;rfl)
@[go_sem] def S8(q:UO):aY q (dq x)=true:=by simp[dq,aY,AV.all]
instance:bH dq 4:=⟨fun _=>rfl,fun _=>rfl,fun x=>S8 x _⟩
@[go_sem] def jxL:((dq x).take 4=dq x)/\((dq x).getD 0 .any=.raw (.int .i64 x.op))/\((dq x).getD 1 .any=.raw (.int .i64 x.a))/\(∀(v:Int),List.take 1 (dq x)++[.raw (.int .i64 v)]++List.drop 2 (dq x)=dq { x with a:=v })/\((dq x).getD 2 .any=.raw (.int .i64 x.b))/\((dq x).getD 3 .any=.raw (.string x.s)):=by and_intros<;>(intros;rfl)
end
structure aI where
 ins:List ay
 entry:List Int
 deriving Inhabited,DecidableEq
def wR(x:aI):UE:=[aP dq 4 x.ins,aP eI 1 x.entry]
section
variable (x y:aI)
@[go_sem] def N5(q:UO):aY q (wR x)=true:=by simp[wR,aY,AV.all]
instance:bH wR 2:=⟨fun _=>rfl,fun _=>rfl,fun x=>N5 x _⟩
end
structure aB where
 at_:Int
 name:ByteArray
 v:aj
 deriving Inhabited,DecidableEq
def bA(x:aB):UE:=[.raw (.int .i64 x.at_),.raw (.string x.name),.raw (.int .i64 x.v.ty),.raw (.int .i64 x.v.n),.raw (.string x.v.s)]
section
variable (x y:aB)
@[go_sem] def j1G:((bA x).length=5)/\((bA x).all AV.one=true):=by and_intros<;>(intros;rfl)
@[go_sem] def E4(q:UO):aY q (bA x)=true:=by simp[bA,aY,AV.all]
instance:bH bA 5:=⟨fun _=>rfl,fun _=>rfl,fun x=>E4 x _⟩
@[go_sem] def jzu:((bA x).take 5=bA x)/\((bA x).getD 0 .any=.raw (.int .i64 x.at_))/\((bA x).getD 1 .any=.raw (.string x.name))/\((bA x).getD 2 .any=.raw (.int .i64 x.v.ty))/\(((bA x).drop 2).take 3=bV x.v)/\((bA x).map j9=[some (.int .i64),some .str,some (.int .i64),some (.int .i64),some .str]):=by and_intros<;>(intros;rfl)
@[go_sem] def j3b:jh (bA x) (bA y)=decide (x=y):=by rw[Bool.eq_iff_iff];obtain⟨a31,a32,⟨a33,a34,a35⟩⟩:=x;obtain⟨b36,b37,⟨b38,b39,b40⟩⟩:=y;simp[bA,jh]
end
structure ak where
 name:ByteArray
 aD:List Int
 base:List aB
 own:List aB
 deriving Inhabited,DecidableEq
def bu(x:ak):UE:=[.raw (.string x.name),aP eI 1 x.aD,aP bA 5 x.base,aP bA 5 x.own]
section
variable (x y:ak)
@[go_sem] def jxI:((bu x).length=4)/\((bu x).all AV.one=true):=by and_intros<;>(intros;rfl)
@[go_sem] def Kh(q:UO):aY q (bu x)=true:=by simp[bu,aY,AV.all]
instance:bH bu 4:=⟨fun _=>rfl,fun _=>rfl,fun x=>Kh x _⟩
@[go_sem] def jvU:((bu x).take 4=bu x)/\((bu x).getD 0 .any=.raw (.string x.name))/\(∀(v:UI),.raw (.string v)::List.drop 1 (bu x)=bu { x with name:=v })/\((bu x).getD 1 .any=aP eI 1 x.aD)/\((bu x).getD 2 .any=aP bA 5 x.base)/\((bu x).getD 3 .any=aP bA 5 x.own):=by and_intros<;>(intros;rfl)
end
structure aU where
 l:List ak
 cur:Int
 time:Int
 deriving Inhabited,DecidableEq
def cU(x:aU):UE:=[aP bu 4 x.l,.raw (.int .i64 x.cur),.raw (.int .i64 x.time)]
section
variable (x y:aU)
@[go_sem] def j15:((cU x).length=3)/\((cU x).all AV.one=true):=by and_intros<;>(intros;rfl)
@[go_sem] def TI(q:UO):aY q (cU x)=true:=by simp[cU,aY,AV.all]
instance:bH cU 3:=⟨fun _=>rfl,fun _=>rfl,fun x=>TI x _⟩
@[go_sem] def jzK:((cU x).take 3=cU x)/\((cU x).getD 0 .any=aP bu 4 x.l)/\((cU x).getD 1 .any=.raw (.int .i64 x.cur))/\(∀(v:Int),List.take 1 (cU x)++[.raw (.int .i64 v)]++List.drop 2 (cU x)=cU { x with cur:=v })/\((cU x).getD 2 .any=.raw (.int .i64 x.time))/\(∀(v:Int),List.take 2 (cU x)++[.raw (.int .i64 v)]++List.drop 3 (cU x)=cU { x with time:=v }):=by and_intros<;>(intros;rfl)
end
structure gb where
 block:Int
 at_:Int
 deriving Inhabited,DecidableEq
def uy(x:gb):UE:=[.raw (.int .i64 x.block),.raw (.int .i64 x.at_)]
section
variable (x y:gb)
@[go_sem] def NX(q:UO):aY q (uy x)=true:=by simp[uy,aY,AV.all]
instance:bH uy 2:=⟨fun _=>rfl,fun _=>rfl,fun x=>NX x _⟩
end
structure fD where
 fn:Int
 slots:List aj
 path:List gb
 deriving Inhabited,DecidableEq
def yi(x:fD):UE:=[.raw (.int .i64 x.fn),aP bV 3 x.slots,aP uy 2 x.path]
section
variable (x y:fD)
@[go_sem] def Lj(q:UO):aY q (yi x)=true:=by simp[yi,aY,AV.all]
instance:bH yi 3:=⟨fun _=>rfl,fun _=>rfl,fun x=>Lj x _⟩
end
structure gH where
 j3:List fD
 heap:List (List Int)
 in_:Int
 bC:List ByteArray
 status:Int
 dn:Int
 time:Int
 deriving Inhabited,DecidableEq
def Bf(x:gH):UE:=[aP yi 3 x.j3,aP tD 1 x.heap,.raw (.int .i64 x.in_),aP eS 1 x.bC,.raw (.int .i64 x.status),.raw (.int .i64 x.dn),.raw (.int .i64 x.time)]
section
variable (x y:gH)
@[go_sem] def Qz(q:UO):aY q (Bf x)=true:=by simp[Bf,aY,AV.all]
instance:bH Bf 7:=⟨fun _=>rfl,fun _=>rfl,fun x=>Qz x _⟩
end
end Go.Gd