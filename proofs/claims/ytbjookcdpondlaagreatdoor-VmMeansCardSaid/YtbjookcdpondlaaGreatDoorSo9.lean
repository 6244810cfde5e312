/- Lemmas. No conditions. -/
import Derived.Test.YtbjookcdpondlaaGreatDoorSoS
set_option linter.all false
set_option maxHeartbeats 8000000
set_option maxRecDepth 10000
namespace Go.Gd
open Go
def Nu{α:Type}[Inhabited α](l m:List α)(h:l.length≠0):l.take (l.length-1)++(nth l (l.length-1)::m)=l++m:=by
 have h1:l.length-1<l.length:=jB;have e:l.take (l.length-1)++[nth l (l.length-1)]=l:=by rw[<-xM h1,List.take_of_length_le jB]
 rw[show l.take (l.length-1)++(nth l (l.length-1)::m)=(l.take (l.length-1)++[nth l (l.length-1)])++m from jE,e]
variable{t:SL}{R:RS}{tl:SF}{c0:SG}
def RS.wT{pre post:SG}(hk:R.nf-1<R.aw.length)(hj:R.jp.length=R.aw.length)(hp:R.ah.path.length≠0){f:Nat->SG}(hc:c0=pre++R.c++post)
  (hf:∀j,f j=if j=R.nf-1 then[.raw (.int .i64 R.ah.fn),.rs (bJ 0 (R.nf-1)) R.ah.slots.length 3 R.ah.slots.length,.rs (bJ 1 (R.nf-1)) (R.ah.path.length+(nth R.jp (R.nf-1)).length) 2 (R.ah.path.length-1)]else R.fr j) :
  (0,.var t c0)::(1,.aK 76 3 (eT R.aw.length f))::(2,.aK 22 1 (eT R.heap.length fun k=>[.rs (bJ 2 k) (nth R.heap k).length 1 (nth R.heap k).length]))::(3,.aK 9 1 (R.aC.map eS)) ::
   bX 0 R.aw.length R.sl (bX 1 R.aw.length R.pt (bX 2 R.heap.length R.hp tl))=R.cut.e t pre post tl:=by
 have hu:∀k,nth R.cut.aw k=if k=R.nf-1 then{ R.ah with path:=R.ah.path.take (R.ah.path.length-1) }else nth R.aw k:=fun k=>Go.Gd.aY _ _ _ _ hk
 have hv:∀k,nth R.cut.jp k=if k=R.nf-1 then R.ah.pl::nth R.jp (R.nf-1)else nth R.jp k:=fun k=>Go.Gd.aY _ _ _ _ jB
 refine RS.oM (by rw[hc];simp[RS.c,RS.cut]) (by simp[RS.cut]) (fun j XF=>?_) rfl (fun _ _=>rfl) rfl rfl rfl rfl (fun j XF=>?_) (fun j XF=>?_) (fun _ _=>rfl) rfl
 ·rw[hf];simp only[RS.fr,hu,hv];split
  ·rename_i e;subst e;simp only[List.length_take,List.length_cons];rw[show min (R.ah.path.length-1) R.ah.path.length=R.ah.path.length-1 from jB,show R.ah.path.length-1+((nth R.jp (R.nf-1)).length+1)=R.ah.path.length+(nth R.jp (R.nf-1)).length from jB]
  ·rfl
 ·simp only[RS.sl,hu];split
  ·rename_i e;subst e;rfl
  ·rfl
 ·simp only[RS.pt,hu,hv];split
  ·rename_i e;subst e;show _=Row.aK _ _ ((R.ah.path.take (R.ah.path.length-1)++(nth R.ah.path (R.ah.path.length-1)::_)).map _);rw[Nu _ _ hp];rfl
  ·rfl
variable{n:Nat}{F pre' post':SG}{H:Hp}{t':SL}{R':RS}{B:SJ}
def Hx{S:Type}{W:List (Nat×Nat)}{ok:S->Prop}{J:S->List (Nat×AV)}{G:S->Hp}{μ:S->Nat}{F₀:SG}{pre post:SG}{R0:RS}(s:S)(tl:SF)(j:Nat)(x:Row)(h1:ok s)(h2:μ s<n)
  (hH:H=⟨B,R'.e t pre post (tl++[(j,x)])⟩) (hB:ids (R0.e t' pre' post' [])=B) (hG:G s=⟨B,R'.e t pre post tl⟩) (hj:4<=j/\j<1000) (V8:aD tl j=none) (hp:ba cZ pre=true) (hq:ba cZ post=true) (hr:∀i r,aD tl i=some r->ba cZ r.cells=true) (hn:(ids tl).Nodup)
  (h3:bK (fun i=>[j].contains i) H F (mg (J s) (mT W F₀)):=by exact lU):Next n W ok J G μ F₀ F H:=by
 have hD:∀i,i≠j->(fun i=>[j].contains i) i=false:=fun i hi=>by simp[hi]
 have Td:∀{R:RS} {t:SL} {pre post:SG} i,i∈ids (R.e t pre post [])->i≠j:=fun i hi e=>by subst e;exact(kz _ _).1 hi (RS.no _ hj.1 hj.2)
 subst hH;refine Bk (fun i=>[j].contains i) s h1 h2 ?_ ?_ ?_ h3
 ·show B.all _=true;rw[List.all_eq_true];intro i hi;rw[<-hB]at hi;unfold fu;rw[hD i (Td i hi)];rfl
 ·show gp _ (R'.e t pre post _);rw[RS.hJ];refine vS _ _ _ (vo _ _ RS.nodup fun i r hi=>fM (fun k hk=>?_) _ (RS.closed hp hq i r hi)) (vS _ _ _ (vo _ _ hn fun i r hi=>fM (fun _ h=>by cases h) _ (hr i r hi)) (yu _ _ fun i hi=>?_))
  ·unfold fu;rw[hD k (Td k (List.contains_iff_mem.1 hk))];rfl
  ·simp[ids]at hi;subst hi;simp
 ·rw[hG];show Hp.mk B (eP _ (R'.e t pre post _))=_;rw[RS.hJ,wl,wl,vW _ _ (fun i hi=>hD i (Td i hi)),vW _ tl (fun i hi=>hD i fun e=>by subst e;exact(kz _ _).1 hi V8),yF _ [(j,x)] (fun i hi=>by simp[ids]at hi;subst hi;simp),List.append_nil,<-RS.hJ]
def RS.gu(h:R.Ok)(h1:1<=R.nf)(f:aH):(R.aS (R.nf-1) f).ah=f:=by show nth (R.aS (R.nf-1) f).aw (R.nf-1)=f;rw[RS.aY (by have:=h.nf;omega),if_pos rfl]
structure Kept(R R':RS):Prop where
 heap:R'.heap=R.heap
 in_:R'.in_=R.in_
 aC:R'.aC=R.aC
 bp:R'.bp=R.bp
 time:R'.time=R.time
def Kept.refl(R:RS):Kept R R:=⟨rfl,rfl,rfl,rfl,rfl⟩
theorem Kept.trans{a b c:RS}(h:Kept a b)(k:Kept b c):Kept a c:=⟨k.heap.trans h.heap,k.in_.trans h.in_,k.aC.trans h.aC,k.bp.trans h.bp,k.time.trans h.time⟩
def z6(R:RS)(p:ab)(v:ak):Kept R (R.bq p v):=by
 unfold RS.bq;split
 ·exact⟨rfl,rfl,rfl,rfl,rfl⟩
 ·split<;>exact⟨rfl,rfl,rfl,rfl,rfl⟩
theorem qx(p:ab):∀(n:Nat) (R:RS),Kept R (js p n R)
 |0,R=>Kept.refl R
 |n+1,R=>by
  unfold js;split
  ·exact Kept.refl R
  split
  ·exact(z6 R p _).trans (qx p n _)
  split
  ·exact Kept.refl R
  ·exact Kept.trans (b:=R.cut) ⟨rfl,rfl,rfl,rfl,rfl⟩ (qx p n _)
def RS.sA(s:aM):(RS.of s).Ok:=⟨Nat.le_refl _,by show(s.ap.map _).length=_;simp[RS.of]⟩
def RS.fv(s:aM):(RS.of s).st=s:=by show aM.mk (s.ap.take s.ap.length) s.heap s.in_ s.aC s.status s.bp s.time=s;rw[List.take_length]
variable{D:SP}{k:Nat}
def RS.pY{pre post:SG}(hk:k<R.aw.length)(hD:∀i,D i=true)(hn:n=(nth R.aw k).slots.length):dM D ⟨B,R.e t pre post tl⟩ (.rs (bJ 0 k) n 3 n) (bh bM 3 (nth R.aw k).slots):=.row _ (hD _) (RS.mD hk) hn
def RS.uL{pre post:SG}(hD:∀i,D i=true):dM D ⟨B,R.e t pre post tl⟩ (.rs 2 R.heap.length 1 R.heap.length) (bh kg 1 R.heap):=by
 refine .rs _ 2 1 _ 22 _ _ (hD _) RS.nE (by simp[go_sem]) (by simp[go_sem]) (fun ds U5=>?_) (jo (enc:=kg) (sz:=1) _) fun k j c d hk h1 h2=>?_
 ·obtain⟨x,_,rfl⟩:=List.mem_map.1 U5;rfl
 ·have hk:k<R.heap.length:=by simpa[go_sem]using hk
  rw[wZ _ _ _ hk]at h1;have h2:((List.map kg R.heap).getD k [])[j]?=some d:=h2;rw[ye _ _ _ hk]at h2;match j with
  |0=>cases h1;cases h2;exact .row _ (hD _) (RS.rl hk) rfl
  |j+1=>simp at h1
variable{P:SQ}
def Mt{f:FuncId}{args:SG}{r:AV}(cS:SO)(v:Value)(ha:args=cS.map .raw)(hr:∀w:NW,aB w r v)(h:∀w:NW,l9 w->Calls P f cS.toArray w.toWorld fun e w'=>e=.returned v/\RowKit.Below w.heap.size w.toWorld w'):aP P f args r:=by
 intro w vs h1 h2;have Y7:vs=cS.toArray:=by
  apply Array.ext';apply List.ext_getElem?;intro i;obtain⟨hl,hv⟩:=h2;subst ha;by_cases hi:i<cS.length
  ·have UN:i<vs.size:=by rw[<-hl];simpa using hi
   have:=dH (hv i (.raw cS[i]) vs[i] (by simp[hi]) (by simp[UN]));simp[hi,UN,this]
  ·have UN:¬i<vs.size:=by rw[<-hl];simpa using hi
   rw[List.getElem?_eq_none (by simpa using UN),List.getElem?_eq_none (by simpa using hi)]
 subst Y7;refine(h w h1.cv).mono ?_;rintro e W ⟨rfl,hb⟩;have ex:Ext w (entry []) (w.to W) (entry []):={ size:=hb.size,free:=fun b Ul hO=>⟨hb.block b Ul,hO⟩,names:=fun _ _ _ _ h=>h,os:=hb.os,tape:=hb.tape,output:=hb.output,rest:=fun b Ul hO Td=>⟨hb.block b Ul,hO,Td⟩,base:=rfl };refine⟨v,r,entry [],w.to W,rfl,rfl,⟨rfl,rfl⟩,{ rows:=fun i row hi=>(by cases hi),dZ:=h1.dZ,inj:=h1.inj,own:=h1.own,cv:=h1.cv.bj ex.toKeep,fin:=fun b Ul=>Nat.lt_of_lt_of_le (h1.fin b Ul) hb.size },hr _,ex.qC⟩
def dr(n:Int):Prop:=-9223372036854775808<=n/\n<=9223372036854775807
def RS.ya{pre post:SG}(hB:ids (R.e t pre post [])=B)(hD:∀i,(i<4\/1000<=i)->D i=false)(hp:ba cZ pre'=true)(hq:ba cZ post'=true)(hs:gp D tl) :
  B.all (fu D)=true/\gp D (R'.e t' pre' post' tl)/\eP D (R'.e t' pre' post' tl)=R'.e t' pre' post' (eP D tl):=by
 have Td:∀{R:RS} {t:SL} {pre post:SG} i,i∈ids (R.e t pre post [])->D i=false:=fun i hi=>hD i (by
  by_cases h:i<4
  ·exact .inl h
  ·right
   apply Classical.byContradiction;intro h';exact(kz _ _).1 hi (RS.no i jB jB))
 refine⟨?_,?_,?_⟩
 ·rw[List.all_eq_true];intro i hi;rw[<-hB]at hi;unfold fu;rw[Td i hi];rfl
 ·rw[RS.hJ];refine vS _ _ _ (vo _ _ RS.nodup fun i r hi=>fM (fun k hk=>?_) _ (RS.closed hp hq i r hi)) hs;unfold fu;rw[Td k (List.contains_iff_mem.1 hk)];rfl
 ·rw[RS.hJ,wl,vW _ _ (fun i hi=>Td i hi),<-RS.hJ]
variable{Q:Exit->SC}
def Kl{c:Code}{F':SG}{pre post:SG}(L:SJ)(tl:SF)(h00:(L.any fun i=>(aD tl i).isSome)=true)(hL:L.all (fun i=>decide (4<=i/\i<1000))=true)(hH:H=⟨B,R'.e t' pre' post' tl⟩)(hB:ids (R.e t pre post [])=B)(hp:ba cZ pre'=true)(hq:ba cZ post'=true)
  (hs:gp (fun i=>L.contains i) tl) (hv:bK (fun i=>L.contains i) H F F') (h:dw P c Q F' ⟨B,R'.e t' pre' post' (eP (fun i=>L.contains i) tl)⟩):dw P c Q F H:=by
 subst hH;obtain⟨h1,h2,h3⟩:=RS.ya (D:=fun i=>L.contains i) (R':=R') (t':=t') (pre':=pre') (post':=post') (tl:=tl) hB (fun i hi=>by
  cases e:L.contains i with
  |false=>rfl
  |true=> have:=List.all_eq_true.1 hL i (List.contains_iff_mem.1 e);simp only[decide_eq_true_eq]at this;omega) hp hq hs
 refine iJ (dJ.free _ h1 h2 hv) ?_;show dw P c Q F' ⟨B,eP _ (R'.e t' pre' post' tl)⟩;rw[h3];exact h
variable{l l':SF}
def pB(j:Nat)(r:Row)(h:∀i,aD l i=aD l' i):∀i,aD ((j,r)::l) i=aD ((j,r)::l') i:=fun i=>by show(if i=j then _ else _)=(if i=j then _ else _);rw[h i]
theorem Dn(a:Nat)(f:SR){l l':SF}(h:∀i,aD l i=aD l' i):∀(n k i:Nat),aD (gl a f k n l) i=aD (gl a f k n l') i
 |0,k,i=>h i
 |n+1,k,i=>pB _ _ (Dn a f h n (k+1)) i
def oc(a n:Nat)(f:SR)(h:∀i,aD l i=aD l' i)(i:Nat):aD (bX a n f l) i=aD (bX a n f l') i:=Dn a f h n 0 i
theorem GP(a:Nat)(f:SR)(l:SF):∀(n k:Nat),gl a f k (n+1) l=gl a f k n ((bJ a (k+n),f (k+n))::l)
 |0,k=>rfl
 |n+1,k=>by show(bJ a k,f k)::gl a f (k+1) (n+1) l=(bJ a k,f k)::gl a f (k+1) n _;rw[GP a f l n (k+1),show k+1+n=k+(n+1) from jB]
variable{r:Row}
def Js{j:Nat}(h:aD l j=none)(i:Nat):aD (l++[(j,r)]) i=aD ((j,r)::l) i:=by
 rw[oR];show _=if i=j then some r else aD l i
 by_cases e:i=j
 ·subst e;rw[h,if_pos rfl];simp[aD]
 ·rw[if_neg e];simp[aD,e]
def Dq{a:Nat}(f':SR){f:SR}(hf:∀k,k<n->f k=f' k)(hr:r=f' n)(V8:aD tl (bJ a n)=none)(i:Nat):aD (bX a n f (tl++[(bJ a n,r)])) i=aD (bX a (n+1) f' tl) i:=by rw[zw rfl hf rfl];unfold bX;rw[GP,Nat.zero_add,hr];exact Dn a f' (fun i=>Js V8 i) n 0 i
def Bp(h:low tl)(a k:Nat):aD tl (bJ a k)=none:=by
 cases e:aD tl (bJ a k)with
 |none=>rfl
 |some r=>have:=(h _ _ e).2;have:=lK a k;omega
variable{s q:SR}
def Hv{h:Nat}(s' p':SR){p:SR}{r0 r1:Row}(hs:∀k,k<n->s k=s' k)(hp:∀k,k<n->p k=p' k)(h0:r0=s' n)(h1:r1=p' n)(hl:low tl)(i:Nat) :
  aD (bX 0 n s (bX 1 n p (bX 2 h q (tl++[(bJ 1 n,r1),(bJ 0 n,r0)])))) i=aD (bX 0 (n+1) s' (bX 1 (n+1) p' (bX 2 h q tl))) i:=by
 have e:bX 1 n p (bX 2 h q (tl++[(bJ 1 n,r1),(bJ 0 n,r0)]))=bX 1 n p (bX 2 h q tl++[(bJ 1 n,r1)])++[(bJ 0 n,r0)]:=by rw[show tl++[(bJ 1 n,r1),(bJ 0 n,r0)]=(tl++[(bJ 1 n,r1)])++[(bJ 0 n,r0)] from jE,sf,sf,sf 2 h q tl]
 have z0:aD (bX 2 h q tl) (bJ 0 n)=none:=by rw[pj _ _ _ _ _ _ jB jB jB];exact Bp hl _ _
 have z1:aD (bX 2 h q tl) (bJ 1 n)=none:=by rw[pj _ _ _ _ _ _ jB jB jB];exact Bp hl _ _
 rw[e,Dq s' hs h0 (by rw[pj _ _ _ _ _ _ jB jB jB,oR,z0];simp[aD,Oj 0 1 n n jB jB jB])]
 exact oc 0 (n+1) s' (fun i=>Dq p' hp h1 z1 i) i
def E2{h:Nat}(q':SR){p:SR}(hq:∀k,k<h->q k=q' k)(h2:r=q' h)(hl:low tl)(i:Nat) :
  aD (bX 0 n s (bX 1 n p (bX 2 h q (tl++[(bJ 2 h,r)])))) i=aD (bX 0 n s (bX 1 n p (bX 2 (h+1) q' tl))) i:=
 oc 0 n s (fun i=>oc 1 n p (fun i=>Dq q' hq h2 (Bp hl _ _) i) i) i
variable{fn:Func}{r0:AV}
def G1{out:SG}{e:Exit}{pre post:SG}(hH:H=⟨B,l⟩)(UK:∀i,aD l i=aD (R'.e t' pre' post' tl) i)(hB:ids (R.e t pre post [])=B)(rs:List ResultVar)(hl:low tl)(hp:ba cZ pre'=true)(hq:ba cZ post'=true)(hr:r0.all cZ=true)
  (UI:fn.results.toList=rs:=by rfl) (he:e=.normal\/e=.ret:=by first|exact Or.inr rfl|exact Or.inl rfl|fail) (ho:iC P H F rs=some out:=by first|rfl|(simp(disch:=first|omega|fail) only[go_sem,↓reduceIte,Nat.reduceEqDiff,Nat.reduceLeDiff,Nat.reduceSub,Nat.reduceAdd];rfl)) (hok:jb P H F rs:=by first|exact jI|(simp(disch:=first|omega|fail) only[go_sem,↓reduceIte,Nat.reduceEqDiff,Nat.reduceLeDiff,Nat.reduceSub,Nat.reduceAdd])) (hv:iG out=r0:=by first|rfl|(simp only[go_sem];done)):ju P fn (fun r l=>r=r0/\l=R'.e t' pre' post' []) e F H:=by
 subst UI hH;obtain⟨h1,h2,h3⟩:=RS.free (R':=R') (t':=t') (pre':=pre') (post':=post') hB hl hp hq;exact rG he ho hok r0 ⟨B,R'.e t' pre' post' []⟩ ((zd (R'.e t' pre' post' tl) UK).trans (by have:=gT.free (H:=⟨B,R'.e t' pre' post' tl⟩) Go.Gd.fe h1 h2 (tE hv (qB (fun _ h=>by cases h) _ (hv ▸ hr)));rw[h3]at this;exact this)) ⟨rfl,rfl⟩
def RS.DB{pre post:SG}(i:Nat)(h:4<=i)(h':i<1000):aD (R.e t pre post tl) i=aD tl i:=by rw[RS.hJ,oR,RS.no i h h'];rfl
def yz(a k:Nat):fe (bJ a k)=false:=by
 unfold fe;refine decide_eq_false fun h=>?_
 have:=lK a k;omega
def AL(k:Nat)(h:4<=k)(h2:k<1000):fe k=true:=decide_eq_true ⟨h,h2⟩
def Px{l0:SF}{out:SG}{e:Exit}{r:AV}(rs:List ResultVar)(hv:iG out=r)(hl:gp fe l0)(hq:(iG out).all (fu fe)=true)(h2:eP fe l0=l)(UI:fn.results.toList=rs:=by rfl)(he:e=.normal\/e=.ret:=by first|exact Or.inr rfl|exact Or.inl rfl|fail)
  (ho:iC P ⟨[],l0⟩ F rs=some out:=by first|(simp(disch:=first|omega|fail) only[go_sem,↓reduceIte,Nat.reduceEqDiff,Nat.reduceLeDiff,Nat.reduceSub,Nat.reduceAdd];rfl)|rfl) (hok:jb P ⟨[],l0⟩ F rs:=by first|exact jI|(simp(disch:=first|omega|fail) only[go_sem,↓reduceIte,Nat.reduceEqDiff,Nat.reduceLeDiff,Nat.reduceSub,Nat.reduceAdd])):ju P fn (fun r' l'=>r'=r/\l'=l) e F ⟨[],l0⟩:=by
 subst UI;exact yy fe he ho hok rfl hl (tE hv hq) h2
def Cm(p:ab)(k:Int):bk:=⟨(nth p.aa.aq k.toNat).body,0⟩
def uC(p:ab)(fn:Int)(args:List ak)(n:Nat):SF:=[(bJ 1 n,.aK 94 2 ([Cm p fn].map iU)),(bJ 0 n,.aK 82 3 ((gg p fn args).slots.map bM))]
def uQ(p:ab)(fn:Int)(args:List ak)(n:Nat):SG:=[.raw (.int .i64 fn),.rs (bJ 0 n) (gg p fn args).slots.length 3 (gg p fn args).slots.length,.rs (bJ 1 n) 1 2 1]
def RS.qu{pre post:SG}(hk:k<R.aw.length)(hj:nth R.jp k=[]){f:Nat->SG}{x:bk}(hc:c0=pre++R.c++post)
  (hf:∀j,f j=if j=k then[.raw (.int .i64 (nth R.aw k).fn),.rs (bJ 0 k) (nth R.aw k).slots.length 3 (nth R.aw k).slots.length,.rs (bJ 1 k) ((nth R.aw k).path.length+1) 2 ((nth R.aw k).path.length+1)]else R.fr j) (h1:∀j,s j=if j=k then .aK 94 2 (((nth R.aw k).path++[x]).map iU)else R.pt j) :
  (0,.var t c0)::(1,.aK 76 3 (eT R.aw.length f))::(2,.aK 22 1 (eT R.heap.length fun k=>[.rs (bJ 2 k) (nth R.heap k).length 1 (nth R.heap k).length]))::(3,.aK 9 1 (R.aC.map eS)) ::
   bX 0 R.aw.length R.sl (bX 1 R.aw.length s (bX 2 R.heap.length R.hp tl))=(R.aS k { nth R.aw k with path:=(nth R.aw k).path++[x] }).e t pre post tl:=by
 have hu:=RS.aY hk { nth R.aw k with path:=(nth R.aw k).path++[x] };refine RS.oM (by rw[hc,RS.qg]) RS.aO (fun j XF=>?_) rfl (fun _ _=>rfl) rfl rfl rfl rfl (fun j XF=>?_) (fun j XF=>?_) (fun _ _=>rfl) rfl
 ·rw[hf];simp only[RS.fr,hu];split
  ·rename_i e;subst e;simp[hj,RS.aS]
  ·rfl
 ·simp only[RS.sl,hu];split
  ·rename_i e;subst e;rfl
  ·rfl
 ·rw[h1];simp only[RS.pt,hu];split
  ·rename_i e;subst e;simp[hj,RS.aS]
  ·rfl
def RS.grow(R:RS)(l:SI):RS:={ R with heap:=R.heap++[l] }
def qK(j:Nat){r':Row}(hr:r=r')(h:∀i,aD l i=aD l' i):∀i,aD ((j,r)::l) i=aD ((j,r')::l') i:=by subst hr;exact pB j r h
variable{tl0:SF}
def RS.oU{pre post:SG}{l:SI}{hr:Nat->SG}(hc:c0=pre++(R.grow l).c++post)(hhr:∀k,k<R.heap.length+1->hr k=[.rs (bJ 2 k) (nth (R.heap++[l]) k).length 1 (nth (R.heap++[l]) k).length])(hrr:r=.aK 3 1 (l.map eI))(ht:∀i,aD tl0 i=aD (tl++[(bJ 2 R.heap.length,r)]) i)(hl:low tl) :
  ∀i,aD ((0,.var t c0)::(1,.aK 76 3 (eT R.aw.length R.fr))::(2,.aK 22 1 (eT (R.heap.length+1) hr))::(3,.aK 9 1 (R.aC.map eS))::bX 0 R.aw.length R.sl (bX 1 R.aw.length R.pt (bX 2 R.heap.length R.hp tl0))) i=aD ((R.grow l).e t pre post tl) i:=by
 have D':(R.grow l).heap.length=R.heap.length+1:=by simp[RS.grow]
 refine qK _ (by rw[hc]) (qK _ rfl (qK _ ?_ (qK _ rfl fun i=>?_)))
 ·rw[vM (g:=fun k=>[.rs (bJ 2 k) (nth (R.grow l).heap k).length 1 (nth (R.grow l).heap k).length]) D'.symm fun j hj=>hhr j hj]
 ·rw[oc 0 _ _ (fun i=>oc 1 _ _ (fun i=>oc 2 _ _ ht i) i) i];rw[E2 (R.grow l).hp (fun k hk=>?_) ?_ hl,D']
  ·rfl
  ·show r=Row.aK _ _ ((nth (R.heap++[l]) R.heap.length).map eI);rw[mn,hrr]
  ·show Row.aK _ _ _=Row.aK _ _ ((nth (R.heap++[l]) k).map eI);rw[lM hk]
def RS.iE(R:RS)(k:Nat)(l:SI):RS:={ R with heap:=R.heap.set k l }
def RS.ux{pre post:SG}(hk:k<R.heap.length){l:SI}(hl:l.length=(nth R.heap k).length)(hc:c0=pre++R.c++post)(h1:∀j,q j=if j=k then .aK 3 1 (l.map eI)else R.hp j) :
  (0,.var t c0)::(1,.aK 76 3 (eT R.aw.length R.fr))::(2,.aK 22 1 (eT R.heap.length fun k=>[.rs (bJ 2 k) (nth R.heap k).length 1 (nth R.heap k).length]))::(3,.aK 9 1 (R.aC.map eS)) ::
   bX 0 R.aw.length R.sl (bX 1 R.aw.length R.pt (bX 2 R.heap.length q tl))=(R.iE k l).e t pre post tl:=by
 have hu:∀j,nth (R.iE k l).heap j=if j=k then l else nth R.heap j:=fun j=>Go.Gd.aY _ _ _ _ hk
 have D':(R.iE k l).heap.length=R.heap.length:=by simp[RS.iE]
 refine RS.oM (R:=R.iE k l) (by rw[hc];simp[RS.c,RS.iE]) rfl (fun _ _=>rfl) D'.symm (fun j _=>?_) rfl rfl rfl rfl (fun _ _=>rfl) (fun _ _=>rfl) (fun j _=>?_) rfl
 ·rw[hu];split
  ·rename_i e;subst e;rw[hl]
  ·rfl
 ·rw[h1];simp only[RS.hp,hu];split<;>rfl
def cO(h:(ids tl).all (fun i=>decide (4<=i/\i<1000))=true:=by rfl):low tl:=fun i r hi=>of_decide_eq_true (List.all_eq_true.1 h i ((kz _ _).2 (by rw[hi];simp)))
def It{f:FuncId}{args:SG}{K:SD}{pre post:SG}(hc:ai P f args (R.e t pre post []) fun r l'=>r=r0/\l'=R'.e t pre' post' [])(hH:H=⟨B,R.e t pre post tl⟩)
  (h1:R.aw.length<=R'.aw.length) (h2:R.heap.length<=R'.heap.length) (hp:ba cZ pre=true) (hq:ba cZ post=true) (hl:low tl) (ha:ba (fun i=>decide (i<4)) args=true) (h0:bn P f=true) (k:K r0 ⟨B,R'.e t pre' post' tl⟩):fz P (.raw (.func (.func f) #[] #[])) args H K:=by
 subst hH;refine mZ h0 (zI (E:=fun tl=>R.e t pre post tl) (E':=fun tl=>R'.e t pre' post' tl) hc (RS.bz hl) (RS.bz hl) RS.nodup (fM (fun i hi=>?_) _ ha) (RS.closed hp hq) k (RS.size h1 h2));have hi:i<4:=of_decide_eq_true hi;match i,hi with
 |0,_=>exact gq RS.oB
 |1,_=>exact gq RS.oF
 |2,_=>exact gq RS.nE
 |3,_=>exact gq RS.oV
def Og{out:SG}{e:Exit}{pre post:SG}(hH:H=⟨B,R'.e t' pre' post' tl⟩)(hB:ids (R.e t pre post [])=B)(rs:List ResultVar)(hl:low tl)(hp:ba cZ pre'=true)(hq:ba cZ post'=true)(hr:r0.all (fu fe)=true)
  (UI:fn.results.toList=rs:=by rfl) (he:e=.normal\/e=.ret:=by first|exact Or.inr rfl|exact Or.inl rfl|fail) (ho:iC P H F rs=some out:=by first|rfl|(simp(disch:=first|omega|fail) only[go_sem,↓reduceIte,Nat.reduceEqDiff,Nat.reduceLeDiff,Nat.reduceSub,Nat.reduceAdd];rfl)) (hok:jb P H F rs:=by first|exact jI|(simp(disch:=first|omega|fail) only[go_sem,↓reduceIte,Nat.reduceEqDiff,Nat.reduceLeDiff,Nat.reduceSub,Nat.reduceAdd])) (hv:iG out=r0:=by first|rfl|(simp only[go_sem];done)):ju P fn (fun r l=>r=r0/\l=R'.e t' pre' post' []) e F H:=by
 subst UI hH;obtain⟨h1,h2,h3⟩:=RS.free (R':=R') (t':=t') (pre':=pre') (post':=post') hB hl hp hq;exact yy Go.Gd.fe he ho hok h1 h2 (tE hv (hv ▸ hr)) h3
def RS.lq(R:RS)(v:ak):AV:=if v.ty≠4\/v.n<1\/(R.heap.length:Int)<v.n then .raw (.slice none 0 0)else .rs (bJ 2 (v.n-1).toNat) (nth R.heap (v.n-1).toNat).length 1 (nth R.heap (v.n-1).toNat).length
def RS.oL{pre post:SG}{p:ab}{fn:Int}{args:List ak}{fr:Nat->SG}(hok:R.Ok)(hf:R.nf=R.aw.length)(hc:c0=pre++(R.push (gg p fn args)).c++post)(U':∀k,k<R.aw.length+1->fr k=if k=R.aw.length then uQ p fn args R.aw.length else R.fr k)
  (ht:∀i,aD tl0 i=aD (tl++uC p fn args R.aw.length) i) (hl:low tl) :
  ∀i,aD ((0,.var t c0)::(1,.aK 76 3 (eT (R.aw.length+1) fr))::(2,.aK 22 1 (eT R.heap.length fun k=>[.rs (bJ 2 k) (nth R.heap k).length 1 (nth R.heap k).length]))::(3,.aK 9 1 (R.aC.map eS))::bX 0 R.aw.length R.sl (bX 1 R.aw.length R.pt (bX 2 R.heap.length R.hp tl0))) i=aD ((R.push (gg p fn args)).e t pre post tl) i:=by
 have VO:=hok.jp;have D':(R.push (gg p fn args)).aw.length=R.aw.length+1:=by simp[RS.push]
 have hu:∀k,k<=R.aw.length->nth (R.push (gg p fn args)).aw k=if k=R.aw.length then gg p fn args else nth R.aw k:=fun k hk=>by
  show nth (R.aw++[_]) k=_;by_cases e:k=R.aw.length
  ·subst e;rw[if_pos rfl,mn]
  ·rw[if_neg e,lM jB]
 have hv:∀k,k<=R.aw.length->nth (R.push (gg p fn args)).jp k=if k=R.aw.length then[]else nth R.jp k:=fun k hk=>by
  show nth (R.jp++[[]]) k=_;by_cases e:k=R.aw.length
  ·rw[if_pos e,e,<-VO,mn]
  ·rw[if_neg e,lM jB]
 refine qK _ (by rw[hc]) (qK _ ?_ (qK _ rfl (qK _ rfl fun i=>?_)))
 ·rw[vM (g:=(R.push (gg p fn args)).fr) D'.symm fun j hj=>?_];rw[U' j hj];unfold RS.fr;rw[hu j jB,hv j jB];by_cases e:j=R.aw.length
  ·subst e;rw[if_pos rfl,if_pos rfl,if_pos rfl];rfl
  ·rw[if_neg e,if_neg e,if_neg e]
 ·rw[oc 0 _ _ (fun i=>oc 1 _ _ (fun i=>oc 2 _ _ ht i) i) i];unfold uC;rw[Hv (R.push (gg p fn args)).sl (R.push (gg p fn args)).pt (fun k hk=>?_) (fun k hk=>?_) ?_ ?_ hl,D']
  ·rfl
  ·unfold RS.sl;rw[hu _ jl,if_pos rfl]
  ·unfold RS.pt;rw[hu _ jl,hv _ jl,if_pos rfl,if_pos rfl];rfl
  ·unfold RS.sl;rw[hu k jB,jN]
  ·unfold RS.pt;rw[hu k jB,hv k jB,jN,jN]
def JZ{c:Code}{pre post:SG}(L:SJ)(J:List (Nat×AV))(tl:SF)(h00:(L.any fun i=>(aD tl i).isSome)=true)(hL:L.all (fun i=>decide (4<=i/\i<1000))=true)(hH:H=⟨B,R'.e t' pre' post' tl⟩)(hB:ids (R.e t pre post [])=B)(hp:ba cZ pre'=true)(hq:ba cZ post'=true)
  (hs:gp (fun i=>L.contains i) tl) (hv:bK (fun i=>L.contains i) H F (mg J F)) (h:dw P c Q (mg J F) ⟨B,R'.e t' pre' post' (eP (fun i=>L.contains i) tl)⟩):dw P c Q F H:=Kl L tl h00 hL hH hB hp hq hs hv h
end Go.Gd
namespace Go.Proofs.YtbjookcdpondlaaGreatDoor
open Go Go.Gd Tryz
abbrev rV(v:ak):AV:=.agg (bM v)
def vJ(n:Int):aP prog 92 [rI n] (rV (vI n)):=by
 refine df func92 ntmps92 ?_
 (repeat' (first|refine aA fun K hK=>?_|refine ax ?_|(refine hK _ _ ?_;clear hK K)|(refine az ?_ ?_<;>intro hc<;>try exact jz)|refine ay ?_|exact jI|(clear hK K)))
 (refine bG [.cell 2 82] ?_;try simp only[go_sem])
 rfl
def yO(b:Bool):aP prog 122 [rB b] (rV (vB b)):=by
 refine df func122 ntmps122 ?_
 (repeat' (first|refine aA fun K hK=>?_|refine ax ?_|(refine hK _ _ ?_;clear hK K)|(refine az ?_ ?_<;>intro hc<;>try exact jz)|refine ay ?_|exact jI|(clear hK K)))
 all_goals(refine bG [.cell 2 82] ?_;try simp only[go_sem])
 all_goals simp_all [vB,bM]
def FO(s:SK):aP prog 123 [rS s] (rV (vT s)):=by
 refine df func123 ntmps123 ?_
 (repeat' (first|refine aA fun K hK=>?_|refine ax ?_|(refine hK _ _ ?_;clear hK K)|(refine az ?_ ?_<;>intro hc<;>try exact jz)|refine ay ?_|exact jI|(clear hK K)))
 (refine bG [.cell 2 82] ?_;try simp only[go_sem])
 rfl
def DO(t:Int):aP prog 48 [rI t] (rV (vZ t)):=by
 refine df func48 ntmps48 ?_
 (repeat' (first|refine aA fun K hK=>?_|refine ax ?_|(refine hK _ _ ?_;clear hK K)|(refine az ?_ ?_<;>intro hc<;>try exact jz)|refine ay ?_|exact jI|(clear hK K)))
 (refine bG [.cell 2 82] ?_;try simp only[go_sem])
 rfl
def O1(v:ak):aP prog 121 [rV v] (rB (jS v)):=by
 refine df func121 ntmps121 ?_
 (repeat' (first|refine aA fun K hK=>?_|refine ax ?_|(refine hK _ _ ?_;clear hK K)|(refine az ?_ ?_<;>intro hc<;>try exact jz)|refine ay ?_|exact jI|(clear hK K)))
 all_goals(refine bG [.tmp 2] ?_;try simp only[go_sem])
 all_goals simp_all [jS]
def My(g:SK)(a b:Int):aP prog 149 [rS g,rI a,rI b] (.bf [rV (qA g a b).1,rI (qA g a b).2]):=by
 refine df func149 ntmps149 ?_
 (repeat' (first|refine aA fun K hK=>?_|refine ax ?_|(refine hK _ _ ?_;clear hK K)|(refine az ?_ ?_<;>intro hc<;>try exact jz)|refine cp (vJ _) ?_|refine cp (yO _) ?_|refine ay ?_|exact jI|(clear hK K)))
 all_goals(refine bG [.cell 6 82,.tmp 7] ?_;try simp only[go_sem])
 all_goals simp_all [qA]
 all_goals rfl
def Sa(g:SK)(a b:ak)(ha:a.s.size<=1000000)(hb:b.s.size<=1000000):aP prog 142 [rS g,rV a,rV b] (.bf [rV (jq g a b).1,rI (jq g a b).2]):=by
 refine df func142 ntmps142 ?_
 (repeat' (first|refine aA fun K hK=>?_|refine ax ?_|(refine hK _ _ ?_;clear hK K)|(refine az ?_ ?_<;>intro hc<;>try exact jz)|refine cp (yO _) ?_|refine cp (FO _) ?_|refine cp (My _ _ _) ?_|refine ay ?_|exact jI|(clear hK K)))
 all_goals(refine bG [.cell 6 82,.tmp 7] ?_;try simp only[go_sem])
 all_goals(unfold jq;(repeat' split)<;>first|rfl|omega|(exfalso;simp_all;done)|(simp_all [bM,vB];done)|(exfalso;simp_all;omega)|skip)
def QE(g:SK)(a:ak):aP prog 126 [rS g,rV a] (rV (jX g a)):=by
 refine df func126 ntmps126 ?_
 (repeat' (first|refine aA fun K hK=>?_|refine ax ?_|(refine hK _ _ ?_;clear hK K)|(refine az ?_ ?_<;>intro hc<;>try exact jz)|refine cp (yO _) ?_|refine cp (vJ _) ?_|refine ay ?_|exact jI|(clear hK K)))
 all_goals(refine bG [.cell 4 82] ?_;try simp only[go_sem])
 all_goals(unfold jX;(repeat' split)<;>first|rfl|omega|(exfalso;simp_all;done)|(simp_all [bM,vB];done)|(exfalso;simp_all;omega)|skip)
def Im{i:Nat}{r:Row}(hi:4<=i/\i<1000):low [(i,r)]:=fun k x hk=>by have hk:k∈ids [(i,r)]:=(kz _ _).2 (by rw[hk];simp);simp[ids]at hk;omega
def Hb(R:RS)(p:ab)(v:ak):(R.bq p v).aw.length=R.aw.length/\(R.bq p v).heap=R.heap:=by
 unfold RS.bq;split
 ·exact⟨rfl,rfl⟩
 ·split
  ·exact⟨RS.aO.symm.trans RS.aO.symm,rfl⟩
  ·exact⟨RS.aO.symm,rfl⟩
variable{p:ab}{R:RS}
def da.at_(h:cY p)(hI:da p R)(h2:2<=R.nf):pT p R.pop.st:=by
 have TB:=hI.ok.nf;have hf:=hI.aw;have Wv:R.pop.Ok:=⟨by show R.nf-1<=R.aw.length;omega,hI.ok.jp⟩;have ht:=RS.aj Wv (by show 1<=R.nf-1;omega);have hl:R.pop.st.ap.length=R.nf-1:=by show(R.aw.take (R.nf-1)).length=_;simp;omega
 exact Ez h jB jB (by rw[ht];exact hI.fr (R.nf-1-1) jB) (by rw[ht];exact hI.busy (R.nf-1-1) jB)
def EO(h:cY p)(R:RS)(hI:da p R) :
  ai prog 23 [.agg (bV p),.pt 0 0 0 0] (R.e 41 [] [] []) (fun r l=>r=.bf []/\l=(R.settle p).e 41 [] [] []):=by
 refine aU func23 ntmps23 ?_;generalize hB:ids (R.e 41 [] [] [])=B;generalize hE:(R.settle p).e 41 [] [] []=E;refine S ?_
 (repeat' (first|refine aA fun K hK=>?_|refine ax ?_|(refine hK _ _ ?_;clear hK K)|(refine az ?_ ?_<;>intro hc<;>try exact jz)|refine cz 4 ?_|refine ay ?_|exact jI|(clear hK K)))
 refine fa (S:=RS) [(4,82)] (fun T=>da p T/\js p (T.left+1) T=R.settle p) (fun _=>[]) (fun T=>⟨B,T.e 41 [] [] [(4,.var 29 (bV p))]⟩) (fun T=>T.left) R ⟨hI,rfl⟩ (fb rfl cI) ?_;rintro T ⟨hT,hS⟩ Kr S8;have TB:=hT.ok.nf;have U':=hT.aw;have VO:=hT.ok.jp;unfold js at hS;by_cases e0:T.status=2
 ·rw[if_pos e0]at hS;refine S ?_
  (repeat' (first|refine aA fun K hK=>?_|refine ax ?_|(refine hK _ _ ?_;clear hK K)|(refine az ?_ ?_<;>intro hc<;>try exact jz)|refine ay ?_|exact jI|(clear hK K)))
  subst hE;rw[<-hS];exact gA (R':=T) (tl:=[(4,.var 29 (bV p))]) rfl hB [] (Im jB) rfl rfl rfl
 rw[if_neg e0]at hS;have h1:=hT.go e0;have hk:T.nf-1<T.aw.length:=jB;have T4:=hT.fr (T.nf-1) jB;have D':=T4.len h;have YN:=T4.f0;have hf1:=T4.f1;have Zn:T.ah=nth T.aw (T.nf-1):=rfl;by_cases e1:T.ah.path.length=0
 ·rw[if_pos e1]at hS;rw[Zn]at e1 hS;have hte:=Jj p (vZ (nth p.aa.aq (nth T.aw (T.nf-1)).fn.toNat).ret) T hT.ok h1 jB (hT.at_ h);obtain⟨g1,g2,_⟩:=hT.bq h1 (vZ (nth p.aa.aq (nth T.aw (T.nf-1)).fn.toNat).ret);have Ta:=Hb T p (vZ (nth p.aa.aq (nth T.aw (T.nf-1)).fn.toNat).ret);have hah:T.aw.length<=(T.bq p (vZ (nth p.aa.aq (nth T.aw (T.nf-1)).fn.toNat).ret)).aw.length:=by rw[Ta.1];exact Nat.le_refl _
  have hai:T.heap.length<=(T.bq p (vZ (nth p.aa.aq (nth T.aw (T.nf-1)).fn.toNat).ret)).heap.length:=by rw[Ta.2];exact Nat.le_refl _
  generalize T.bq p (vZ (nth p.aa.aq (nth T.aw (T.nf-1)).fn.toNat).ret)=T' at*;have T5:=Im (i:=4) (r:=.var 29 (bV p)) jB;refine S ?_
  (repeat' (first|refine aA fun K hK=>?_|refine ax ?_|(with_reducible refine gR 2 ?_);refine dE 2 (bo 0 12) mixed ?_|(with_reducible refine gR 4 ?_);refine dC 4 ([],[40],[]) [] (bo 0 14) mixed ?_|(refine hK _ _ ?_;clear hK K)|(refine az ?_ ?_<;>intro hc<;>try exact jz)|refine cq (DO _) ?_|(refine cE (R:=T) (R':=T') (pre:=[]) (post:=[]) (pre':=[]) (post':=[]) hte rfl hah hai rfl rfl T5 rfl jD ?_;refine S ?_)|(refine S8 _ _ (fc T' ⟨g1,?_⟩ g2 jn cI))|refine ay ?_|exact jI|(clear hK K)))
  exact(Ac _ _ _ g1 jB jB).trans hS
 ·rw[if_neg e1]at hS;have Vf:=T4.pl _ (lJ (f:=nth T.aw (T.nf-1)) fun e=>e1 (by rw[Zn,e];rfl));have TP:=Vf.in_ h YN hf1;have VP:=Vf.b0;have Ua:=Vf.a0;rw[Zn]at e1 hS;have e1':1<=(nth T.aw (T.nf-1)).path.length:=jB;have T5:=fun(r s:Row)=>u9 (i:=4) (j:=5) (r:=r) (s:=s) jB jB
  by_cases e2:(nth T.aw (T.nf-1)).pl.at_<(dz p (nth T.aw (T.nf-1)).pl.block).length
  ·rw[if_pos e2]at hS;unfold dz aH.pl at e2;unfold aH.pl at TP VP Ua;refine S ?_
   (repeat' (first|refine aA fun K hK=>?_|refine ax ?_|(with_reducible refine gR 2 ?_);refine dE 2 (bo 0 12) mixed ?_|(with_reducible refine gR 5 ?_);refine dE 5 (bo 0 14) mixed ?_|(with_reducible refine gR 6 ?_);refine dE 6 (bo 0 12) mixed ?_|(refine hK _ _ ?_;clear hK K)|(refine az ?_ ?_<;>intro hc<;>try exact jz)|refine cM 5 ?_|refine ay ?_|exact jI|(clear hK K)))
   subst hE;rw[<-hS];exact gA (R':=T) (tl:=[(4,.var 29 (bV p)),(5,.var 94 (iU (nth (nth T.aw (T.nf-1)).path ((nth T.aw (T.nf-1)).path.length-1))))]) rfl hB [] (T5 _ _) rfl rfl rfl
  ·rw[if_neg e2]at hS;obtain⟨g1,g2⟩:=hT.cut h1 (by rw[Zn];exact e1);unfold dz aH.pl at e2;unfold aH.pl at TP VP Ua;refine S ?_
   (repeat' (first|refine aA fun K hK=>?_|refine ax ?_|(with_reducible refine gR 2 ?_);refine dE 2 (bo 0 12) mixed ?_|(with_reducible refine gR 5 ?_);refine dE 5 (bo 0 14) mixed ?_|(with_reducible refine gR 6 ?_);refine dE 6 (bo 0 12) mixed ?_|(with_reducible refine gR 7 ?_);refine dE 7 (bo 0 15) mixed ?_|(refine hK _ _ ?_;clear hK K)|(refine az ?_ ?_<;>intro hc<;>try exact jz)|refine cM 5 ?_|refine ay ?_|exact jI|(clear hK K)))
   all_goals
    refine S8 _ _ (Hx (R0:=R) (R':=T.cut) T.cut [(4,.var 29 (bV p))] 5 (.var 94 (iU (nth (nth T.aw (T.nf-1)).path ((nth T.aw (T.nf-1)).path.length-1)))) ⟨g1,?_⟩ (by show T.cut.left<T.left;omega)
     (congrArg (Hp.mk B) (RS.wT (tl:=[(4,.var 29 (bV p)),(5,.var 94 (iU (nth (nth T.aw (T.nf-1)).path ((nth T.aw (T.nf-1)).path.length-1))))]) hk VO e1 rfl fun j=>rfl)) hB rfl jB rfl rfl rfl (fun i r hi=>?_) (by simp[ids]))
    ·exact(Ac _ _ _ g1 jB jB).trans hS
    ·simp only[aD]at hi;split at hi
     ·cases hi;simp[Row.cells,go_sem]
     ·cases hi
variable{t:Int}
def xA(h:1<=t/\t<=4):jS (vZ t)=true:=by have:t=1\/t=2\/t=3\/t=4:=jB;rcases this with rfl|rfl|rfl|rfl<;>decide
def NG(slots:List ak)(k:Int)(h:1<=t/\t<=4):(di slots k t).ty=t/\jS (di slots k t)=true:=by
 unfold di;split
 ·exact⟨rfl,xA h⟩
 split
 ·rename_i hh;exact⟨hh.2,hh.1⟩
 ·exact⟨rfl,xA h⟩
def Ri{v:ak}(hm:jS v=true):v.s.size<=40:=by
 unfold jS at hm;split at hm
 ·have:v.s=sE:=by simpa using hm
  rw[this];decide
 split at hm
 ·simp only[Bool.and_eq_true,decide_eq_true_eq]at hm;rw[hm.1];decide
 split at hm
 ·simp only[Bool.and_eq_true,decide_eq_true_eq]at hm;omega
 split at hm
 ·simp only[Bool.and_eq_true,decide_eq_true_eq]at hm;rw[hm.1];decide
 ·cases hm
def Told(r:ak×Int)(T:Int):Prop:=(r.2=0/\r.1.ty=T/\jS r.1=true)\/((r.2=1\/r.2=2\/r.2=6)/\r.1=v0)
theorem Told.size{r:ak×Int}{T:Int}(h:Told r T):r.1.s.size<=40:=by
 rcases h with⟨_,_,h⟩|⟨_,h⟩
 ·exact Ri h
 ·rw[h];decide
def tS(n:Int):Told (vI n,0) 1:=.inl ⟨rfl,rfl,rfl⟩
def AA(b:Bool):Told (vB b,0) 2:=.inl ⟨rfl,rfl,by cases b<;>decide⟩
variable{s:SK}
def FP(h:s.size<=40):Told (vT s,0) 3:=.inl ⟨rfl,rfl,by show jS ⟨3,0,s⟩=true;unfold jS;simp only;rw[if_neg jC,if_neg jC,if_pos trivial];simp;omega⟩
variable{T:Int}
def A0(h:t=1\/t=2\/t=6):Told (v0,t) T:=.inr ⟨h,rfl⟩
def pV{c:Prop}[Decidable c]{x y:ak×Int}(h:c->Told x T)(k:¬c->Told y T):Told (if c then x else y) T:=by
 split
 ·exact h (by assumption)
 ·exact k (by assumption)
def Qa(hs:s∈uj){a b:ak}(h:im s a.ty b.ty≠0):Told (jq s a b) (im s a.ty b.ty):=by
 have he:a.ty=b.ty:=by
  unfold im at h;split at h
  ·exact(h rfl).elim
  ·omega
 have h1:1<=a.ty/\a.ty<=4:=by
  unfold im at h;rw[jN]at h;split at h
  ·split at h<;>first|omega|exact(h rfl).elim
  split at h
  ·split at h<;>first|omega|exact(h rfl).elim
  split at h
  ·split at h<;>first|omega|exact(h rfl).elim
  split at h
  ·split at h<;>first|omega|exact(h rfl).elim
  ·split at h<;>first|omega|exact(h rfl).elim
 unfold jq;rw[jN];rcases(by omega:a.ty=1\/a.ty=2\/a.ty=3\/a.ty=4)with ta|ta|ta|ta<;>rw[<-he,ta]at h ⊢<;>unfold im at h ⊢<;>simp only[uj,List.mem_cons,List.not_mem_nil,or_false]at hs<;>rcases hs with rfl|rfl|rfl|rfl|rfl|rfl|rfl|rfl|rfl|rfl|rfl
 all_goals first|(exfalso;revert h;decide)|(simp(decide:=true) only[if_true,if_false,qA])
 all_goals first|exact tS _|exact AA _|exact pV (fun _=>A0 jB) (fun _=>tS _)|exact pV (fun _=>A0 jB) (fun _=>FP (by rw[ByteArray.size_append];omega))
variable{a:Int}
def J6{b:Int}(hs:s=(⟨#[124,124]⟩:SK)\/s=(⟨#[38,38]⟩:SK))(h:im s a b≠0):im s a b=2/\a=2/\b=2:=by
 unfold im at h ⊢;by_cases e:a=b
 ·rw[if_neg (fun h=>h e),if_pos hs]at h ⊢;by_cases e2:a=2
  ·rw[if_pos e2];omega
  ·rw[if_neg e2]at h;exact(h rfl).elim
 ·rw[if_pos e]at h;exact(h rfl).elim
def wg{r:ak×Int}{U:Int}(h:Told r T)(hr:r.2≠0):Told (v0,r.2) U:=by
 rcases h with⟨h,_⟩|⟨h,_⟩
 ·exact(hr h).elim
 ·exact .inr ⟨h,rfl⟩
def qY{r:ak×Int}(h:Told r T)(hr:r.2=0):r.1.ty=T/\jS r.1=true:=by
 rcases h with⟨_,h⟩|⟨h,_⟩
 ·exact h
 ·omega
def R5{v:ak}(h:v.ty=1):Told (jX (⟨#[45]⟩:SK) v,0) 1:=by unfold jX;rw[if_pos ⟨rfl,h⟩];exact tS _
def Jv{v:ak}(h:v.ty=2):Told (jX (⟨#[33]⟩:SK) v,0) 2:=by unfold jX;rw[if_neg (by rintro⟨h,_⟩;revert h;decide),if_pos ⟨rfl,h⟩];exact AA _
theorem rX{p:ab}(h:qe p)(slots:List ak)(heap:SH):∀(n:Nat) (a:Int),0<=a->a<p.aa.nodes.length->a.toNat<n->bT (bA p.aa.nodes a)->Told (de p slots heap n a) (nth p.types a.toNat)
 |0,a,_,_,hn,_=>by omega
 |n+1,a,h0,h1,hn,hk=>by
  have ih:=rX h slots heap n;have sh:=(h.aa.shape a.toNat jB);have ty:=h.ty a.toNat jB jB;have aE:∀i,i<(nth p.aa.nodes a.toNat).l.length->bT (bA p.aa.nodes (nth (nth p.aa.nodes a.toNat).l i))->Told (de p slots heap n (nth (nth p.aa.nodes a.toNat).l i)) (nth p.types (nth (nth p.aa.nodes a.toNat).l i).toNat):=fun i hi he=>by have:=sh.2.1 _ (er hi);exact ih _ jB jB jB he
  have V9:(nth p.aa.nodes a.toNat).kind=1\/(nth p.aa.nodes a.toNat).kind=2\/(nth p.aa.nodes a.toNat).kind=3\/(nth p.aa.nodes a.toNat).kind=4\/(nth p.aa.nodes a.toNat).kind=5\/(nth p.aa.nodes a.toNat).kind=6\/(nth p.aa.nodes a.toNat).kind=7\/(nth p.aa.nodes a.toNat).kind=8\/(nth p.aa.nodes a.toNat).kind=9:=by have:bT (nth p.aa.nodes a.toNat).kind:=hk;unfold bT at this;omega
  unfold de;simp only;rcases V9 with k|k|k|k|k|k|k|k|k
  ·rw[if_pos k,ty.int k];exact tS _
  ·rw[jN,if_pos k,ty.bool k];exact AA _
  ·rw[jN,jN,if_pos k,ty.text k];exact FP (by have:=sh.1.text k;omega)
  ·rw[jN,jN,jN,if_pos k];have:=NG slots (nth p.slots a.toNat) (ty.var k);exact .inl ⟨rfl,this⟩
  ·obtain⟨x,hl,hx⟩:=sh.1.one jB;have Tg:nth (nth p.aa.nodes a.toNat).l 0=x:=by rw[hl];rfl
   have kx:=aE 0 (by rw[hl];simp) (by rw[Tg];exact hx);have t5:=ty.index k;rw[jN,jN,jN,jN];refine pV (fun hh=>wg kx hh) (fun hh=>?_);rw[if_pos k,t5.1];exact pV (fun _=>A0 jB) (fun _=>tS _)
  ·obtain⟨x,hl,hx⟩:=sh.1.one jB;have Tg:nth (nth p.aa.nodes a.toNat).l 0=x:=by rw[hl];rfl
   have kx:=aE 0 (by rw[hl];simp) (by rw[Tg];exact hx);have t5:=ty.len k;rw[jN,jN,jN,jN];refine pV (fun hh=>wg kx hh) (fun hh=>?_);rw[jN,jN,if_pos k,t5.1];exact pV (fun _=>tS _) (fun _=>tS _)
  ·obtain⟨x,hl,hx⟩:=sh.1.one jB;have Tg:nth (nth p.aa.nodes a.toNat).l 0=x:=by rw[hl];rfl
   have kx:=aE 0 (by rw[hl];simp) (by rw[Tg];exact hx);have t5:=ty.neg k;rw[jN,jN,jN,jN];refine pV (fun hh=>wg kx hh) (fun hh=>?_);rw[jN,jN,jN,if_pos k,t5.1];exact R5 ((qY kx jB).1.trans t5.2)
  ·obtain⟨x,hl,hx⟩:=sh.1.one jB;have Tg:nth (nth p.aa.nodes a.toNat).l 0=x:=by rw[hl];rfl
   have kx:=aE 0 (by rw[hl];simp) (by rw[Tg];exact hx);have t5:=ty.not k;rw[jN,jN,jN,jN];refine pV (fun hh=>wg kx hh) (fun hh=>?_);rw[jN,jN,jN,jN,t5.1];exact Jv ((qY kx jB).1.trans t5.2)
  ·obtain⟨x,y,hl,hx,hy⟩:=sh.1.two jB;have Tg:nth (nth p.aa.nodes a.toNat).l 0=x:=by rw[hl];rfl
   have XC:nth (nth p.aa.nodes a.toNat).l 1=y:=by rw[hl];rfl
   have kx:=aE 0 (by rw[hl];simp) (by rw[Tg];exact hx);have ky:=aE 1 (by rw[hl];simp) (by rw[XC];exact hy);obtain⟨t5,t6⟩:=ty.zf k;rw[jN,jN,jN,jN];refine pV (fun hh=>wg kx hh) (fun hh=>?_);have ox:=qY kx jB;rw[jN,if_pos k];refine pV (fun he=>?_) (fun _=>?_)
   ·refine .inl ⟨rfl,?_,ox.2⟩;show(de p slots heap n _).1.ty=_;rw[ox.1];rw[t5]at t6 ⊢;have hs:(nth p.aa.nodes a.toNat).name=(⟨#[124,124]⟩:SK)\/(nth p.aa.nodes a.toNat).name=(⟨#[38,38]⟩:SK):=by rcases he with he|he;exact .inl he.1;exact .inr he.1
    obtain⟨g1,g2,g3⟩:=J6 hs t6;rw[g1,g2]
   refine pV (fun hh2=>wg ky hh2) (fun hh2=>?_);have oy:=qY ky jB;rw[t5]at t6 ⊢;rw[<-ox.1,<-oy.1]at t6 ⊢;exact Qa (sh.1.sign k) t6
theorem At{p:ab}(h:aL p.aa)(slots:List ak)(heap:SH):∀(n m:Nat) (a:Int),0<=a->a<p.aa.nodes.length->a.toNat<n->a.toNat<m->bT (bA p.aa.nodes a)->de p slots heap n a=de p slots heap m a
 |0,m,a,_,_,hn,_,_=>by omega
 |n+1,0,a,_,_,_,hm,_=>jB
 |n+1,m+1,a,h0,h1,hn,hm,hk=>by
  have sh:=(h.shape a.toNat jB);have aE:∀i,i<(nth p.aa.nodes a.toNat).l.length->bT (bA p.aa.nodes (nth (nth p.aa.nodes a.toNat).l i))->de p slots heap n (nth (nth p.aa.nodes a.toNat).l i)=de p slots heap m (nth (nth p.aa.nodes a.toNat).l i):=fun i hi he=>by have:=sh.2.1 _ (er hi);exact At h slots heap n m _ jB jB jB jB he
  have V9:(nth p.aa.nodes a.toNat).kind=1\/(nth p.aa.nodes a.toNat).kind=2\/(nth p.aa.nodes a.toNat).kind=3\/(nth p.aa.nodes a.toNat).kind=4\/((nth p.aa.nodes a.toNat).kind=5\/(nth p.aa.nodes a.toNat).kind=6\/(nth p.aa.nodes a.toNat).kind=7\/(nth p.aa.nodes a.toNat).kind=8)\/(nth p.aa.nodes a.toNat).kind=9:=by have:bT (nth p.aa.nodes a.toNat).kind:=hk;unfold bT at this;omega
  unfold de;simp only;rcases V9 with k|k|k|k|k|k
  ·rw[if_pos k,if_pos k]
  ·rw[jN,if_pos k,jN,if_pos k]
  ·rw[jN,jN,if_pos k,jN,jN,if_pos k]
  ·rw[jN,jN,jN,if_pos k,jN,jN,jN,if_pos k]
  ·obtain⟨x,hl,hx⟩:=sh.1.one jB;have Tg:nth (nth p.aa.nodes a.toNat).l 0=x:=by rw[hl];rfl
   rw[aE 0 (by rw[hl];simp) (by rw[Tg];exact hx)];have h9:¬(nth p.aa.nodes a.toNat).kind=9:=jB;simp only[if_neg h9]
  ·obtain⟨x,y,hl,hx,hy⟩:=sh.1.two jB;have Tg:nth (nth p.aa.nodes a.toNat).l 0=x:=by rw[hl];rfl
   have XC:nth (nth p.aa.nodes a.toNat).l 1=y:=by rw[hl];rfl
   rw[aE 0 (by rw[hl];simp) (by rw[Tg];exact hx),aE 1 (by rw[hl];simp) (by rw[XC];exact hy)]
theorem da.aS{p:ab}{R:RS}(h:da p R)(h1:1<=R.nf){f:aH}(hf:dF p f):da p (R.aS (R.nf-1) f):=by
 have TB:=h.ok.nf;have hu:=fun k=>RS.aY (R:=R) (k:=R.nf-1) jB f k
 have hl:(R.aS (R.nf-1) f).aw.length=R.aw.length:=RS.aO.symm;refine⟨⟨by rw[hl];exact TB,by rw[hl];exact h.ok.jp⟩,by rw[hl];exact h.aw,fun k hk=>?_,fun k hk=>?_,h.go⟩
 ·rw[hu];split
  ·exact hf
  ·exact h.fr k hk
 ·have hk:k+1<R.nf:=hk;rw[hu,jN];exact h.busy k hk
theorem da.on{p:ab}{R:RS}(h:da p R)(h1:1<=R.nf)(hb:mC p R.ah):da p R.on:=h.aS h1 (zj (h.fr (R.nf-1) jB) hb)
variable{α:Type}
def zO[Inhabited α](l:List α)(x:α)(k:Nat)(h:k<=l.length):nth (l++[x]) k=if k=l.length then x else nth l k:=by
 by_cases e:k=l.length
 ·subst e;rw[if_pos rfl,mn]
 ·rw[if_neg e,lM jB]
theorem da.push{p:ab}{R:RS}(h:da p R)(UA:R.nf=R.aw.length)(h8:R.nf<8)(hb:1<=R.nf->mC p R.ah){f:aH}(hf:dF p f):da p (R.push f):=by
 have hu:∀k,k<=R.nf->nth (R.push f).aw k=if k=R.nf then f else nth R.aw k:=fun k hk=>by show nth (R.aw++[f]) k=_;rw[zO _ _ _ jB,UA]
 have VO:=h.ok.jp;refine⟨⟨by show R.nf+1<=(R.aw++[f]).length;simp;omega,by show(R.jp++[[]]).length=(R.aw++[f]).length;simp;omega⟩,by show(R.aw++[f]).length<=8;simp;omega,fun k hk=>?_,fun k hk=>?_,fun _=>by show 1<=R.nf+1;omega⟩
 ·have hk:k<R.nf+1:=hk;rw[hu k jB];split
  ·exact hf
  ·exact h.fr k jB
 ·have hk:k+1<R.nf+1:=hk;rw[hu k jB,jN];by_cases e:k+1=R.nf
  ·have:=hb jB;unfold RS.ah at this;rwa [show R.nf-1=k from jB]at this
  ·exact h.busy k jB
def G3{f:aH}(h:dF p f){b:Int}(hp:kX p f.fn ⟨b,0⟩)(hd:∀x∈f.path,b<x.block):dF p { f with path:=f.path++[⟨b,0⟩] }:=by
 refine⟨h.f0,h.f1,h.sl,fun x hx=>?_,?_⟩
 ·rcases List.mem_append.1 hx with hx|hx
  ·exact h.pl x hx
  ·have:x=⟨b,0⟩:=by simpa using hx
   subst this;exact hp
 ·show List.Pairwise _ ((f.path++[(⟨b,0⟩:bk)]).map fun x:bk=>x.block);rw[List.map_append,List.pairwise_append];refine⟨h.dec,jE,fun x hx y hy=>?_⟩;obtain⟨z,hz,rfl⟩:=List.mem_map.1 hx;have:y=b:=by simpa using hy
  subst this;exact hd z hz
def dF.last{f:aH}(h:dF p f)(Tb:f.path≠[]):∀x∈f.path,f.pl.block<=x.block:=fun x hx=>by
 obtain⟨i,hi,rfl⟩:=List.getElem_of_mem hx;have hl:=List.length_pos_iff.2 Tb;unfold aH.pl;by_cases e:i=f.path.length-1
 ·subst e;rw[dV jB];exact Int.le_refl _
 ·have:=List.pairwise_iff_getElem.1 (List.pairwise_map.1 h.dec) i (f.path.length-1) hi jB jB;rw[dV jB];omega
def yH(h:cY p){k:Nat}(hk:k<p.aa.aq.length){args:List ak}(ha:args.length=(nth p.aa.aq k).params.length):dF p (gg p k args)/\(nth p.size k).toNat=(gg p k args).slots.length/\0<=nth p.size k/\nth p.size k<=24:=by
 have hs:=h.aq k hk;have h1:=hs.vz;have h2:=hs.hi;have hb:=h.ok.aa.body (nth p.aa.aq k) (er hk);have hn:=pw h.ok.aa hk;have hl:(gg p k args).slots.length=(nth p.size k).toNat:=by show(args++List.replicate _ v0).length=_;rw[Int.toNat_natCast]<;>(try simp)<;>omega
 have O':=hs.chain.le;refine⟨⟨by show(0:Int)<=(k:Int);omega,by show(k:Int)<_;omega,?_,fun x hx=>?_,by simp[gg]⟩,hl.symm,jB,h2⟩
 ·rw[hl];show _=nth p.size (k:Int).toNat;rw[Int.toNat_natCast];omega
 ·have:x=⟨(nth p.aa.aq k).body,0⟩:=by simpa[gg]using hx
  subst this;show kX p (k:Int) _;refine⟨hn.1,?_,?_,hb,Int.le_refl _,by show(0:Int)<=_;omega⟩
  ·rw[Int.toNat_natCast];exact O'
  ·rw[Int.toNat_natCast];exact Nat.le_refl _
theorem Dc{α:Type}[Inhabited α](f:α->SK)(nm:SK):∀(l:List α) (i:Int),(∃v∈l,f v=nm)->i<=gx f nm l i/\gx f nm l i<i+l.length/\f (nth l (gx f nm l i-i).toNat)=nm
 |[],_,h=>by obtain⟨v,hv,_⟩:=h;simp at hv
 |v::l,i,h=>by
  unfold gx;by_cases hv:f v=nm
  ·rw[if_pos hv];refine⟨Int.le_refl _,by simp;omega,?_⟩;rw[show(i-i).toNat=0 from jB];exact hv
  ·rw[if_neg hv];obtain⟨u,hu,hh⟩:=h;have hu:u∈l:=by
    rcases List.mem_cons.1 hu with rfl|hu
    ·exact(hv hh).elim
    ·exact hu
   obtain⟨a,b,c⟩:=Dc f nm l (i+1) ⟨u,hu,hh⟩;refine⟨jB,by simp;omega,?_⟩;rw[show(gx f nm l (i+1)-i).toNat=(gx f nm l (i+1)-(i+1)).toNat+1 from jB];exact c
theorem Hu{α:Type}(f:α->SK)(nm:SK):∀(l:List α) (i k:Int),ji f nm l i k≠k->∃v∈l,f v=nm
 |[],_,_,h=>(h rfl).elim
 |v::l,i,k,h=>by
  unfold ji at h;by_cases hv:f v=nm
  ·exact⟨v,jE,hv⟩
  ·rw[if_neg hv]at h;obtain⟨u,hu,hh⟩:=Hu f nm l _ _ h;exact⟨u,by simp[hu],hh⟩
structure Callee(p:ab)(a:Int)(k:Nat):Prop where
 lt:k<p.aa.aq.length
 at_:gx bg.name (ao p a).name p.aa.aq 0=k
 last:ji bg.name (ao p a).name p.aa.aq 0 (-1)=k
 name:(nth p.aa.aq k).name=(ao p a).name
 args:(ao p a).l.length=(nth p.aa.aq k).params.length
 yq:(ao p a).l.length<=3
def callee(h:cY p)(h0:a.toNat<p.aa.nodes.length)(hk:(ao p a).kind=21):∃k,Callee p a k:=by
 obtain⟨h1,h2⟩:=(h.ok.ty a.toNat jB h0).call hk;have hx:=Hu bg.name (ao p a).name p.aa.aq 0 (-1) (by show ji bg.name (nth p.aa.nodes a.toNat).name p.aa.aq 0 (-1)≠-1;omega);have e:=GW bg.name (ao p a).name p.aa.aq 0 (-1) (fun a b=>h.names.one a b) hx;obtain⟨f1,f2,f3⟩:=Dc bg.name (ao p a).name p.aa.aq 0 hx;refine⟨(gx bg.name (ao p a).name p.aa.aq 0).toNat,jB,jB,jB,?_,?_,?_⟩
 ·rwa [Int.sub_zero]at f3
 ·unfold ao at e ⊢;rw[<-e];exact h2
 ·have hm:=(h.ok.aa.fn _ (er (l:=p.aa.aq) (k:=(gx bg.name (ao p a).name p.aa.aq 0).toNat) jB)).2;unfold ao at e hm ⊢;rw[<-e]at hm;rw[h2];exact hm
structure bt(p:ab)(R:RS):Prop where
 inv:da p R
 full:R.nf=R.aw.length
 one:1<=R.nf
 aj:mC p R.ah
 jp:∀k,k<R.aw.length->nth R.jp k=[]
 cells:fF R.heap<=40
 outs:R.aC.length<=24
 gV:0<=R.in_
 hZ:R.in_<=1000
def bt.ma(h:bt p R):R.st.aj=R.ah:=RS.aj h.inv.ok h.one
def bt.cf(hs:cY p)(h:bt p R):pT p R.st:=by
 have h1:=h.one;have h2:=h.full;have h3:=h.inv.aw;have hl:R.st.ap.length=R.nf:=by show(R.aw.take R.nf).length=_;simp;omega
 exact Ez hs jB jB (by rw[h.ma];exact h.inv.fr _ jB) (by rw[h.ma];exact h.aj)
def bt.stmt(hs:cY p)(h:bt p R):0<=bB p R.st/\(bB p R.st).toNat<p.aa.nodes.length/\eo (bA p.aa.nodes (bB p R.st))/\oK p.aa R.ah.fn.toNat<=(bB p R.st).toNat/\(bB p R.st).toNat<R.ah.pl.block.toNat/\R.ah.pl.block.toNat<=(nth p.aa.aq R.ah.fn.toNat).body.toNat:=by
 have hf:=h.inv.fr (R.nf-1) (by have:=h.one;omega);have hf:dF p R.ah:=hf;have hx:=hf.pl _ (lJ h.aj.1);have hb:=h.aj.2;have Ua:=hx.a0;have VP:=hx.b0;have hi:=hx.in_ hs hf.f0 hf.f1;have hm:bB p R.st∈dz p R.ah.pl.block:=by unfold bB;rw[h.ma];exact er jB
 obtain⟨k0,k1,k2,k3⟩:=hx.aE hs hf.f0 hf.f1 hm;exact⟨k0,jB,k3,k2,k1,hx.hi⟩
def Fj(h:cY p)(R:RS)(h0:0<=a)(h1:a.toNat<p.aa.nodes.length)(hk:bT (bA p.aa.nodes a)):Told (R.val p a) (nth p.types a.toNat):=rX h.ok R.ah.slots R.heap _ a h0 jB jB hk
theorem Ip{p:ab}(R:RS):∀(l:SI) (a:List ak),(R.args p l a).2=0->(R.args p l a).1.length=a.length+l.length
 |[],a,_=>by simp[RS.args]
 |x::l,a,h=>by
  unfold RS.args at h ⊢;split
  ·rename_i e;rw[if_pos e]at h;exact(e h).elim
  ·rename_i e;rw[if_neg e]at h;rw[Ip R l _ h];simp;omega
def B9(l:SI):iR 0 l=l.length:=by simp[iR]
theorem mz:∀(h:SH) (n:Int),h.foldl iR n=n+h.foldl iR (0:Int)
 |[],n=>by simp[List.foldl]
 |x::h,n=>by simp only[List.foldl_cons];rw[mz h (iR n x),mz h (iR 0 x)];unfold iR;omega
def D9(h:SH)(x:SI):fF (h++[x])=fF h+x.length+1:=by unfold fF;rw[List.foldl_append,List.foldl_cons,List.foldl_nil,List.length_append,mz h _,mz h (h.length:Int)];unfold iR;simp;omega
theorem xZ:∀(h:SH),0<=h.foldl iR (0:Int)
 |[]=>by simp
 |x::h=>by simp only[List.foldl_cons];rw[mz,B9];have:=xZ h;omega
def nz(h:SH):(h.length:Int)<=fF h:=by unfold fF;rw[mz];have:=xZ h;omega
theorem HP:∀(h:SH) (i:Nat) (x:SI),i<h.length->x.length=(nth h i).length->(h.set i x).foldl iR (0:Int)=h.foldl iR 0
 |[],i,x,hi,_=>by simp at hi
 |y::h,0,x,_,e=>by have e:x.length=y.length:=e;simp only[List.set_cons_zero,List.foldl_cons,iR,e]
 |y::h,i+1,x,hi,e=>by simp only[List.set_cons_succ,List.foldl_cons];rw[mz (h.set i x) (iR 0 y),mz h (iR 0 y),HP h i x (by simpa using hi) e]
def Cq(h:SH)(i:Nat)(x:SI)(hi:i<h.length)(e:x.length=(nth h i).length):fF (h.set i x)=fF h:=by unfold fF;rw[List.length_set,mz (h.set i x) (h.length:Int),mz h (h.length:Int),HP h i x hi e]
theorem ER:∀(h:SH) (i:Nat),i<h.length->((nth h i).length:Int)<=h.foldl iR 0
 |[],i,hi=>by simp at hi
 |y::h,0,_=>by simp only[List.foldl_cons];rw[mz,B9];have:=xZ h;show(y.length:Int)<=_;omega
 |y::h,i+1,hi=>by simp only[List.foldl_cons];rw[mz,B9];have:=ER h i (by simpa using hi);show((nth h i).length:Int)<=_;omega
def zr(h:SH)(i:Nat)(hi:i<h.length):((nth h i).length:Int)+h.length<=fF h:=by unfold fF;rw[mz];have:=ER h i hi;omega
structure dN(p:ab)(R:RS):Prop where
 inv:da p R
 cells:fF R.heap<=40
 outs:R.aC.length<=24
 gV:0<=R.in_
 hZ:R.in_<=1000
def dN.of{R':RS}(h:bt p R)(hi:da p R')(k:Kept R R'):dN p R':=⟨hi,by rw[k.heap];exact h.cells,by rw[k.aC];exact h.outs,by rw[k.in_];exact h.gV,by rw[k.in_];exact h.hZ⟩
theorem bt.with{p:ab}{R:RS}(h:bt p R){hp:SH}{i:Int}{o:List SK}(h1:fF hp<=40)(h2:0<=i/\i<=1000)(h3:o.length<=24):bt p { R with heap:=hp,in_:=i,aC:=o }:=
 ⟨⟨⟨h.inv.ok.nf,h.inv.ok.jp⟩,h.inv.aw,h.inv.fr,h.inv.busy,h.inv.go⟩,h.full,h.one,h.aj,h.jp,h1,h3,h2.1,h2.2⟩
theorem bt.store{p:ab}{R:RS}(h:bt p R)(node:Int)(v:ak):dN p (R.store p node v):=by
 have h1:=h.one;have hf:=GS (h.inv.fr (R.nf-1) jB) (nth p.slots node.toNat).toNat v;have hi:da p (R.dK p node v):=h.inv.aS h1 hf;have ht:(R.dK p node v).ah=_:=RS.gu h.inv.ok h1 _;have hb:mC p (R.dK p node v).ah:=by rw[ht];exact h.aj
 exact dN.of h (hi.on h1 hb) ⟨rfl,rfl,rfl,rfl,rfl⟩
theorem bt.on{p:ab}{R:RS}(h:bt p R):dN p R.on:=dN.of h (h.inv.on h.one h.aj) ⟨rfl,rfl,rfl,rfl,rfl⟩
theorem bt.block{p:ab}(hs:cY p){R:RS}(h:bt p R){b:Int}(hb:b∈(ao p (bB p R.st)).l)(hk:bA p.aa.nodes b=18):kX p R.ah.fn ⟨b,0⟩/\b<R.ah.pl.block/\0<=b/\b.toNat<p.aa.nodes.length:=by
 obtain⟨s0,s1,s2,s3,s4,s5⟩:=h.stmt hs;have sh:=hs.ok.aa.shape _ s1;have Ws:=sh.2.1 b hb;have hf:dF p R.ah:=h.inv.fr (R.nf-1) (by have:=h.one;omega);have SU:oK p.aa R.ah.fn.toNat<=b.toNat:=by have hc:=(hs.aq R.ah.fn.toNat (by have:=hf.f0;have:=hf.f1;omega)).chain;exact hc.closed _ s3 jB b hb
 exact⟨⟨Ws.1,SU,by show b.toNat<=_;omega,hk,Int.le_refl _,by show(0:Int)<=_;omega⟩,jB,Ws.1,jB⟩
theorem bt.aX{p:ab}(hs:cY p){R R':RS}(h:bt p R){b:Int}(hb:b∈(ao p (bB p R.st)).l)(hk:bA p.aa.nodes b=18)(hR:R'=R\/R'=R.on):dN p (R'.aX b):=by
 have h1:=h.one;obtain⟨b1,b2,b3,b4⟩:=h.block hs hb hk;have hf:dF p R.ah:=h.inv.fr (R.nf-1) jB;rcases hR with rfl|rfl
 ·exact dN.of h (h.inv.aS h1 (G3 hf b1 fun x hx=>by have:=hf.last h.aj.1 x hx;omega)) ⟨rfl,rfl,rfl,rfl,rfl⟩
 ·have hi:=h.inv.on h1 h.aj;have ht:R.on.ah=fN R.ah:=RS.gu h.inv.ok h1 _;have WW:=zj hf h.aj;have hl:∀x∈(fN R.ah).path,b<x.block:=fun x hx=>by
   rcases tV hx with rfl|hx
   ·exact b2
   ·have:=hf.last h.aj.1 x hx;omega
  refine dN.of h (hi.aS h1 (f:={ R.on.ah with path:=R.on.ah.path++[⟨b,0⟩] }) ?_) ⟨rfl,rfl,rfl,rfl,rfl⟩;rw[ht];exact G3 WW b1 hl
theorem bt.call{p:ab}(hs:cY p){R:RS}(h:bt p R){a:Int}(h0:a.toNat<p.aa.nodes.length)(hk:(ao p a).kind=21)(he:(R.call p a).2=0):dN p (R.call p a).1:=by
 obtain⟨k,hc⟩:=callee hs h0 hk;unfold RS.call at he ⊢;simp only at he ⊢;split at he
 ·rename_i e;exact(e he).elim
 rename_i e;rw[if_neg e];split at he
 ·exact((by decide:¬((3:Int)=0)) he).elim
 rename_i e8;rw[if_neg e8,hc.at_];have hl:=Ip R _ [] (Classical.not_not.1 e);exact dN.of h (h.inv.push h.full jB (fun _=>h.aj) (yH hs hc.lt (by rw[hl];simpa using hc.args)).1) ⟨rfl,rfl,rfl,rfl,rfl⟩
theorem bt.fresh{p:ab}{R:RS}(h:bt p R)(x:Int)(he:(R.fresh p x).2.2=0):bt p (R.fresh p x).1:=by
 unfold RS.fresh at he ⊢;simp only at he ⊢;split at he
 ·rename_i e;exact(e he).elim
 rename_i e;rw[if_neg e];split at he
 ·exact((by decide:¬((7:Int)=0)) he).elim
 rename_i e1;rw[if_neg e1];split at he
 ·exact((by decide:¬((4:Int)=0)) he).elim
 rename_i e2;rw[if_neg e2];refine h.with (hp:=R.heap++[List.replicate _ 0]) (i:=R.in_) (o:=R.aC) ?_ ⟨h.gV,h.hZ⟩ h.outs
 rw[D9];simp;omega
theorem bt.bO{p:ab}(hs:cY p){R:RS}(h:bt p R){inp:SI}(hn:inp.length<=1000)(hw:¬kn p R.st (bB p R.st) inp)(he:(R.bO p (bB p R.st) inp).2=0):dN p (R.bO p (bB p R.st) inp).1:=by
 obtain⟨s0,s1,s2,_⟩:=h.stmt hs;have sh:=(hs.ok.aa.shape _ s1);generalize u':bB p R.st=node at*;have aE:∀i,i<(ao p node).l.length->0<=nth (ao p node).l i/\(nth (ao p node).l i).toNat<p.aa.nodes.length:=fun i hi=>by have:=sh.2.1 _ (er (l:=(ao p node).l) hi);omega
 have Wt:∀b,b∈(ao p node).l->bA p.aa.nodes b=18->∀R',(R'=R\/R'=R.on)->dN p (R'.aX b):=fun b hb hk R' hR=>h.aX hs (by rw[u'];exact hb) hk hR
 unfold RS.bO at he ⊢;simp only at he ⊢;split at he
 ·rename_i e;rw[if_pos e];obtain⟨a,ha,hr⟩:=sh.1.right e;have S6:(ao p node).l=[a]:=ha;have Ua:=aE 0 (by rw[S6];simp);have hx:nth (ao p node).l 0=a:=by rw[S6];rfl
  rw[hx]at Ua;unfold RS.right at he ⊢;simp only[hx]at he ⊢;split at he
  ·rename_i e1;rw[if_pos e1];exact h.call hs Ua.2 e1 he
  rename_i e1;rw[if_neg e1];split at he
  ·rename_i e2;rw[if_pos e2];have TP:¬((inp.length:Int)<=R.in_):=fun Ta=>hw ⟨e,by rw[hx];exact e2,Ta⟩
   have hd:bt p { R with in_:=R.in_+1 }:=h.with (hp:=R.heap) (i:=R.in_+1) (o:=R.aC) h.cells ⟨by have:=h.gV;omega,jB⟩ h.outs
   exact hd.store node _
  rename_i e2;rw[if_neg e2];split at he
  ·rename_i e3;rw[if_pos e3];split at he
   ·rename_i e4;rw[if_pos e4];exact(h.fresh a e4).store node _
   ·rename_i e4;exact(e4 he).elim
  rename_i e3;rw[if_neg e3];split at he
  ·rename_i e4;rw[if_pos e4];exact h.store node _
  ·rename_i e4;exact(e4 he).elim
 rename_i e;rw[if_neg e];split at he
 ·rename_i e1;rw[if_pos e1];obtain⟨a,ha,hr⟩:=sh.1.nN e1;have S6:(ao p node).l=[a]:=ha;have Ua:=aE 0 (by rw[S6];simp);have hx:nth (ao p node).l 0=a:=by rw[S6];rfl
  rw[hx]at Ua he ⊢;exact h.call hs Ua.2 hr he
 rename_i e1;rw[if_neg e1];split at he
 ·rename_i e2;rw[if_pos e2];unfold RS.put at he ⊢;simp only at he ⊢;split at he
  ·rename_i e3;exact(e3 he).elim
  rename_i e3;rw[if_neg e3];split at he
  ·rename_i e4;exact(e4 he).elim
  rename_i e4;rw[if_neg e4];split at he
  ·exact((by decide:¬((2:Int)=0)) he).elim
  rename_i e5;rw[if_neg e5];have hg:(gU R.heap (di R.ah.slots (nth p.slots node.toNat) 4)).length≠0:=jB;generalize hv:di R.ah.slots (nth p.slots node.toNat) 4=v at*;unfold gU at hg;split at hg
  ·simp at hg
  rename_i e6;exact(h.with (hp:=R.heap.set _ _) (i:=R.in_) (o:=R.aC) (by rw[Cq _ _ _ jB jE];exact h.cells) ⟨h.gV,h.hZ⟩ h.outs).on
 rename_i e2;rw[if_neg e2];split at he
 ·rename_i e3;rw[if_pos e3];split at he
  ·rename_i e4;rw[if_pos e4];exact dN.of h (h.inv.bq h.one v0).1 (z6 R p v0)
  rename_i e4;rw[if_neg e4];split at he
  ·rename_i e5;exact(e5 he).elim
  rename_i e5;rw[if_neg e5];exact dN.of h (h.inv.bq h.one _).1 (z6 R p _)
 rename_i e3;rw[if_neg e3];split at he
 ·rename_i e4;exact(e4 he).elim
 rename_i e4;rw[if_neg e4];split at he
 ·rename_i e5;rw[if_pos e5];split at he
  ·exact((by decide:¬((5:Int)=0)) he).elim
  rename_i e6;rw[if_neg e6];exact(h.with (hp:=R.heap) (i:=R.in_) (o:=R.aC++[_]) h.cells ⟨h.gV,h.hZ⟩ jF).on
 rename_i e5;rw[if_neg e5];split at he
 ·rename_i e6;rw[if_pos e6];obtain⟨a,b,h1,h2,hl⟩:=sh.1.kI e6;split
  ·refine Wt _ ?_ ?_ _ (.inr rfl)
   ·rcases hl with hl|⟨d,hl,_⟩<;>(show nth (ao p node).l 1∈(ao p node).l;unfold ao;rw[hl];simp[nth])
   ·rcases hl with hl|⟨d,hl,_⟩<;>(unfold ao;rw[hl];exact h2)
  split
  ·rename_i e8;rcases hl with hl|⟨d,hl,hd⟩
   ·exfalso;unfold ao at e8;rw[hl]at e8;simp at e8
   ·refine Wt _ ?_ ?_ _ (.inr rfl)
    ·unfold ao;rw[hl];simp[nth]
    ·unfold ao;rw[hl];exact hd
  ·exact h.on
 rename_i e6;rw[if_neg e6];split at he
 ·rename_i e7;rw[if_pos e7];obtain⟨a,b,hl,h1,h2⟩:=sh.1.dS e7;split
  ·refine Wt _ ?_ ?_ _ (.inl rfl)
   ·unfold ao;rw[hl];simp[nth]
   ·unfold ao;rw[hl];exact h2
  ·exact h.on
 ·rename_i e7;exfalso;have:eo (ao p node).kind:=s2;unfold eo at this;omega
theorem qL{p:ab}:∀(n:Nat) (R:RS),da p R->R.left<n->da p (js p n R)/\((js p n R).status=2\/(1<=(js p n R).nf/\mC p (js p n R).ah))
 |0,R,_,h=>by omega
 |n+1,R,hI,hn=>by
  unfold js;split
  ·rename_i e;exact⟨hI,.inl e⟩
  rename_i e;have hg:=hI.go e;split
  ·obtain⟨a,b,_⟩:=hI.bq hg (vZ (nth p.aa.aq R.ah.fn.toNat).ret);exact qL n _ a jB
  rename_i e1;split
  ·rename_i e2;exact⟨hI,.inr ⟨hg,fun h=>e1 (by rw[h];rfl),e2⟩⟩
  ·obtain⟨a,b⟩:=hI.cut hg e1;exact qL n _ a jB
structure cC(p:ab)(s:aM):Prop where
 inv:da p (RS.of s)
 aj:s.status≠2->mC p (RS.of s).ah
 cells:fF s.heap<=40
 outs:s.aC.length<=24
 gV:0<=s.in_
 hZ:s.in_<=1000
def cu[Inhabited α](l:List α)(n k:Nat)(h:k<n):nth (l.take n) k=nth l k:=by unfold nth;rw[List.getD_eq_getElem?_getD,List.getElem?_take,if_pos h,List.getD_eq_getElem?_getD]
def CO[Inhabited α]{β:Type}(l:List β)(x:α)(k:Nat)(h:k<l.length):nth (l.map fun _=>x) k=x:=by rw[dV (by simpa using h)];simp
theorem da.st{p:ab}{R:RS}(h:da p R):da p (RS.of R.st):=by
 have TB:=h.ok.nf;have hl:(RS.of R.st).nf=R.nf:=by show(R.aw.take R.nf).length=_;simp;omega
 have U':∀k,k<R.nf->nth (RS.of R.st).aw k=nth R.aw k:=fun k hk=>cu _ _ _ hk
 refine⟨RS.sA _,?_,fun k hk=>?_,fun k hk=>?_,fun e=>?_⟩
 ·have:=h.aw;show(R.aw.take R.nf).length<=8;simp;omega
 ·rw[hl]at hk;rw[U' k hk];exact h.fr k hk
 ·rw[hl]at hk;rw[U' k jB];exact h.busy k hk
 ·rw[hl];exact h.go e
def dN.settled(h:dN p R):cC p (R.settle p).st:=by
 obtain⟨h1,h2⟩:=qL (R.left+1) R h.inv jB;have k:=qx p (R.left+1) R;change da p (R.settle p)at h1
 change (R.settle p).status=2\/(1<=(R.settle p).nf/\mC p (R.settle p).ah)at h2
 change Kept R (R.settle p)at k
 generalize R.settle p=T at*;have TB:=h1.ok.nf;have hl:(RS.of T.st).nf=T.nf:=by show(T.aw.take T.nf).length=_;simp;omega
 refine⟨h1.st,fun e=>?_,by show fF T.heap<=40;rw[k.heap];exact h.cells,by show T.aC.length<=24;rw[k.aC];exact h.outs,by show 0<=T.in_;rw[k.in_];exact h.gV,by show T.in_<=1000;rw[k.in_];exact h.hZ⟩;rcases h2 with h2|⟨h2,h3⟩
 ·exact(e h2).elim
 ·unfold RS.ah at h3 ⊢;rw[hl,show nth (RS.of T.st).aw (T.nf-1)=nth T.aw (T.nf-1) from cu _ _ _ jB];exact h3
variable{s:aM}
def cC.gW(h:cC p s)(h2:s.status≠2)(c:Int)(hc:c≠2):bt p (RS.of { s with status:=c }):=by have hg:=h.inv.go h2;exact⟨⟨⟨h.inv.ok.nf,h.inv.ok.jp⟩,h.inv.aw,h.inv.fr,h.inv.busy,fun _=>hg⟩,rfl,hg,h.aj h2,fun k hk=>CO _ _ _ hk,h.cells,h.outs,h.gV,h.hZ⟩
theorem cC.with{p:ab}{s:aM}(h:cC p s)(h2:s.status≠2)(c t n:Int):cC p { s with status:=c,bp:=t,time:=n }:=by have hg:=h.inv.go h2;exact⟨⟨⟨h.inv.ok.nf,h.inv.ok.jp⟩,h.inv.aw,h.inv.fr,h.inv.busy,fun _=>hg⟩,fun _=>h.aj h2,h.cells,h.outs,h.gV,h.hZ⟩
def Hq(hs:cY p)(h:cC p s){inp:SI}(hn:inp.length<=1000):cC p (gN p s inp):=by
 unfold gN;split
 ·exact h
 rename_i e;have h2:¬(s.status=2\/s.status=3):=fun hh=>e (by unfold dG;rw[if_pos hh];decide)
 have e2:dG p s=bB p s:=by unfold dG;rw[if_neg h2]
 split
 ·exact h.with (fun hh=>h2 (.inl hh)) _ _ _
 rename_i ew;simp only;split
 ·exact h.with (fun hh=>h2 (.inl hh)) _ _ _
 rename_i et;have hd:=h.gW (fun hh=>h2 (.inl hh)) 0 jC;have P':(RS.of { s with status:=0 }).st={ s with status:=0 }:=RS.fv _;have Tf:bB p (RS.of { s with status:=0 }).st=dG p s:=by rw[P',e2];rfl
 have ha:=hd.bO hs hn (by rw[Tf];rw[P'];exact ew) (by rw[Tf];exact Classical.not_not.1 et);rw[Tf]at ha;exact dN.settled ⟨⟨⟨ha.inv.ok.nf,ha.inv.ok.jp⟩,ha.inv.aw,ha.inv.fr,ha.inv.busy,ha.inv.go⟩,ha.cells,ha.outs,ha.gV,ha.hZ⟩
def tR(n:Int):aP prog 75 [rI n] (rV (vI n)):=by
 refine df func75 ntmps75 ?_
 (repeat' (first|refine aA fun K hK=>?_|refine ax ?_|(refine hK _ _ ?_;clear hK K)|(refine az ?_ ?_<;>intro hc<;>try exact jz)|refine ay ?_|exact jI|(clear hK K)))
 (refine bG [.cell 2 82] ?_;try simp only[go_sem])
 rfl
def CV(t:Int):aP prog 90 [rI t] (rV (vZ t)):=by
 refine df func90 ntmps90 ?_
 (repeat' (first|refine aA fun K hK=>?_|refine ax ?_|(refine hK _ _ ?_;clear hK K)|(refine az ?_ ?_<;>intro hc<;>try exact jz)|refine ay ?_|exact jI|(clear hK K)))
 (refine bG [.cell 2 82] ?_;try simp only[go_sem])
 rfl
def xG(b:Bool):aP prog 76 [rB b] (rV (vB b)):=by
 refine df func76 ntmps76 ?_
 (repeat' (first|refine aA fun K hK=>?_|refine ax ?_|(refine hK _ _ ?_;clear hK K)|(refine az ?_ ?_<;>intro hc<;>try exact jz)|refine cp (CV _) ?_|refine ay ?_|exact jI|(clear hK K)))
 all_goals(refine bG [.cell 2 82] ?_;try simp only[go_sem])
 all_goals simp_all [vB,vZ]
def EQ(s:SK):aP prog 77 [rS s] (rV (vT s)):=by
 refine df func77 ntmps77 ?_
 (repeat' (first|refine aA fun K hK=>?_|refine ax ?_|(refine hK _ _ ?_;clear hK K)|(refine az ?_ ?_<;>intro hc<;>try exact jz)|refine ay ?_|exact jI|(clear hK K)))
 (refine bG [.cell 2 82] ?_;try simp only[go_sem])
 rfl
def Jq(v:ak):aP prog 115 [rV v] (rB (jS v)):=by
 refine df func115 ntmps115 ?_
 (repeat' (first|refine aA fun K hK=>?_|refine ax ?_|(refine hK _ _ ?_;clear hK K)|(refine az ?_ ?_<;>intro hc<;>try exact jz)|refine ay ?_|exact jI|(clear hK K)))
 all_goals(refine bG [.tmp 2] ?_;try simp only[go_sem])
 all_goals(unfold jS;(repeat' split)<;>first|rfl|omega|(exfalso;simp_all;done)|skip)
 all_goals(refine J1 ?_;by_cases hs:v.s=sE<;>simp[hs]<;>omega)
def zY(g:SK)(a b:Int):ak×Int:=if g=(⟨#[60]⟩:SK)then(vB (decide (a<b)),0)else if g=(⟨#[60,61]⟩:SK)then(vB (decide (a<=b)),0)else(v0,0)
def R7(g:SK)(a b:Int):aP prog 140 [rS g,rI a,rI b] (.bf [rV (zY g a b).1,rI (zY g a b).2]):=by
 refine df func140 ntmps140 ?_
 (repeat' (first|refine aA fun K hK=>?_|refine ax ?_|(refine hK _ _ ?_;clear hK K)|(refine az ?_ ?_<;>intro hc<;>try exact jz)|refine cp (xG _) ?_|refine ay ?_|exact jI|(clear hK K)))
 all_goals(refine bG [.cell 6 82,.tmp 7] ?_;try simp only[go_sem])
 all_goals(unfold zY;(repeat' split)<;>first|rfl|omega|(exfalso;simp_all;done)|(simp_all [bM,vB];done)|(exfalso;simp_all;omega)|skip)
def NQ(g:SK)(a b:Int):aP prog 116 [rS g,rI a,rI b] (.bf [rV (qA g a b).1,rI (qA g a b).2]):=by
 refine df func116 ntmps116 ?_
 (repeat' (first|refine aA fun K hK=>?_|refine ax ?_|(refine hK _ _ ?_;clear hK K)|(refine az ?_ ?_<;>intro hc<;>try exact jz)|refine cp (tR _) ?_|refine cp (R7 _ _ _) ?_|refine ay ?_|exact jI|(clear hK K)))
 all_goals(refine bG [.cell 6 82,.tmp 7] ?_;try simp only[go_sem])
 all_goals(try unfold zY)
 all_goals(unfold qA;(repeat' split)<;>first|rfl|omega|(exfalso;simp_all;done)|(simp_all [bM,vB];done)|(exfalso;simp_all;omega)|skip)
def Ae(g:SK)(a b:Bool):ak×Int:=if g=(⟨#[124,124]⟩:SK)then(vB (a || b),0)else if g=(⟨#[38,38]⟩:SK)then(vB (a && b),0)else(v0,0)
def Sp(g:SK)(a b:Bool):aP prog 117 [rS g,rB a,rB b] (.bf [rV (Ae g a b).1,rI (Ae g a b).2]):=by
 refine df func117 ntmps117 ?_
 (repeat' (first|refine aA fun K hK=>?_|refine ax ?_|(refine hK _ _ ?_;clear hK K)|(refine az ?_ ?_<;>intro hc<;>try exact jz)|refine cp (xG _) ?_|refine ay ?_|exact jI|(clear hK K)))
 all_goals(refine bG [.cell 6 82,.tmp 7] ?_;try simp only[go_sem])
 all_goals(unfold Ae;(repeat' split)<;>first|rfl|omega|(exfalso;simp_all;done)|(simp_all [bM,vB];done)|(exfalso;simp_all;omega)|skip)
def y8(g a b:SK):ak×Int:=if g=(⟨#[43]⟩:SK)then(if(a.size:Int)+b.size>40 then(v0,6)else(vT (a++b),0))else(v0,0)
def Nd(g a b:SK)(ha:a.size<=1000000)(hb:b.size<=1000000):aP prog 118 [rS g,rS a,rS b] (.bf [rV (y8 g a b).1,rI (y8 g a b).2]):=by
 refine df func118 ntmps118 ?_
 (repeat' (first|refine aA fun K hK=>?_|refine ax ?_|(refine hK _ _ ?_;clear hK K)|(refine az ?_ ?_<;>intro hc<;>try exact jz)|refine cp (EQ _) ?_|refine ay ?_|exact jI|(clear hK K)))
 all_goals(refine bG [.cell 6 82,.tmp 7] ?_;try simp only[go_sem])
 all_goals(unfold y8;(repeat' split)<;>first|rfl|omega|(exfalso;simp_all;done)|(simp_all [bM,vB];done)|(exfalso;simp_all;omega)|skip)
def Ob(g:SK)(a b:ak)(ha:a.s.size<=1000000)(hb:b.s.size<=1000000):aP prog 81 [rS g,rV a,rV b] (.bf [rV (jq g a b).1,rI (jq g a b).2]):=by
 refine df func81 ntmps81 ?_
 (repeat' (first|refine aA fun K hK=>?_|refine ax ?_|(refine hK _ _ ?_;clear hK K)|(refine az ?_ ?_<;>intro hc<;>try exact jz)|refine cp (xG _) ?_|refine cp (NQ _ _ _) ?_|refine cp (Sp _ _ _) ?_|refine cp (Nd _ _ _ ha hb) ?_|refine ay ?_|exact jI|(clear hK K)))
 all_goals(refine bG [.cell 6 82,.tmp 7] ?_;try simp only[go_sem])
 all_goals(try unfold Ae);all_goals(try unfold y8)
 all_goals(unfold jq;(repeat' split)<;>first|rfl|omega|(exfalso;simp_all;done)|(simp_all [bM,vB];done)|(exfalso;simp_all;omega)|skip)
def MY(g:SK)(a:ak):aP prog 82 [rS g,rV a] (rV (jX g a)):=by
 refine df func82 ntmps82 ?_
 (repeat' (first|refine aA fun K hK=>?_|refine ax ?_|(refine hK _ _ ?_;clear hK K)|(refine az ?_ ?_<;>intro hc<;>try exact jz)|refine cp (xG _) ?_|refine cp (tR _) ?_|refine ay ?_|exact jI|(clear hK K)))
 all_goals(refine bG [.cell 4 82] ?_;try simp only[go_sem])
 all_goals(unfold jX;(repeat' split)<;>first|rfl|omega|(exfalso;simp_all;done)|(simp_all [bM,vB];done)|(exfalso;simp_all;omega)|skip)
abbrev so(l:List ak):AV:=bh bM 3 l
abbrev sK(h:SH):AV:=bh kg 1 h
def CM(slots:List ak)(k t:Int):aP prog 95 [so slots,rI k,rI t] (rV (di slots k t)):=by
 refine df func95 ntmps95 ?_
 (repeat' (first|refine aA fun K hK=>?_|refine ax ?_|(refine hK _ _ ?_;clear hK K)|(refine az ?_ ?_<;>intro hc<;>try exact jz)|refine cp (DO _) ?_|refine cp (O1 _) ?_|refine ay ?_|exact jI|(clear hK K)))
 all_goals(refine bG [.cell 6 82] ?_;try simp only[go_sem])
 all_goals(unfold di;(repeat' split)<;>first|rfl|omega|(exfalso;simp_all;done)|(simp_all;done)|skip)
def HK(heap:SH)(v:ak)(hh:heap.length<=1000000):aP prog 96 [sK heap,rV v] (bh eI 1 (gU heap v)):=by
 by_cases h:v.ty≠4\/v.n<1\/(heap.length:Int)<v.n
 ·rw[gU,if_pos h];refine df func96 ntmps96 ?_
  (repeat' (first|refine aA fun K hK=>?_|refine ax ?_|(refine hK _ _ ?_;clear hK K)|(refine az ?_ ?_<;>intro hc<;>try exact jz)|refine ay ?_|exact jI|(clear hK K)))
  all_goals first|omega|skip
  refine lW [.tmp 4] ?_;exact dM.nil _ _
 ·rw[gU,if_neg h];refine df func96 ntmps96 ?_
  (repeat' (first|refine aA fun K hK=>?_|refine ax ?_|(refine hK _ _ ?_;clear hK K)|(refine az ?_ ?_<;>intro hc<;>try exact jz)|refine ay ?_|exact jI|(clear hK K)))
  all_goals first|omega|skip
  (refine bG [.tmp 4] ?_;try simp only[go_sem])
abbrev rP(p:ab):AV:=.agg (bV p)
def BV(p:ab)(slots:List ak)(heap:SH)(n:Nat):Prop:=∀(a:Int),0<=a->a<p.aa.nodes.length->a.toNat<n->bT (bA p.aa.nodes a)->
 aP prog 97 [rP p,rI a,so slots,sK heap] (.bf [rV (de p slots heap n a).1,rI (de p slots heap n a).2])
def yd(p:ab)(slots:List ak)(heap:SH)(x:ak×Int)(a:Int):ak×Int:=
 if x.2≠0 then(v0,x.2)
 else if x.1.n<0\/((gU heap (di slots (nth p.slots a.toNat) 4)).length:Int)<=x.1.n then(v0,2)
 else(vI (nth (gU heap (di slots (nth p.slots a.toNat) 4)) x.1.n.toNat),0)
def wG(s:SK)(x y:ak×Int):ak×Int:=
 if x.2≠0 then(v0,x.2)
 else if(s=(⟨#[124,124]⟩:SK)/\x.1.n=1)\/(s=(⟨#[38,38]⟩:SK)/\x.1.n=0)then(x.1,0)
 else if y.2≠0 then(v0,y.2)
 else jq s x.1 y.1
def L6{A B C D:Prop}(h:(¬A\/¬B)/\(¬C\/¬D))(k:A/\B\/C/\D):False:=by
 rcases k with⟨a,b⟩|⟨c,d⟩
 ·exact h.1.elim (fun h=>h a) (fun h=>h b)
 ·exact h.2.elim (fun h=>h c) (fun h=>h d)
def Nf(slots:List ak)(heap:SH)(n:Nat)(k:(nth p.aa.nodes a.toNat).kind=5):de p slots heap (n+1) a=yd p slots heap (de p slots heap n (nth (nth p.aa.nodes a.toNat).l 0)) a:=by
 conv=>lhs;unfold de
 unfold yd;simp only;rw[jN,jN,jN,jN,if_pos k]
def PT(slots:List ak)(heap:SH)(n:Nat)(k:(nth p.aa.nodes a.toNat).kind=9):de p slots heap (n+1) a=wG (nth p.aa.nodes a.toNat).name (de p slots heap n (nth (nth p.aa.nodes a.toNat).l 0)) (de p slots heap n (nth (nth p.aa.nodes a.toNat).l 1)):=by
 conv=>lhs;unfold de
 unfold wG;simp only;rw[jN,jN,jN,jN,if_neg (c:=(nth p.aa.nodes a.toNat).kind=5) jB,if_pos k]
def Cp(heap:SH)(k:Int)(x:ak×Int):ak×Int:=
 if x.2≠0 then(v0,x.2)
 else if k=6 then(if x.1.ty=3 then(vI x.1.s.size,0)else(vI (gU heap x.1).length,0))
 else if k=7 then(jX (⟨#[45]⟩:SK) x.1,0)
 else(jX (⟨#[33]⟩:SK) x.1,0)
def Qy(slots:List ak)(heap:SH)(n:Nat)(k:(nth p.aa.nodes a.toNat).kind=6\/(nth p.aa.nodes a.toNat).kind=7\/(nth p.aa.nodes a.toNat).kind=8):de p slots heap (n+1) a=Cp heap (nth p.aa.nodes a.toNat).kind (de p slots heap n (nth (nth p.aa.nodes a.toNat).l 0)):=by
 conv=>lhs;unfold de
 unfold Cp;simp only;rw[jN,jN,jN,jN,if_neg (c:=(nth p.aa.nodes a.toNat).kind=5) jB,if_neg (c:=(nth p.aa.nodes a.toNat).kind=9) jB]
def Q3(h:qe p)(slots:List ak)(heap:SH)(hh:heap.length<=1000000)(n:Nat)(ih:BV p slots heap n)(a:Int)(h0:0<=a)(h1:a<p.aa.nodes.length)(hn:a.toNat<=n)(hk:(nth p.aa.nodes a.toNat).kind=5) :
  aP prog 124 [rP p,rI a,so slots,sK heap] (.bf [rV (yd p slots heap (de p slots heap n (nth (nth p.aa.nodes a.toNat).l 0)) a).1,rI (yd p slots heap (de p slots heap n (nth (nth p.aa.nodes a.toNat).l 0)) a).2]):=by
 have sh:=h.aa.shape a.toNat jB;have Tr:=h.slots;obtain⟨x,hl,hx⟩:=sh.1.one jB;have D':(nth p.aa.nodes a.toNat).l.length=1:=by rw[hl];rfl
 have Tg:nth (nth p.aa.nodes a.toNat).l 0=x:=by rw[hl];rfl
 have hb:=sh.2.1 x (by rw[hl];simp);have Ty:=ih x hb.1 jB jB hx;refine df func124 ntmps124 ?_
 (have W:=jA D' (Tg);repeat' (first|refine aA fun K hK=>?_|refine ax ?_|(with_reducible refine gR 1 ?_);refine dL 1 [] [16] (bo 0 19) mixed ?_|(refine hK _ _ ?_;clear hK K)|(refine az ?_ ?_<;>intro hc<;>try exact jz)|refine cp (Ty) ?_|refine cp (CM _ _ _) ?_|refine cp (HK _ _ hh) ?_|refine cp (vJ _) ?_|refine ay ?_|exact jI|(clear hK K)))
 all_goals(refine bG [.cell 8 82,.tmp 9] ?_;try simp only[go_sem])
 all_goals(unfold yd;simp only[Tg];(repeat' split)<;>first|rfl|omega|(exfalso;simp_all;done)|(simp_all;done)|skip)
def MT(h:qe p)(slots:List ak)(heap:SH)(n:Nat)(ih:BV p slots heap n)(a:Int)(h0:0<=a)(h1:a<p.aa.nodes.length)(hn:a.toNat<=n)(hk:(nth p.aa.nodes a.toNat).kind=9) :
  aP prog 125 [rP p,.agg (dO (nth p.aa.nodes a.toNat)),so slots,sK heap] (.bf [rV (wG (nth p.aa.nodes a.toNat).name (de p slots heap n (nth (nth p.aa.nodes a.toNat).l 0)) (de p slots heap n (nth (nth p.aa.nodes a.toNat).l 1))).1,rI (wG (nth p.aa.nodes a.toNat).name (de p slots heap n (nth (nth p.aa.nodes a.toNat).l 0)) (de p slots heap n (nth (nth p.aa.nodes a.toNat).l 1))).2]):=by
 have sh:=h.aa.shape a.toNat jB;obtain⟨x,y,hl,hx,hy⟩:=sh.1.two jB;have D':(nth p.aa.nodes a.toNat).l.length=2:=by rw[hl];rfl
 have Tg:nth (nth p.aa.nodes a.toNat).l 0=x:=by rw[hl];rfl
 have XC:nth (nth p.aa.nodes a.toNat).l 1=y:=by rw[hl];rfl
 have hb:=sh.2.1 x (by rw[hl];simp);have Us:=sh.2.1 y (by rw[hl];simp);have Ty:=ih x hb.1 jB jB hx;have Vr:=ih y Us.1 jB jB hy;have s1:=(rX h slots heap n x hb.1 jB jB hx).size;have s2:=(rX h slots heap n y Us.1 jB jB hy).size;refine df func125 ntmps125 ?_
 (have W:=jA D' (jA Tg (XC));repeat' (first|refine aA fun K hK=>?_|refine ax ?_|(with_reducible refine gR 1 ?_);refine dL 1 [] [11] (bo 0 14) mixed ?_|(with_reducible refine gR 6 ?_);refine dL 6 [] [11] (bo 0 14) mixed ?_|(refine hK _ _ ?_;clear hK K)|(refine az ?_ ?_<;>intro hc<;>try exact jz)|refine cp (Ty) ?_|refine cp (Vr) ?_|refine cp (Sa _ _ _ jB jB) ?_|refine ay ?_|exact jI|(clear hK K)))
 all_goals(refine bG [.cell 8 82,.tmp 9] ?_;try simp only[go_sem])
 all_goals(unfold wG;simp only[Tg,XC];(repeat' split)<;>first|rfl|exact(L6 (by assumption) (by assumption)).elim|omega|(exfalso;simp_all;done)|(simp_all;done)|skip)
theorem HH{p:ab}(h:qe p)(slots:List ak)(heap:SH)(hh:heap.length<=1000000):∀n,BV p slots heap n
 |0=>fun a _ _ hn _=>by omega
 |n+1=>fun a h0 h1 hn hk=>by
  have ih:=HH h slots heap hh n;have sh:=h.aa.shape a.toNat jB;have Tr:=h.slots;have Uc:=h.types;have V9:(nth p.aa.nodes a.toNat).kind=1\/(nth p.aa.nodes a.toNat).kind=2\/(nth p.aa.nodes a.toNat).kind=3\/(nth p.aa.nodes a.toNat).kind=4\/(nth p.aa.nodes a.toNat).kind=5\/(nth p.aa.nodes a.toNat).kind=9\/((nth p.aa.nodes a.toNat).kind=6\/(nth p.aa.nodes a.toNat).kind=7\/(nth p.aa.nodes a.toNat).kind=8):=by have:bT (nth p.aa.nodes a.toNat).kind:=hk;unfold bT at this;omega
  rcases V9 with k|k|k|k|k|k|k
  ·rw[show de p slots heap (n+1) a=(vI (nth p.aa.nodes a.toNat).n,0) from by unfold de;simp only;rw[k];rfl];refine df func97 ntmps97 ?_
   (have W:=k;repeat' (first|refine aA fun K hK=>?_|refine ax ?_|(refine hK _ _ ?_;clear hK K)|(refine az ?_ ?_<;>intro hc<;>try exact jz)|refine cp (vJ _) ?_|refine ay ?_|exact jI|(clear hK K)))
   (refine bG [.cell 8 82,.tmp 9] ?_;try simp only[go_sem])
  ·rw[show de p slots heap (n+1) a=(vB (decide ((nth p.aa.nodes a.toNat).n=1)),0) from by unfold de;simp only;rw[k];rfl];refine df func97 ntmps97 ?_
   (have W:=k;repeat' (first|refine aA fun K hK=>?_|refine ax ?_|(refine hK _ _ ?_;clear hK K)|(refine az ?_ ?_<;>intro hc<;>try exact jz)|refine cp (yO _) ?_|refine ay ?_|exact jI|(clear hK K)))
   (refine bG [.cell 8 82,.tmp 9] ?_;try simp only[go_sem])
  ·rw[show de p slots heap (n+1) a=(vT (nth p.aa.nodes a.toNat).name,0) from by unfold de;simp only;rw[k];rfl];refine df func97 ntmps97 ?_
   (have W:=k;repeat' (first|refine aA fun K hK=>?_|refine ax ?_|(refine hK _ _ ?_;clear hK K)|(refine az ?_ ?_<;>intro hc<;>try exact jz)|refine cp (FO _) ?_|refine ay ?_|exact jI|(clear hK K)))
   (refine bG [.cell 8 82,.tmp 9] ?_;try simp only[go_sem])
  ·rw[show de p slots heap (n+1) a=(di slots (nth p.slots a.toNat) (nth p.types a.toNat),0) from by unfold de;simp only;rw[k];rfl];refine df func97 ntmps97 ?_
   (have W:=k;repeat' (first|refine aA fun K hK=>?_|refine ax ?_|(with_reducible refine gR 10 ?_);refine dE 10 (bo 0 14) mixed ?_|(refine hK _ _ ?_;clear hK K)|(refine az ?_ ?_<;>intro hc<;>try exact jz)|refine cp (CM _ _ _) ?_|refine ay ?_|exact jI|(clear hK K)))
   (refine bG [.cell 8 82,.tmp 9] ?_;try simp only[go_sem])
  ·have hi:=Q3 h slots heap hh n ih a h0 h1 jB k;rw[Nf slots heap n k];refine df func97 ntmps97 ?_
   (have W:=k;repeat' (first|refine aA fun K hK=>?_|refine ax ?_|(refine hK _ _ ?_;clear hK K)|(refine az ?_ ?_<;>intro hc<;>try exact jz)|refine cp (hi) ?_|refine ay ?_|exact jI|(clear hK K)))
   (refine bG [.cell 8 82,.tmp 9] ?_;try simp only[go_sem])
  ·have hi:=MT h slots heap n ih a h0 h1 jB k;rw[PT slots heap n k];refine df func97 ntmps97 ?_
   (have W:=k;repeat' (first|refine aA fun K hK=>?_|refine ax ?_|(refine hK _ _ ?_;clear hK K)|(refine az ?_ ?_<;>intro hc<;>try exact jz)|refine cp (hi) ?_|refine ay ?_|exact jI|(clear hK K)))
   (refine bG [.cell 8 82,.tmp 9] ?_;try simp only[go_sem])
  ·obtain⟨x,hl,hx⟩:=sh.1.one jB;have D':(nth p.aa.nodes a.toNat).l.length=1:=by rw[hl];rfl
   have Tg:nth (nth p.aa.nodes a.toNat).l 0=x:=by rw[hl];rfl
   have hb:=sh.2.1 x (by rw[hl];simp);have Ty:=ih x hb.1 jB jB hx;have k1:¬(nth p.aa.nodes a.toNat).kind=1:=jB;have k2:¬(nth p.aa.nodes a.toNat).kind=2:=jB;have k3:¬(nth p.aa.nodes a.toNat).kind=3:=jB;have k4:¬(nth p.aa.nodes a.toNat).kind=4:=jB;have k5:¬(nth p.aa.nodes a.toNat).kind=5:=jB;have k9:¬(nth p.aa.nodes a.toNat).kind=9:=jB;rw[Qy slots heap n k,Tg];refine df func97 ntmps97 ?_
   (have W:=jA k1 (jA k2 (jA k3 (jA k4 (jA k5 (jA k9 (jA D' (Tg)))))));repeat' (first|refine aA fun K hK=>?_|refine ax ?_|(with_reducible refine gR 15 ?_);refine dL 15 [] [11] (bo 0 14) mixed ?_|(refine hK _ _ ?_;clear hK K)|(refine az ?_ ?_<;>intro hc<;>try exact jz)|refine cp (Ty) ?_|refine cp (vJ _) ?_|refine cp (QE _ _) ?_|refine cp (HK _ _ hh) ?_|refine ay ?_|exact jI|(clear hK K)))
   all_goals(refine bG [.cell 8 82,.tmp 9] ?_;try simp only[go_sem])
   all_goals(unfold Cp;(repeat' split)<;>first|rfl|omega|(exfalso;simp_all;done)|(simp_all;done)|skip)
def MK(h:¬(s.status=2\/s.status=3)):dG p s=bB p s:=by unfold dG;rw[if_neg h]
def cC.at_(hs:cY p)(h:cC p s)(h2:s.status≠2):pT p s:=by have hd:=h.gW h2 0 jC;have:=hd.cf hs;rw[RS.fv]at this;exact⟨this.fr,this.aw,this.pa,this.pc,this.b0,this.b1,this.a0,this.a1,this.Bn,this.n0,this.n1,this.sl,this.s0⟩
def Bv(hs:cY p)(h:cC p s):aP prog 29 [.agg (bV p),.agg (dD s)] (rI (dG p s)):=by
 by_cases h2:s.status=2\/s.status=3
 ·have e:dG p s=-1:=by unfold dG;rw[if_pos h2]
  rw[e];refine df func29 ntmps29 ?_
  (repeat' (first|refine aA fun K hK=>?_|refine ax ?_|(refine hK _ _ ?_;clear hK K)|(refine az ?_ ?_<;>intro hc<;>try exact jz)|refine ay ?_|exact jI|(clear hK K)))
  all_goals(refine bG [.tmp 4] ?_;try simp only[go_sem])
 ·have e:=MK (p:=p) h2;have hA:=h.at_ hs (fun e=>h2 (.inl e));rw[e];refine df func29 ntmps29 ?_
  (repeat' (first|refine aA fun K hK=>?_|refine ax ?_|(refine hK _ _ ?_;clear hK K)|(refine az ?_ ?_<;>intro hc<;>try exact jz)|refine cp (FN p s hA.fr hA.aw hA.pa hA.pc hA.b0 hA.b1 hA.a0 hA.a1) ?_|refine ay ?_|exact jI|(clear hK K)))
  all_goals(refine bG [.tmp 4] ?_;try simp only[go_sem])
def Fe(h:SH)(k:Nat)(hk:k<h.length)(n:Int):(h.take (k+1)).foldl iR n=(h.take k).foldl iR n+(nth h k).length:=by rw[xM hk,List.foldl_append];rfl
def RM(h:SH)(hh:fF h<=1000000):aP prog 120 [sK h] (rI (fF h)):=by
 have D':=nz h;have hf:∀k,(h.take k).foldl iR (h.length:Int)<=fF h/\0<=(h.take k).foldl iR (h.length:Int):=fun k=>by
  have e:fF h=(h.drop k).foldl iR ((h.take k).foldl iR (h.length:Int)):=by unfold fF;rw[<-List.foldl_append,List.take_append_drop]
  rw[e,mz (h.drop k),mz (h.take k)];have:=xZ (h.drop k);have:=xZ (h.take k);omega
 refine df func120 ntmps120 ?_
 (repeat' (first|refine aA fun K hK=>?_|refine ax ?_|(refine hK _ _ ?_;clear hK K)|(refine az ?_ ?_<;>intro hc<;>try exact jz)|refine ay ?_|exact jI|(clear hK K)))
 have Tc:=hK;clear hK;refine fa (S:=Nat) [(3,2),(7,13)] (fun k=>k<=h.length) (fun k=>[(3,rI ((h.take k).foldl iR (h.length:Int))),(4,rI k)]) (fun k=>⟨[],[]⟩) (fun k=>h.length-k) 0 jB (fb jD cI) ?_;rintro k hk Kr S8;have h1:=hf k;have h2:k<h.length->(h.take k).foldl iR (h.length:Int)+(nth h k).length<=1000000:=fun hk=>by have:=hf (k+1);rw[Fe h k hk]at this;omega
 refine S ?_
 (repeat' (first|refine aA fun K hK=>?_|refine ax ?_|(refine hK _ _ ?_;clear hK K)|(refine az ?_ ?_<;>intro hc<;>try exact jz)|refine Tc _ _ ?_|refine ay ?_|exact jI|(clear hK K)))
 ·have e:=Fe h k jB (h.length:Int);refine S8 _ _ (fc (k+1) jB jJ jD ?_);rw[e];exact cI
 ·(refine bG [.tmp 2] ?_;try simp only[go_sem])
  rw[show k=h.length from jB,List.take_length];rfl
def M3(p:ab)(node:Int)(v:ak)(R:RS)(ho:lO R)(h0:0<=node)(h1:node<p.aa.nodes.length)(Tr:p.slots.length=p.aa.nodes.length)(hs:0<=nth p.slots node.toNat/\nth p.slots node.toNat<(nth R.aw (R.nf-1)).slots.length) :
  ai prog 93 [.agg (bV p),.pt 0 0 0 0,rI node,.agg (bM v)] (R.e 41 [] [] []) (fun r l=>r=.bf []/\l=(R.store p node v).e 41 [] [] []):=by
 have TB:=ho.ok.nf;have TH:=ho.nf;have U':=ho.aw;have Yt:=hs.1;have YS:=hs.2;have hk:R.nf-1<R.aw.length:=jB;have UB:=uA (R.dK p node v) (ho.aS rfl);have hj:∀j,(if j=R.nf-1 then Row.aK 82 3 ((List.map bM (nth R.aw (R.nf-1)).slots).set (nth p.slots node.toNat).toNat (bM v++List.drop 3 (bM (nth (nth R.aw (R.nf-1)).slots (nth p.slots node.toNat).toNat))))else Row.aK 82 3 (List.map bM (nth R.aw j).slots))=if j=R.nf-1 then .aK 82 3 (((nth R.aw (R.nf-1)).slots.set (nth p.slots node.toNat).toNat v).map bM)else R.sl j:=fun j=>by
  by_cases e:j=R.nf-1
  ·rw[if_pos e,if_pos e,List.map_set];rfl
  ·rw[if_neg e,if_neg e];rfl
 have T5:=fun(r s:Row)=>u9 (i:=4) (j:=5) (r:=r) (s:=s) jB jB
 refine aU func93 ntmps93 ?_;generalize hB:ids (R.e 41 [] [] [])=B;generalize hE:(R.store p node v).e 41 [] [] []=E;refine S ?_
 (repeat' (first|refine aA fun K hK=>?_|refine ax ?_|(with_reducible refine gR 1 ?_);refine dE 1 (bo 0 21) mixed ?_|(refine hK _ _ ?_;clear hK K)|(refine az ?_ ?_<;>intro hc<;>try exact jz)|refine cz 4 ?_|refine cz 5 ?_|(refine cE (R:=R.dK p node v) (R':=(R.dK p node v).on) (pre:=[]) (post:=[]) (pre':=[]) (post':=[]) UB (congrArg (Hp.mk B) (RS.nO (R:=R) (k:=R.nf-1) hk (List.length_set ..) rfl hj)) (Nat.le_of_eq RS.aO) jl rfl rfl (T5 _ _) rfl jD ?_;refine S ?_)|refine ay ?_|exact jI|(clear hK K)))
 subst hE;exact gA (R':=(R.dK p node v).on) (tl:=[(4,.var 29 (bV p)),(5,.var 82 (bM v))]) rfl hB [] (T5 _ _) rfl rfl rfl
def rf(h:cY p)(R:RS)(hok:R.Ok)(h1:1<=R.nf)(h8:R.aw.length<=1000)(hh:R.heap.length<=1000000)(a:Int)(h0:0<=a)(hl:a.toNat<p.aa.nodes.length)(hk:bT (bA p.aa.nodes a)) :
  ai prog 56 [.agg (bV p),.pt 0 0 0 0,rI a] (R.e 41 [] [] []) (fun r l=>r=.bf [rV (R.val p a).1,rI (R.val p a).2]/\l=R.e 41 [] [] []):=by
 have TB:=hok.nf;have hx:=HH h.ok R.ah.slots R.heap hh p.aa.nodes.length a h0 jB jB hk;have VU:R.nf-1<R.aw.length:=jB;have T5:=fun(r s:Row)=>u9 (i:=4) (j:=5) (r:=r) (s:=s) jB jB
 change aP _ _ _ (.bf [rV (R.val p a).1,rI (R.val p a).2])at hx
 generalize R.val p a=X at hx ⊢;suffices key:∀R':RS,R'=R->ai prog 56 [.agg (bV p),.pt 0 0 0 0,rI a] (R.e 41 [] [] []) (fun r l=>r=.bf [rV X.1,rI X.2]/\l=R'.e 41 [] [] []) from key R rfl
 intro R' S7;refine aU func56 ntmps56 ?_;generalize hB:ids (R.e 41 [] [] [])=B;generalize hE:R'.e 41 [] [] []=E;refine S ?_
 (repeat' (first|refine aA fun K hK=>?_|refine ax ?_|(with_reducible refine gR 1 ?_);refine dE 1 (bo 0 24) mixed ?_|(refine hK _ _ ?_;clear hK K)|(refine az ?_ ?_<;>intro hc<;>try exact jz)|refine cz 4 ?_|refine cM 5 ?_|(refine cL (args':=[rP p,rI a,so R.ah.slots,sK R.heap]) hx (show bK _ ⟨B,R.e 41 [] [] _⟩ _ _ from⟨.same _ rfl,.same _ rfl,RS.pY VU (fun _=>rfl) rfl,RS.uL (fun _=>rfl),trivial⟩) rfl jD ?_;refine S ?_)|refine ay ?_|exact jI|(clear hK K)))
 subst hE;subst S7;exact gA (R':=R') (tl:=[(4,.var 29 (bV p)),(5,.var 82 (bM X.1))]) rfl hB [.cell 6 82,.tmp 7] (T5 _ _) rfl rfl rfl
def O6 (w : NW) (hg : l9 w) : Lib.TabIs prog w.toWorld "internal/strconv.uint64pow10" .u64 Lib.pow10Tab := by
 obtain⟨⟨cur,el,fr,h1,h2⟩,_⟩:=hg 0 (Lib.pow10Tab.map (Value.int .u64)) (by unfold Bb;simp);unfold Lib.TabIs World.var?
 rw [show prog.globalNamed "internal/strconv.uint64pow10" = some 0 by kernel_rfl];simp only[Option.bind_some,h1,Option.some.injEq];apply Array.ext';simpa using h2
def Ey(n:Int)(h:dr n):aP prog 98 [rI n] (rS (Bx n)):=by
 refine Mt [.int .i64 n] (.string (Bx n)) rfl (fun w=>.raw _) fun w hg=>?_
 refine(Tryz.strconv_Itoa n h.1 h.2 w.toWorld (O6 w hg)).mono ?_;rintro e W ⟨rfl,k,os,rfl⟩;refine⟨rfl,⟨rfl,rfl,rfl,?_,fun b hb=>?_⟩⟩
 ·show w.heap.size<=(w.heap++os).size;simp
 ·show(w.heap++os)[b]?=w.heap[b]?;rw[Array.getElem?_append_left hb]
def Mf(b:Bool):aP prog 119 [rB b] (rS (if b=true then(⟨#[116,114,117,101]⟩:SK)else(⟨#[102,97,108,115,101]⟩:SK))):=by
 refine Fs [.bool b] (.string (if b=true then(⟨#[116,114,117,101]⟩:SK)else(⟨#[102,97,108,115,101]⟩:SK))) rfl (fun w=>.raw _) fun w=>?_
 refine(Tryz.strconv_FormatBool b w).mono ?_;rintro e W ⟨rfl,rfl⟩;refine⟨?_,RowKit.Below.refl _ _⟩;cases b<;>rfl
def PV(v:ak)(h:dr v.n):aP prog 57 [rV v] (rS (iN v)):=by
 refine df func57 ntmps57 ?_
 (repeat' (first|refine aA fun K hK=>?_|refine ax ?_|(refine hK _ _ ?_;clear hK K)|(refine az ?_ ?_<;>intro hc<;>try exact jz)|refine cp (Ey _ h) ?_|refine ay ?_|exact jI|(clear hK K)))
 all_goals(refine bG [.tmp 2] ?_;try simp only[go_sem])
 all_goals(unfold iN;(repeat' split)<;>first|rfl|omega|contradiction|(simp_all;done)|skip)
def Rf(v:ak)(h:dr v.n):aP prog 91 [rV v] (rS (iN v)):=by
 refine df func91 ntmps91 ?_
 (repeat' (first|refine aA fun K hK=>?_|refine ax ?_|(refine hK _ _ ?_;clear hK K)|(refine az ?_ ?_<;>intro hc<;>try exact jz)|refine cp (Ey _ h) ?_|refine cp (Mf _) ?_|refine ay ?_|exact jI|(clear hK K)))
 all_goals(refine bG [.tmp 2] ?_;try simp only[go_sem])
 all_goals(unfold iN;(repeat' split)<;>first|rfl|omega|contradiction|(simp_all;done)|skip)
def ND(args:List ak)(j:Nat):args++List.replicate j v0++[v0]=args++List.replicate (j+1) v0:=by rw[List.append_assoc,<-List.replicate_succ']
def F7(h:cY p)(k:Nat)(hk:k<p.aa.aq.length)(args:List ak)(ha:args.length=(nth p.aa.aq k).params.length)(n:Nat) :
  ai prog 22 [.agg (bV p),rI k,bh bM 3 args] [] (fun r l=>r=.agg (uQ p k args n)/\l=uC p k args n):=by
 obtain⟨f1,f2,f3,f4⟩:=yH h hk ha;have SY:=h.ok.size;have VB:=(h.aq k hk).vz;have UH:=h.ok.aa.aq;refine aU func22 ntmps22 ?_
 (repeat' (first|refine aA fun K hK=>?_|refine ax ?_|(refine hK _ _ ?_;clear hK K)|(refine az ?_ ?_<;>intro hc<;>try exact jz)|refine cz 4 ?_|refine cM 5 ?_|refine cM 6 ?_|refine pm (bJ 1 n) ?_|refine pm (bJ 0 n) ?_|refine ay ?_|exact jI|(clear hK K)))
 have Tc:=hK;clear hK;have D':(gg p k args).slots=args++List.replicate ((nth p.size k).toNat-args.length) v0:=by
  show args++List.replicate _ v0=_;congr 2
  rw[Int.toNat_natCast];omega
 refine fa (S:=Nat) [(23,15)] (fun j=>args.length+j<=(nth p.size k).toNat) (fun j=>[])
  (fun j=>⟨[],[(4,.var 29 (bV p)),(5,.var 76 [rI 0,.raw (.slice none 0 0),.raw (.slice none 0 0)]),(bJ 1 n,.aK 94 2 ([Cm p k].map iU)),(6,.var 76 [rI k,.rs (bJ 0 n) (args.length+j) 3 (args.length+j),.rs (bJ 1 n) 1 2 1]),(bJ 0 n,.aK 82 3 ((args++List.replicate j v0).map bM))]⟩)
  (fun j=>(nth p.size k).toNat-j) 0 jB (fb (by simp only[List.replicate_zero,List.append_nil,Nat.add_zero];rfl) cI) ?_
 rintro j hj Kr S8;have hl:(args++List.replicate j v0).length=args.length+j:=jE;refine S ?_
 (have W:=hl;repeat' (first|refine aA fun K hK=>?_|refine ax ?_|(with_reducible refine gR 3 ?_);refine dE 3 (bo 0 9) mixed ?_|(refine hK _ _ ?_;clear hK K)|(refine az ?_ ?_<;>intro hc<;>try exact jz)|refine Tc _ _ ?_|refine ay ?_|exact jI|(clear hK K)))
 ·refine S8 _ _ (fc (j+1) (by show args.length+(j+1)<=_;omega) (by show _-(j+1)<_-j;omega) ?_ cI);have e:(args++List.replicate (j+1) v0).map bM=List.map bM args++List.map bM (List.replicate j v0)++[bM v0]:=by
   rw[<-ND,List.map_append,List.map_append];rfl
  rw[e];rfl
 ·have hjn:j=(nth p.size k).toNat-args.length:=jB;have hn:args.length+j=(gg p k args).slots.length:=jB;have e:uQ p k args n=[rI k,.rs (bJ 0 n) (args.length+j) 3 (args.length+j),.rs (bJ 1 n) 1 2 1]:=by unfold uQ;rw[hn]
  have e2:uC p k args n=[(bJ 1 n,.aK 94 2 ([Cm p k].map iU)),(bJ 0 n,.aK 82 3 ((args++List.replicate j v0).map bM))]:=by unfold uC;rw[D',<-hjn]
  rw[e,e2];refine Px [.cell 6 76] ?_ ?_ ?_ ?_
  ·rfl
  ·simp(disch:=omega) only[go_sem,yz,AL]
  ·simp(disch:=omega) only[go_sem,yz,AL]
  ·simp(disch:=omega) only[go_sem,yz,AL]
def Is{i j k m:Nat}{r s u v:Row}(hi:4<=i/\i<1000)(hj:4<=j/\j<1000)(hk:4<=k/\k<1000)(hm:4<=m/\m<1000):low [(i,r),(j,s),(k,u),(m,v)]:=fun q x hq=>by have hq:q∈ids [(i,r),(j,s),(k,u),(m,v)]:=(kz _ _).2 (by rw[hq];simp);simp[ids]at hq;omega
def DI(R:RS)(b:Int)(hok:R.Ok)(h1:1<=R.nf)(h8:R.aw.length<=1000)(hj:nth R.jp (R.nf-1)=[])(hp:R.ah.path.length<=1000) :
  ai prog 59 [.pt 0 0 0 0,rI b] (R.e 41 [] [] []) (fun r l=>r=.bf []/\l=(R.aX b).e 41 [] [] []):=by
 have TB:=hok.nf;have hk:R.nf-1<R.aw.length:=jB;have Xw:(nth R.jp (R.nf-1)).length=0:=by rw[hj];rfl
 have hp:(nth R.aw (R.nf-1)).path.length<=1000:=hp;refine aU func59 ntmps59 ?_;generalize hB:ids (R.e 41 [] [] [])=B;generalize hE:(R.aX b).e 41 [] [] []=E;refine S ?_
 (have W:=jA hj Xw;repeat' (first|refine aA fun K hK=>?_|refine ax ?_|(with_reducible refine gR 0 ?_);refine dE 0 (bo 0 12) mixed ?_|(refine hK _ _ ?_;clear hK K)|(refine az ?_ ?_<;>intro hc<;>try exact jz)|refine ay ?_|exact jI|(clear hK K)))
 subst hE;refine gA (R':=R.aX b) (tl:=[]) (congrArg (Hp.mk B) (RS.qu (x:=⟨b,0⟩) hk hj rfl (fun j=>rfl) fun j=>?_)) hB [] (fun i r h=>by cases h) rfl rfl rfl;by_cases e:j=R.nf-1
 ·rw[if_pos e,if_pos e,List.map_append];rfl
 ·rw[if_neg e,if_neg e];unfold RS.pt;rw[List.map_append]
def JJ(h:cY p)(R:RS)(hd:bt p R)(a:Int)(h0:0<=a)(hl:a.toNat<p.aa.nodes.length)(hk:(ao p a).kind=20) :
  ai prog 94 [.agg (bV p),.pt 0 0 0 0,rI a] (R.e 41 [] [] []) (fun r l=>r=.bf [rV (R.fresh p a).2.1,rI (R.fresh p a).2.2]/\l=(R.fresh p a).1.e 41 [] [] []):=by
 have hok:=hd.inv.ok;have TB:=hok.nf;have h1:=hd.one;have U':=hd.inv.aw;have S9:=nz R.heap;have UU:=hd.cells;obtain⟨x,S6,hx⟩:=(h.ok.aa.shape a.toNat hl).1.one (.inr (.inr (.inr (.inr (.inr hk)))));have UC:=(h.ok.aa.shape a.toNat hl).2.1 x (by rw[S6];simp);have SZ:nth (nth p.aa.nodes a.toNat).l 0=x:=by rw[S6];rfl
 have Ui:(nth p.aa.nodes a.toNat).l.length=1:=by rw[S6];rfl
 have hv:=rf h R hok h1 jB jB x UC.1 jB hx;have Zv:=RM R.heap jB;have T5:∀(i:Nat) (x y z:Row),low [(4,x),(5,y),(6,z)]:=fun i x y z=>DX jB jB jB
 have Yv:R.fresh p a=(let v:=R.val p x;if v.2≠0 then(R,v0,v.2)else if v.1.n<0\/16<v.1.n then(R,v0,7)else if 40<fF R.heap+v.1.n+1 then(R,v0,4)else(R.grow (List.replicate v.1.n.toNat 0),⟨4,R.heap.length+1,sE⟩,0)):=by unfold RS.fresh;rw[show nth (ao p a).l 0=x from SZ];rfl
 rw[Yv];have W0:∀(X:ak×Int),X=R.val p x->True:=fun _ _=>trivial
 generalize R.val p x=X at hv ⊢;have fin:∀(R':RS) (v:ak) (tr:Int),(X.2≠0/\R'=R/\v=v0/\tr=X.2)\/(X.2=0/\(X.1.n<0\/16<X.1.n)/\R'=R/\v=v0/\tr=7)\/(X.2=0/\0<=X.1.n/\X.1.n<=16/\40<fF R.heap+X.1.n+1/\R'=R/\v=v0/\tr=4)->
   ai prog 94 [.agg (bV p),.pt 0 0 0 0,rI a] (R.e 41 [] [] []) (fun r l=>r=.bf [rV v,rI tr]/\l=R'.e 41 [] [] []):=fun R' v tr hh=>by
  refine aU func94 ntmps94 ?_;generalize hB:ids (R.e 41 [] [] [])=B;generalize hE:R'.e 41 [] [] []=E
  (refine S ?_;try exact jI)
  rcases hh with⟨c0,rfl,rfl,rfl⟩|⟨c0,c1,rfl,rfl,rfl⟩|⟨c0,c1,c2,c3,rfl,rfl,rfl⟩
  all_goals
   (have W:=jA SZ Ui;repeat' (first|refine aA fun K hK=>?_|refine ax ?_|(with_reducible refine gR 1 ?_);refine dL 1 [] [15] (bo 0 18) mixed ?_|(with_reducible refine gR 6 ?_);refine dQ 6 mixed ?_|(refine hK _ _ ?_;clear hK K)|(refine az ?_ ?_<;>intro hc<;>try exact jz)|refine cz 4 ?_|refine cM 5 ?_|refine cM 6 ?_|(refine cE (R:=R') (R':=R') (pre:=[]) (post:=[]) (pre':=[]) (post':=[]) hv rfl jl jl rfl rfl (u9 jB jB) rfl jD ?_;refine S ?_)|(refine cE (R:=R') (R':=R') (pre:=[]) (post:=[]) (pre':=[]) (post':=[]) hv rfl jl jl rfl rfl (T5 0 _ _ _) rfl jD ?_;refine S ?_)|(refine Ap (args':=[sK R'.heap]) Zv (show bK _ ⟨B,R'.e 41 [] [] _⟩ _ _ from⟨RS.uL (fun _=>rfl),trivial⟩) rfl jD ?_;refine S ?_)|refine ay ?_|exact jI|(clear hK K)))
  all_goals
   subst hE;exact gA (R':=R') (tl:=[(4,.var 29 (bV p)),(5,.var 82 (bM v0)),(6,.var 82 (bM X.1))]) rfl hB [.cell 6 82,.tmp 7] (T5 0 _ _ _) rfl rfl rfl
 by_cases c0:X.2=0
 rotate_left
 ·simp only;rw[if_pos c0];exact fin R v0 X.2 (.inl ⟨c0,rfl,rfl,rfl⟩)
 simp only;rw[if_neg (fun h=>h c0)];by_cases c1:X.1.n<0\/16<X.1.n
 ·rw[if_pos c1];exact fin R v0 7 (.inr (.inl ⟨c0,c1,rfl,rfl,rfl⟩))
 rw[if_neg c1];by_cases c2:40<fF R.heap+X.1.n+1
 ·rw[if_pos c2];exact fin R v0 4 (.inr (.inr ⟨c0,jB,jB,c2,rfl,rfl,rfl⟩))
 rw[if_neg c2];obtain⟨m,hm⟩:∃m:Nat,X.1.n=(m:Int):=⟨X.1.n.toNat,jB⟩;rw[hm]at c1 c2 ⊢;rw[Int.toNat_natCast];refine aU func94 ntmps94 ?_;generalize hB:ids (R.e 41 [] [] [])=B;generalize hE:(R.grow (List.replicate m 0)).e 41 [] [] []=E;refine S ?_
 (have W:=jA SZ (jA Ui (hm));repeat' (first|refine aA fun K hK=>?_|refine ax ?_|(with_reducible refine gR 1 ?_);refine dL 1 [] [15] (bo 0 18) mixed ?_|(with_reducible refine gR 6 ?_);refine dQ 6 mixed ?_|(with_reducible refine gR 8 ?_);refine dC 8 ([],[],[56,57]) [] (bo 0 13) mixed ?_|(refine hK _ _ ?_;clear hK K)|(refine az ?_ ?_<;>intro hc<;>try exact jz)|refine cz 4 ?_|refine cM 5 ?_|refine cM 6 ?_|refine GF (n:=m) (bJ 2 R.heap.length) ?_|refine BO 7 ?_|(refine cE (R:=R) (R':=R) (pre:=[]) (post:=[]) (pre':=[]) (post':=[]) hv rfl jl jl rfl rfl (u9 jB jB) rfl jD ?_;refine S ?_)|(refine cE (R:=R) (R':=R) (pre:=[]) (post:=[]) (pre':=[]) (post':=[]) hv rfl jl jl rfl rfl (T5 0 _ _ _) rfl jD ?_;refine S ?_)|(refine Ap (args':=[sK R.heap]) Zv (show bK _ ⟨B,R.e 41 [] [] _⟩ _ _ from⟨RS.uL (fun _=>rfl),trivial⟩) rfl jD ?_;refine S ?_)|refine ay ?_|exact jI|(clear hK K)))
 subst hE;refine G1 (R':=R.grow (List.replicate m 0)) (tl:=[(4,.var 29 (bV p)),(5,.var 82 (bM ⟨4,R.heap.length+1,sE⟩)),(6,.var 82 (bM X.1)),(7,.aK 22 1 [[.rs (bJ 2 R.heap.length) m 1 m]])]) rfl (RS.oU (r:=.aK 3 1 (List.replicate m [rI 0])) ?_ (fun k hk=>?_) ?_ (fun i=>?_) (Is jB jB jB jB)) hB [.cell 6 82,.tmp 7] (Is jB jB jB jB) rfl rfl rfl
 ·simp[RS.c,RS.grow]
 ·by_cases e:k=R.heap.length
  ·subst e;rw[if_pos rfl,mn];simp
  ·rw[if_neg e,lM jB]
 ·rw[List.map_replicate];rfl
 ·simp only[aD,List.cons_append,List.nil_append];have hge:=lK 2 R.heap.length;repeat' split
  all_goals first
   |rfl
   |omega
def Sh(R:RS)(v:ak)(hh:R.heap.length<=1000000) :
  ai prog 96 [.rs 2 R.heap.length 1 R.heap.length,rV v] (R.e 41 [] [] []) (fun r l=>r=R.lq v/\l=R.e 41 [] [] []):=by
 suffices key:∀R':RS,R'=R->ai prog 96 [.rs 2 R.heap.length 1 R.heap.length,rV v] (R.e 41 [] [] []) (fun r l=>r=R.lq v/\l=R'.e 41 [] [] []) from key R rfl
 intro R' S7;by_cases c:v.ty≠4\/v.n<1\/(R.heap.length:Int)<v.n
 all_goals
  unfold RS.lq;first|rw[if_pos c]|rw[if_neg c]
  refine aU func96 ntmps96 ?_;generalize hB:ids (R.e 41 [] [] [])=B;generalize hE:R'.e 41 [] [] []=E;refine S ?_
  (repeat' (first|refine aA fun K hK=>?_|refine ax ?_|(refine hK _ _ ?_;clear hK K)|(refine az ?_ ?_<;>intro hc<;>try exact jz)|refine cz 4 ?_|refine ay ?_|exact jI|(clear hK K)))
  subst hE;subst S7;exact Og (R':=R') (pre':=[]) (post':=[]) rfl hB [.tmp 4] cO rfl rfl (by simp[go_sem,yz])
def bt.lQ(h:cY p)(hd:bt p R):lO R:=by have P':=hd.cf h;have e:=hd.ma;have h1:=P'.pa;have h2:=P'.pc;have h3:=P'.a0;have h4:=P'.Bn;rw[e]at h1 h2 h3 h4;exact⟨hd.inv.ok,hd.one,by have:=hd.inv.aw;omega,h1,h2,h3,h4⟩
def BC{R':RS}(h:lO R)(h1:R'.aw=R.aw)(h2:R'.nf=R.nf)(h3:R'.jp=R.jp):lO R':=⟨⟨by rw[h1,h2];exact h.ok.nf,by rw[h1,h3];exact h.ok.jp⟩,by rw[h2];exact h.nf,by rw[h1];exact h.aw,by rw[h1,h2];exact h.pa,by rw[h1,h2];exact h.pc,by rw[h1,h2];exact h.a0,by rw[h1,h2];exact h.a1⟩
def J8(h:cY p)(R:RS)(hd:bt p R)(hk:(ao p (bB p R.st)).kind=12) :
  ai prog 55 [.agg (bV p),.pt 0 0 0 0,rI (bB p R.st)] (R.e 41 [] [] []) (fun r l=>r=rI (R.put p (bB p R.st)).2/\l=(R.put p (bB p R.st)).1.e 41 [] [] []):=by
 have hok:=hd.inv.ok;have TB:=hok.nf;have h1:=hd.one;have U':=hd.inv.aw;have S9:=nz R.heap;have UU:=hd.cells;have P':=hd.cf h;obtain⟨s0,s1,s2,s3,s4,s5⟩:=hd.stmt h;have Tr:=P'.sl;have VU:R.nf-1<R.aw.length:=jB;generalize ha:bB p R.st=a at*;obtain⟨x,y,S6,hx,hy⟩:=(h.ok.aa.shape a.toNat s1).1.two (.inr hk);have U2:=(h.ok.aa.shape a.toNat s1).2.1 x (by rw[S6];simp);have hky:=(h.ok.aa.shape a.toNat s1).2.1 y (by rw[S6];simp);have SZ:nth (nth p.aa.nodes a.toNat).l 0=x:=by rw[S6];rfl
 have UX:nth (nth p.aa.nodes a.toNat).l 1=y:=by rw[S6];rfl
 have Ui:(nth p.aa.nodes a.toNat).l.length=2:=by rw[S6];rfl
 have Ve:=rf h R hok h1 jB jB x U2.1 jB hx;have hvy:=rf h R hok h1 jB jB y hky.1 jB hy;have TF:=CM R.ah.slots (nth p.slots a.toNat) 4;have hl7:=Sh R (di R.ah.slots (nth p.slots a.toNat) 4) jB;have Yv:R.put p a=(let x:=R.val p x;let y:=R.val p y;let v:=di R.ah.slots (nth p.slots a.toNat) 4;if x.2≠0 then(R,x.2)else if y.2≠0 then(R,y.2)else if x.1.n<0\/((gU R.heap v).length:Int)<=x.1.n then(R,2)
   else((R.iE (v.n-1).toNat ((nth R.heap (v.n-1).toNat).set x.1.n.toNat y.1.n)).on,0)):=by
  unfold RS.put;rw[show nth (ao p a).l 0=x from SZ,show nth (ao p a).l 1=y from UX];rfl
 rw[Yv];generalize R.val p x=X at Ve ⊢;generalize R.val p y=Y at hvy ⊢;generalize hV:di R.ah.slots (nth p.slots a.toNat) 4=V at*;simp only;have hL:(R.lq V=.raw (.slice none 0 0)/\gU R.heap V=[])\/(1<=V.n/\V.n<=R.heap.length/\R.lq V=.rs (bJ 2 (V.n-1).toNat) (nth R.heap (V.n-1).toNat).length 1 (nth R.heap (V.n-1).toNat).length/\gU R.heap V=nth R.heap (V.n-1).toNat):=by
  unfold RS.lq gU;by_cases c:V.ty≠4\/V.n<1\/(R.heap.length:Int)<V.n
  ·rw[if_pos c,if_pos c];exact .inl ⟨rfl,rfl⟩
  ·rw[if_neg c,if_neg c];exact .inr ⟨jB,jB,rfl,rfl⟩
 have Zw:((gU R.heap V).length:Int)<=40:=by
  rcases hL with⟨_,e⟩|⟨c1,c2,_,e⟩
  ·rw[e];simp
  ·rw[e];have:=zr R.heap (V.n-1).toNat jB;omega
 have fin:∀(R':RS) (tr:Int),R'=R->(X.2≠0/\tr=X.2)\/(X.2=0/\Y.2≠0/\tr=Y.2)\/(X.2=0/\Y.2=0/\(X.1.n<0\/((gU R.heap V).length:Int)<=X.1.n)/\tr=2)->
   ai prog 55 [.agg (bV p),.pt 0 0 0 0,rI a] (R.e 41 [] [] []) (fun r l=>r=rI tr/\l=R'.e 41 [] [] []):=fun R' tr hR hh=>by
  rcases hL with⟨e1,e2⟩|⟨cv1,cv2,e1,e2⟩
  all_goals
   rw[e1]at hl7;rw[e2]at hh Zw;refine aU func55 ntmps55 ?_;generalize hB:ids (R.e 41 [] [] [])=B;generalize hE:R'.e 41 [] [] []=E
   (refine S ?_;try exact jI)
   rcases hh with⟨c0,rfl⟩|⟨c0,c1,rfl⟩|⟨c0,c1,c2,rfl⟩
   all_goals
    (have W:=jA SZ (jA UX (Ui));repeat' (first|refine aA fun K hK=>?_|refine ax ?_|(with_reducible refine gR 2 ?_);refine dL 2 [] [10] (bo 0 13) mixed ?_|(with_reducible refine gR 5 ?_);refine dL 5 [] [10] (bo 0 13) mixed ?_|(with_reducible refine gR 8 ?_);refine dL 8 [] [19] (bo 0 21) mixed ?_|(with_reducible refine gR 9 ?_);refine dE 9 (bo 0 7) mixed ?_|(refine hK _ _ ?_;clear hK K)|(refine az ?_ ?_<;>intro hc<;>try exact jz)|refine cz 4 ?_|refine cM 5 ?_|refine cM 6 ?_|refine cM 7 ?_|refine cM 8 ?_|(refine cE (R:=R) (R':=R) (pre:=[]) (post:=[]) (pre':=[]) (post':=[]) Ve rfl jl jl rfl rfl cO rfl jD ?_;refine S ?_)|(refine cE (R:=R) (R':=R) (pre:=[]) (post:=[]) (pre':=[]) (post':=[]) hvy rfl jl jl rfl rfl cO rfl jD ?_;refine S ?_)|(refine Ap (args':=[so R.ah.slots,rI (nth p.slots a.toNat),rI 4]) TF (show bK _ ⟨B,R.e 41 [] [] _⟩ _ _ from⟨RS.pY VU (fun _=>rfl) rfl,.same _ rfl,.same _ rfl,trivial⟩) rfl jD ?_;refine S ?_)|(refine cL (args':=[so R.ah.slots,rI (nth p.slots a.toNat),rI 4]) TF (show bK _ ⟨B,R.e 41 [] [] _⟩ _ _ from⟨RS.pY VU (fun _=>rfl) rfl,.same _ rfl,.same _ rfl,trivial⟩) rfl jD ?_;refine S ?_)|(refine It (R:=R) (R':=R) (pre:=[]) (post:=[]) (pre':=[]) (post':=[]) hl7 rfl jl jl rfl rfl cO rfl jD ?_;refine S ?_)|refine ay ?_|exact jI|(clear hK K)))
    all_goals
     subst hE;subst hR;exact gA (R':=R') (pre':=[]) (post':=[]) rfl hB [.tmp 6] cO rfl rfl rfl
 by_cases c0:X.2=0
 rotate_left
 ·rw[if_pos c0];exact fin R X.2 rfl (.inl ⟨c0,rfl⟩)
 rw[if_neg (fun h=>h c0)];by_cases c1:Y.2=0
 rotate_left
 ·rw[if_pos c1];exact fin R Y.2 rfl (.inr (.inl ⟨c0,c1,rfl⟩))
 rw[if_neg (fun h=>h c1)];by_cases c2:X.1.n<0\/((gU R.heap V).length:Int)<=X.1.n
 ·rw[if_pos c2];exact fin R 2 rfl (.inr (.inr ⟨c0,c1,c2,rfl⟩))
 rw[if_neg c2];rcases hL with⟨e1,e2⟩|⟨cv1,cv2,e1,e2⟩
 ·rw[e2]at c2;exfalso;simp at c2;omega
 rw[e1]at hl7;rw[e2]at c2 Zw;have hkv:(V.n-1).toNat<R.heap.length:=jB;have UB:=uA (R.iE (V.n-1).toNat ((nth R.heap (V.n-1).toNat).set X.1.n.toNat Y.1.n)) (BC (hd.lQ h) rfl rfl rfl);have Ta:(R.iE (V.n-1).toNat ((nth R.heap (V.n-1).toNat).set X.1.n.toNat Y.1.n)).heap.length=R.heap.length:=by simp[RS.iE]
 refine aU func55 ntmps55 ?_;generalize hB:ids (R.e 41 [] [] [])=B;generalize hE:(R.iE (V.n-1).toNat ((nth R.heap (V.n-1).toNat).set X.1.n.toNat Y.1.n)).on.e 41 [] [] []=E;refine S ?_
 (have W:=jA SZ (jA UX (Ui));repeat' (first|refine aA fun K hK=>?_|refine ax ?_|(with_reducible refine gR 2 ?_);refine dL 2 [] [10] (bo 0 13) mixed ?_|(with_reducible refine gR 5 ?_);refine dL 5 [] [10] (bo 0 13) mixed ?_|(with_reducible refine gR 8 ?_);refine dL 8 [] [19] (bo 0 21) mixed ?_|(with_reducible refine gR 9 ?_);refine dE 9 (bo 0 7) mixed ?_|(with_reducible refine gR 12 ?_);refine dE 12 (bo 0 15) mixed ?_|(refine hK _ _ ?_;clear hK K)|(refine az ?_ ?_<;>intro hc<;>try exact jz)|refine cz 4 ?_|refine cM 5 ?_|refine cM 6 ?_|refine cM 7 ?_|refine cM 8 ?_|(refine cE (R:=R) (R':=R) (pre:=[]) (post:=[]) (pre':=[]) (post':=[]) Ve rfl jl jl rfl rfl cO rfl jD ?_;refine S ?_)|(refine cE (R:=R) (R':=R) (pre:=[]) (post:=[]) (pre':=[]) (post':=[]) hvy rfl jl jl rfl rfl cO rfl jD ?_;refine S ?_)|(refine Ap (args':=[so R.ah.slots,rI (nth p.slots a.toNat),rI 4]) TF (show bK _ ⟨B,R.e 41 [] [] _⟩ _ _ from⟨RS.pY VU (fun _=>rfl) rfl,.same _ rfl,.same _ rfl,trivial⟩) rfl jD ?_;refine S ?_)|(refine cL (args':=[so R.ah.slots,rI (nth p.slots a.toNat),rI 4]) TF (show bK _ ⟨B,R.e 41 [] [] _⟩ _ _ from⟨RS.pY VU (fun _=>rfl) rfl,.same _ rfl,.same _ rfl,trivial⟩) rfl jD ?_;refine S ?_)|(refine It (R:=R) (R':=R) (pre:=[]) (post:=[]) (pre':=[]) (post':=[]) hl7 rfl jl jl rfl rfl cO rfl jD ?_;refine S ?_)|(refine cE (R:=R.iE (V.n-1).toNat ((nth R.heap (V.n-1).toNat).set X.1.n.toNat Y.1.n)) (R':=(R.iE (V.n-1).toNat ((nth R.heap (V.n-1).toNat).set X.1.n.toNat Y.1.n)).on) (pre:=[]) (post:=[]) (pre':=[]) (post':=[]) UB (congrArg (Hp.mk B) (RS.ux (R:=R) (k:=(V.n-1).toNat) (l:=(nth R.heap (V.n-1).toNat).set X.1.n.toNat Y.1.n) hkv jE rfl fun j=>rfl)) (Nat.le_of_eq RS.aO) jl rfl rfl cO rfl jD ?_;refine S ?_)|refine ay ?_|exact jI|(clear hK K)))
 subst hE;exact gA (R':=(R.iE (V.n-1).toNat ((nth R.heap (V.n-1).toNat).set X.1.n.toNat Y.1.n)).on) (pre':=[]) (post':=[]) rfl hB [.tmp 6] cO rfl rfl rfl
attribute [go_sem] uC uQ
theorem Fb{p:ab}(R:RS):∀(l:SI) (a:List ak) (k:Nat),k<=l.length->(∀j,j<k->(R.val p (nth l j)).2=0)->R.args p l a=R.args p (l.drop k) (a++(l.take k).map fun x=>(R.val p x).1)
 |l,a,0,_,_=>by simp
 |[],a,k+1,h,_=>by simp at h
 |x::l,a,k+1,h,h0=>by
  have e0:(R.val p x).2=0:=h0 0 jB;conv=>lhs;unfold RS.args
  rw[if_neg (fun h=>h e0),Fb R l _ k (by simpa using h) fun j hj=>h0 (j+1) jB];simp
def Q4(R:RS)(p:ab)(x:Int)(l:SI)(a:List ak):R.args p (x::l) a=if(R.val p x).2≠0 then(a,(R.val p x).2)else R.args p l (a++[(R.val p x).1]):=by conv=>lhs;unfold RS.args
def Ly(R:RS)(p:ab)(a:List ak):R.args p [] a=(a,0):=by unfold RS.args;rfl
def H9(h:cY p)(R:RS)(hd:bt p R)(a:Int)(h0:0<=a)(hl:a.toNat<p.aa.nodes.length)(hk:(ao p a).kind=21) :
  ai prog 54 [.agg (bV p),.pt 0 0 0 0,rI a] (R.e 41 [] [] []) (fun r l=>r=rI (R.call p a).2/\l=(R.call p a).1.e 41 [] [] []):=by
 have hok:=hd.inv.ok;have TB:=hok.nf;have h1:=hd.one;have U':=hd.inv.aw;have S9:=nz R.heap;have UU:=hd.cells;have UA:=hd.full;obtain⟨k,Ug⟩:=callee h hl hk;have W1:=(h.ok.aa.shape a.toNat hl);have Va:=W1.1.call hk;have SX:=W1.2.1;have Zx:(nth p.aa.nodes a.toNat).l.length<=3:=Ug.yq;have hv:∀j,j<(nth p.aa.nodes a.toNat).l.length->ai prog 56 [.agg (bV p),.pt 0 0 0 0,rI (nth (nth p.aa.nodes a.toNat).l j)] (R.e 41 [] [] []) (fun r l=>r=.bf [rV (R.val p (nth (nth p.aa.nodes a.toNat).l j)).1,rI (R.val p (nth (nth p.aa.nodes a.toNat).l j)).2]/\l=R.e 41 [] [] []):=fun j hj=>by have hm:=er hj;have hb:=SX _ hm;exact rf h R hok h1 jB jB _ hb.1 jB (Va _ hm)
 generalize hL:(nth p.aa.nodes a.toNat).l=L at*;suffices key:∀(R':RS) (tr:Int),(R',tr)=R.call p a->ai prog 54 [.agg (bV p),.pt 0 0 0 0,rI a] (R.e 41 [] [] []) (fun r l=>r=rI tr/\l=R'.e 41 [] [] []) from key _ _ rfl
 intro R' tr S7;unfold RS.call at S7;rw[show(ao p a).l=L from hL]at S7;refine aU func54 ntmps54 ?_;generalize hB:ids (R.e 41 [] [] [])=B;generalize hE:R'.e 41 [] [] []=E;refine S ?_
 (have W:=hL;repeat' (first|refine aA fun K hK=>?_|refine ax ?_|(refine hK _ _ ?_;clear hK K)|(refine az ?_ ?_<;>intro hc<;>try exact jz)|refine cz 4 ?_|refine cM 5 ?_|refine pm 6 ?_|refine ay ?_|exact jI|(clear hK K)))
 have Tc:=hK;clear hK;have hta:∀k,k<=L.length->((L.take k).map fun x=>(R.val p x).1).length=k:=fun k hk=>by simp;omega
 refine fa (S:=Nat) [(6,1),(8,4),(20,25)] (fun k=>k<=L.length/\∀j,j<k->(R.val p (nth L j)).2=0) (fun k=>[(8,.rs 6 k 3 k),(9,rI k)])
  (fun k=>⟨B,R.e 41 [] [] [(4,.var 29 (bV p)),(5,.var 59 (dO (nth p.aa.nodes a.toNat))),(6,.aK 82 3 (((L.take k).map fun x=>(R.val p x).1).map bM))]⟩)
  (fun k=>L.length-k) 0 ⟨jB,fun j hj=>jB⟩ (fb rfl cI) ?_
 rintro q ⟨hq,hq0⟩ Kr S8;have D':=hta q hq;have Tf:=Fb (p:=p) R L [] q hq hq0;rw[List.nil_append]at Tf;by_cases hqL:q<L.length
 ·have hvq:=hv q hqL;have Zy:L.drop q=nth L q::L.drop (q+1):=by rw[dV hqL];exact List.drop_eq_getElem_cons hqL
  rw[Zy,Q4]at Tf;generalize hX:R.val p (nth L q)=X at*;by_cases SZ:X.2=0
  ·(refine S ?_;try exact jI)
   (have W:=jA hL D';repeat' (first|refine aA fun K hK=>?_|refine ax ?_|(with_reducible refine gR 6 ?_);refine dL 6 [] [11] (bo 0 14) mixed ?_|(refine hK _ _ ?_;clear hK K)|(refine az ?_ ?_<;>intro hc<;>try exact jz)|refine cM 7 ?_|(refine cE (R:=R) (R':=R) (pre:=[]) (post:=[]) (pre':=[]) (post':=[]) hvq rfl jl jl rfl rfl cO rfl jD ?_;refine S ?_)|refine ay ?_|exact jI|(clear hK K)))
   have e6:((L.take (q+1)).map fun x=>(R.val p x).1).map bM=List.map bM (List.map (fun x=>(R.val p x).1) (L.take q))++[bM X.1]:=by rw[xM hqL];simp[hX]
   refine S8 _ _ (Hx (R0:=R) (R':=R) (pre:=[]) (post:=[]) (pre':=[]) (post':=[]) (q+1) [(4,.var 29 (bV p)),(5,.var 59 (dO (nth p.aa.nodes a.toNat))),(6,.aK 82 3 (List.map bM (List.map (fun x=>(R.val p x).1) (L.take q))++[bM X.1]))] 7 (.var 82 (bM X.1)) ⟨jB,fun j hj=>?_⟩ (by show L.length-(q+1)<L.length-q;omega) rfl hB ?_ jB rfl rfl rfl (fun i r hi=>?_) (by simp[ids]))
   ·by_cases e:j<q
    ·exact hq0 j e
    ·rw[show j=q from jB,hX];exact SZ
   ·show Hp.mk B (R.e _ _ _ [_,_,(6,Row.aK _ _ _)])=_;rw[e6]
   ·simp only[aD]at hi;repeat' split at hi
    all_goals first
     |(cases hi;exact Cx _ _)
     |(cases hi;exact C6 _ _)
     |(cases hi;exact DC (I8 (jo _) (Rq (by simp[go_sem]) (Bh _))))
     |cases hi
  ·rw[if_pos SZ]at Tf;rw[Tf]at S7;simp only at S7;rw[if_pos SZ]at S7;obtain⟨rfl,rfl⟩:=Prod.mk.inj S7;refine S ?_
   (have W:=jA hL D';repeat' (first|refine aA fun K hK=>?_|refine ax ?_|(with_reducible refine gR 6 ?_);refine dL 6 [] [11] (bo 0 14) mixed ?_|(refine hK _ _ ?_;clear hK K)|(refine az ?_ ?_<;>intro hc<;>try exact jz)|refine cM 7 ?_|(refine cE (R:=R') (R':=R') (pre:=[]) (post:=[]) (pre':=[]) (post':=[]) hvq rfl jl jl rfl rfl cO rfl jD ?_;refine S ?_)|refine ay ?_|exact jI|(clear hK K)))
   subst hE;exact gA (R':=R') (pre':=[]) (post':=[]) rfl hB [.tmp 6] cO rfl rfl rfl
 ·have VW:q=L.length:=jB;subst VW;rw[List.drop_length,List.take_length,Ly]at Tf;rw[List.take_length]at D';rw[Tf]at S7;simp only at S7;rw[if_neg (fun h=>h rfl),Ug.at_]at S7;generalize hA:L.map (fun x=>(R.val p x).1)=args at*;by_cases h8:8<=R.nf
  ·rw[if_pos h8]at S7;obtain⟨rfl,rfl⟩:=Prod.mk.inj S7;rw[List.take_length,hA];refine S ?_
   (have W:=jA hL D';repeat' (first|refine aA fun K hK=>?_|refine ax ?_|(refine hK _ _ ?_;clear hK K)|(refine az ?_ ?_<;>intro hc<;>try exact jz)|refine Tc _ _ ?_|refine ay ?_|exact jI|(clear hK K)))
   subst hE;exact gA (R':=R') (pre':=[]) (post':=[]) rfl hB [.tmp 6] cO rfl rfl rfl
  ·rw[if_neg h8]at S7;obtain⟨rfl,rfl⟩:=Prod.mk.inj S7;rw[List.take_length,hA];refine S ?_
   (have W:=jA hL D';repeat' (first|refine aA fun K hK=>?_|refine ax ?_|(refine hK _ _ ?_;clear hK K)|(refine az ?_ ?_<;>intro hc<;>try exact jz)|refine Tc _ _ ?_|refine ay ?_|exact jI|(clear hK K)))
   have hAl:L.length=args.length:=by rw[<-hA];simp
   have Tp:dM (fun i=>[6].contains i) ⟨B,R.e 41 [] [] [(4,.var 29 (bV p)),(5,.var 59 (dO (nth p.aa.nodes a.toNat))),(6,.aK 82 3 (args.map bM))]⟩ (.rs 6 L.length 3 L.length) (bh bM 3 args):=
    dM.row args rfl (by show aD (R.e _ _ _ _) 6=_;rw[RS.DB 6 jB jB];rfl) hAl
   refine JZ (R:=R) (R':=R) (t:=41) (pre:=[]) (post:=[]) (t':=41) (pre':=[]) (post':=[]) [6] [(8,bh bM 3 args),(19,.any)] [(4,.var 29 (bV p)),(5,.var 59 (dO (nth p.aa.nodes a.toNat))),(6,.aK 82 3 (args.map bM))] rfl rfl rfl hB rfl rfl ?_ ?_ ?_
   ·refine⟨.inr (Cx _ _),.inr (C6 _ _),.inl rfl,trivial⟩
   ·simp only[mg,List.foldl_cons,List.foldl_nil,List.set_cons_zero,List.set_cons_succ,bK];repeat' (first|exact jI|exact E0 _|exact Tp|exact .same _ rfl|exact .drop _|refine jA ?_ ?_)
   have Tc:=hK;clear hK
   (refine S ?_;try exact jI)
   have Ub:args.length=(nth p.aa.aq k).params.length:=by rw[<-hAl,<-hL];exact Ug.args
   have Vd:=F7 h k Ug.lt args Ub R.aw.length;have Tm:(nth p.aa.aq k).name=(nth p.aa.nodes a.toNat).name:=Ug.name;have hklt:=Ug.lt;have Yw:=h.ok.aa.aq;refine fa (S:=Nat) [(6,1),(12,1),(51,31)] (fun i=>i<=k) (fun i=>[(12,rI i)]) (fun i=>⟨B,R.e 41 [] [] [(4,.var 29 (bV p)),(5,.var 59 (dO (nth p.aa.nodes a.toNat)))]⟩)
    (fun i=>k-i) 0 jB (fb rfl cI) ?_
   rintro i hi Ks Zz;by_cases e:i=k
   ·subst e;refine S ?_
    (have W:=jA Tm UA;repeat' (first|refine aA fun K hK=>?_|refine ax ?_|(with_reducible refine gR 15 ?_);refine dE 15 (bo 0 10) mixed ?_|(with_reducible refine gR 16 ?_);refine dC 16 ([],[],[77,78]) [] (bo 0 14) mixed ?_|(refine hK _ _ ?_;clear hK K)|(refine az ?_ ?_<;>intro hc<;>try exact jz)|refine cN Vd ?_|refine BO 6 ?_|refine ay ?_|exact jI|(clear hK K)))
    subst hE;have hg0:=lK 0 R.aw.length;have TU:=lK 1 R.aw.length;have UE:bJ 1 R.aw.length≠bJ 0 R.aw.length:=fun e=>by have:=(sk jB jB e).1;omega
    refine G1 (R':=R.push (gg p i args)) (tl:=[(4,.var 29 (bV p)),(5,.var 59 (dO (nth p.aa.nodes a.toNat))),(6,.aK 76 3 [uQ p i args R.aw.length])]) rfl (RS.oL hok UA ?_ (fun j hj=>?_) (fun j=>?_) cO) hB [.tmp 6] cO rfl rfl rfl
    ·simp[RS.c,RS.push,UA]
    ·rfl
    ·simp only[aD,uC,List.cons_append,List.nil_append];repeat' split
     all_goals first
      |rfl
      |omega
   ·have Tb:=eq_false (h.names.one i k jB Ug.lt);rw[Tm]at Tb;refine S ?_
    (have W:=Tb;repeat' (first|refine aA fun K hK=>?_|refine ax ?_|(with_reducible refine gR 15 ?_);refine dE 15 (bo 0 10) mixed ?_|(refine hK _ _ ?_;clear hK K)|(refine az ?_ ?_<;>intro hc<;>try exact jz)|(refine Zz _ _ (fc (i+1) jB (by show k-(i+1)<k-i;omega) rfl cI))|refine ay ?_|exact jI|(clear hK K)))
def IL(R:RS)(p:ab)(x:Int):(R.fresh p x).1.aw=R.aw/\(R.fresh p x).1.nf=R.nf/\(R.fresh p x).1.jp=R.jp/\R.heap.length<=(R.fresh p x).1.heap.length:=by
 unfold RS.fresh;simp only;split
 ·exact⟨rfl,rfl,rfl,Nat.le_refl _⟩
 split
 ·exact⟨rfl,rfl,rfl,Nat.le_refl _⟩
 split
 ·exact⟨rfl,rfl,rfl,Nat.le_refl _⟩
 ·exact⟨rfl,rfl,rfl,jE⟩
def De(R:RS)(p:ab)(x:Int):R.aw.length<=(R.call p x).1.aw.length/\R.heap.length<=(R.call p x).1.heap.length:=by
 unfold RS.call;simp only;split
 ·exact⟨Nat.le_refl _,Nat.le_refl _⟩
 split
 ·exact⟨Nat.le_refl _,Nat.le_refl _⟩
 ·exact⟨by simp[RS.push],Nat.le_refl _⟩
def Nh(h:cY p)(R:RS)(hd:bt p R)(inp:SI)(hn:inp.length<=1000)(TK:jr p (bB p R.st))(hw:¬kn p R.st (bB p R.st) inp) :
  ai prog 53 [.agg (bV p),.pt 0 0 0 0,rI (bB p R.st),bh eI 1 inp] (R.e 41 [] [] []) (fun r l=>r=rI (R.right p (bB p R.st) inp).2/\l=(R.right p (bB p R.st) inp).1.e 41 [] [] []):=by
 have hok:=hd.inv.ok;have TB:=hok.nf;have h1:=hd.one;have U':=hd.inv.aw;have S9:=nz R.heap;have UU:=hd.cells;have ZA:=hd.gV;have hin1:=hd.hZ;have P':=hd.cf h;obtain⟨s0,s1,s2,s3,s4,s5⟩:=hd.stmt h;have Tr:=P'.sl;have U4:=P'.s0 TK;rw[hd.ma]at U4;have UB:=hd.lQ h;unfold kn at hw;generalize ha:bB p R.st=a at*;obtain⟨x,S6,Vk⟩:=(h.ok.aa.shape a.toNat s1).1.right TK;have U2:=(h.ok.aa.shape a.toNat s1).2.1 x (by rw[S6];simp);have SZ:nth (nth p.aa.nodes a.toNat).l 0=x:=by rw[S6];rfl
 have UD:nth (ao p a).l 0=x:=SZ;have Ui:(nth p.aa.nodes a.toNat).l.length=1:=by rw[S6];rfl
 have hxn:x.toNat<p.aa.nodes.length:=jB;have Yx:∀(R1:RS) (v:ak),R1.aw=R.aw->R1.nf=R.nf->R1.jp=R.jp->ai prog 93 [.agg (bV p),.pt 0 0 0 0,rI a,.agg (bM v)] (R1.e 41 [] [] []) (fun r l=>r=.bf []/\l=(R1.store p a v).e 41 [] [] []):=fun R1 v e1 e2 e3=> M3 p a v R1 (BC UB e1 e2 e3) s0 jB Tr (by rw[e1,e2];exact U4)
 suffices key:∀(R':RS) (tr:Int),(R',tr)=R.right p a inp->ai prog 53 [.agg (bV p),.pt 0 0 0 0,rI a,bh eI 1 inp] (R.e 41 [] [] []) (fun r l=>r=rI tr/\l=R'.e 41 [] [] []) from key _ _ rfl
 intro R' tr S7;unfold RS.right at S7;simp only[UD]at S7;have Wj:(ao p x).kind=bA p.aa.nodes x:=rfl;rw[UD,Wj]at hw;rw[Wj]at S7;by_cases k21:bA p.aa.nodes x=21
 ·rw[if_pos k21]at S7;have Tn:=H9 h R hd x U2.1 hxn k21;have Vd:=De R p x;rw[<-S7]at Tn Vd;have k21':(nth p.aa.nodes x.toNat).kind=21:=k21;refine aU func53 ntmps53 ?_;generalize hB:ids (R.e 41 [] [] [])=B;generalize hE:R'.e 41 [] [] []=E;refine S ?_
  (have W:=jA SZ (jA Ui (k21'));repeat' (first|refine aA fun K hK=>?_|refine ax ?_|(refine hK _ _ ?_;clear hK K)|(refine az ?_ ?_<;>intro hc<;>try exact jz)|refine cz 4 ?_|(refine cE (R:=R) (R':=R') (pre:=[]) (post:=[]) (pre':=[]) (post':=[]) Tn rfl Vd.1 Vd.2 rfl rfl cO rfl jD ?_;refine S ?_)|refine ay ?_|exact jI|(clear hK K)))
  subst hE;exact gA (R':=R') (pre':=[]) (post':=[]) rfl hB [.tmp 8] cO rfl rfl rfl
 rw[if_neg k21]at S7;by_cases k19:bA p.aa.nodes x=19
 ·rw[if_pos k19]at S7;have SX:R.in_<inp.length:=Classical.byContradiction fun hh=>hw ⟨TK,k19,by show(inp.length:Int)<=R.in_;omega⟩
  obtain⟨rfl,rfl⟩:=Prod.mk.inj S7;have P':=Yx ({ R with in_:=R.in_+1 }:RS) (vI (nth inp R.in_.toNat)) rfl rfl rfl;have k19':(nth p.aa.nodes x.toNat).kind=19:=k19;refine aU func53 ntmps53 ?_;generalize hB:ids (R.e 41 [] [] [])=B;generalize hE:(({ R with in_:=R.in_+1 }:RS).store p a (vI (nth inp R.in_.toNat))).e 41 [] [] []=E;refine S ?_
  (have W:=jA SZ (jA Ui (k19'));repeat' (first|refine aA fun K hK=>?_|refine ax ?_|(refine hK _ _ ?_;clear hK K)|(refine az ?_ ?_<;>intro hc<;>try exact jz)|refine cz 4 ?_|refine cM 5 ?_|refine cp (vJ _) ?_|(refine cE (R:={ R with in_:=R.in_+1 }) (R':=({ R with in_:=R.in_+1 }:RS).store p a (vI (nth inp R.in_.toNat))) (pre:=[]) (post:=[]) (pre':=[]) (post':=[]) P' rfl (Nat.le_of_eq (by rw[RS.store,RS.on,<-RS.aO,RS.dK,<-RS.aO])) jl rfl rfl cO rfl jD ?_;refine S ?_)|refine ay ?_|exact jI|(clear hK K)))
  subst hE;exact gA (R':=({ R with in_:=R.in_+1 }:RS).store p a (vI (nth inp R.in_.toNat))) (pre':=[]) (post':=[]) rfl hB [.tmp 8] cO rfl rfl rfl
 rw[if_neg k19]at S7;have Ta:∀(R1:RS) (v:ak),R1.aw.length<=(R1.store p a v).aw.length:=fun R1 v=>Nat.le_of_eq (by rw[RS.store,RS.on,<-RS.aO,RS.dK,<-RS.aO])
 by_cases k20:bA p.aa.nodes x=20
 ·rw[if_pos k20]at S7;have hf:=JJ h R hd x U2.1 hxn k20;obtain⟨z1,z2,z3,z4⟩:=IL R p x;have k20':(nth p.aa.nodes x.toNat).kind=20:=k20;generalize R.fresh p x=Z at*;have z5:R.aw.length<=Z.1.aw.length:=by rw[z1];exact Nat.le_refl _
  have P':=Yx Z.1 Z.2.1 z1 z2 z3;by_cases hz:Z.2.2=0
  ·rw[if_pos hz]at S7;obtain⟨rfl,rfl⟩:=Prod.mk.inj S7;refine aU func53 ntmps53 ?_;generalize hB:ids (R.e 41 [] [] [])=B;generalize hE:(Z.1.store p a Z.2.1).e 41 [] [] []=E;refine S ?_
   (have W:=jA SZ (jA Ui (k20'));repeat' (first|refine aA fun K hK=>?_|refine ax ?_|(refine hK _ _ ?_;clear hK K)|(refine az ?_ ?_<;>intro hc<;>try exact jz)|refine cz 4 ?_|refine cM 5 ?_|(refine cE (R:=R) (R':=Z.1) (pre:=[]) (post:=[]) (pre':=[]) (post':=[]) hf rfl z5 z4 rfl rfl cO rfl jD ?_;refine S ?_)|(refine cE (R:=Z.1) (R':=Z.1.store p a Z.2.1) (pre:=[]) (post:=[]) (pre':=[]) (post':=[]) P' rfl (Ta _ _) jl rfl rfl cO rfl jD ?_;refine S ?_)|refine ay ?_|exact jI|(clear hK K)))
   subst hE;exact gA (R':=Z.1.store p a Z.2.1) (pre':=[]) (post':=[]) rfl hB [.tmp 8] cO rfl rfl rfl (hv:=by first|rfl|exact congrArg _ (congrArg _ hz))
  ·rw[if_neg hz]at S7;obtain⟨rfl,rfl⟩:=Prod.mk.inj S7;refine aU func53 ntmps53 ?_;generalize hB:ids (R.e 41 [] [] [])=B;generalize hE:Z.1.e 41 [] [] []=E;refine S ?_
   (have W:=jA SZ (jA Ui (k20'));repeat' (first|refine aA fun K hK=>?_|refine ax ?_|(refine hK _ _ ?_;clear hK K)|(refine az ?_ ?_<;>intro hc<;>try exact jz)|refine cz 4 ?_|refine cM 5 ?_|(refine cE (R:=R) (R':=Z.1) (pre:=[]) (post:=[]) (pre':=[]) (post':=[]) hf rfl z5 z4 rfl rfl cO rfl jD ?_;refine S ?_)|refine ay ?_|exact jI|(clear hK K)))
   subst hE;exact gA (R':=Z.1) (pre':=[]) (post':=[]) rfl hB [.tmp 8] cO rfl rfl rfl
 rw[if_neg k20]at S7;have hE9:bT (bA p.aa.nodes x):=by
  rcases Vk with e|e|e|e
  ·exact e
  ·exact(k19 e).elim
  ·exact(k20 e).elim
  ·exact(k21 e).elim
 have Ve:=rf h R hok h1 jB jB x U2.1 jB hE9;have hE1:1<=(nth p.aa.nodes x.toNat).kind/\(nth p.aa.nodes x.toNat).kind<=9:=hE9;have hE2:=hE1.1;have hE3:=hE1.2;generalize R.val p x=X at*;have P':=Yx R X.1 rfl rfl rfl;by_cases hz:X.2=0
 ·rw[if_pos hz]at S7;obtain⟨rfl,rfl⟩:=Prod.mk.inj S7;refine aU func53 ntmps53 ?_;generalize hB:ids (R.e 41 [] [] [])=B;generalize hE:(R.store p a X.1).e 41 [] [] []=E;refine S ?_
  (have W:=jA SZ Ui;repeat' (first|refine aA fun K hK=>?_|refine ax ?_|(refine hK _ _ ?_;clear hK K)|(refine az ?_ ?_<;>intro hc<;>try exact jz)|refine cz 4 ?_|refine cM 5 ?_|(refine cE (R:=R) (R':=R) (pre:=[]) (post:=[]) (pre':=[]) (post':=[]) Ve rfl jl jl rfl rfl cO rfl jD ?_;refine S ?_)|(refine cE (R:=R) (R':=R.store p a X.1) (pre:=[]) (post:=[]) (pre':=[]) (post':=[]) P' rfl (Ta _ _) jl rfl rfl cO rfl jD ?_;refine S ?_)|refine ay ?_|exact jI|(clear hK K)))
  subst hE;exact gA (R':=R.store p a X.1) (pre':=[]) (post':=[]) rfl hB [.tmp 8] cO rfl rfl rfl (hv:=by first|rfl|exact congrArg _ (congrArg _ hz))
 ·rw[if_neg hz]at S7;obtain⟨rfl,rfl⟩:=Prod.mk.inj S7;refine aU func53 ntmps53 ?_;generalize hB:ids (R'.e 41 [] [] [])=B;suffices key2:∀R2:RS,R2=R'->dw _ _ (ju _ _ fun r l=>r=rI X.2/\l=R2.e 41 [] [] []) _ _ from key2 R' rfl
  intro R2 TO;generalize hE:R2.e 41 [] [] []=E;refine S ?_
  (have W:=jA SZ Ui;repeat' (first|refine aA fun K hK=>?_|refine ax ?_|(refine hK _ _ ?_;clear hK K)|(refine az ?_ ?_<;>intro hc<;>try exact jz)|refine cz 4 ?_|refine cM 5 ?_|(refine cE (R:=R') (R':=R') (pre:=[]) (post:=[]) (pre':=[]) (post':=[]) Ve rfl jl jl rfl rfl cO rfl jD ?_;refine S ?_)|refine ay ?_|exact jI|(clear hK K)))
  subst hE;subst TO;exact gA (R':=R2) (pre':=[]) (post':=[]) rfl hB [.tmp 8] cO rfl rfl rfl
def B8(R:RS)(p:ab)(a:Int)(v:ak):(R.store p a v).aw.length=R.aw.length:=by rw[RS.store,RS.on,<-RS.aO,RS.dK,<-RS.aO]
def OL(R:RS)(p:ab)(a:Int)(inp:SI):R.aw.length<=(R.right p a inp).1.aw.length/\R.heap.length<=(R.right p a inp).1.heap.length:=by
 unfold RS.right;simp only;split
 ·exact De R p _
 split
 ·exact⟨Nat.le_of_eq (B8 _ _ _ _).symm,Nat.le_refl _⟩
 split
 ·obtain⟨f1,f2,f3,f4⟩:=IL R p (nth (ao p a).l 0);split
  ·exact⟨Nat.le_of_eq ((congrArg List.length f1).symm.trans (B8 _ _ _ _).symm),f4⟩
  ·exact⟨Nat.le_of_eq (congrArg List.length f1).symm,f4⟩
 ·split
  ·exact⟨Nat.le_of_eq (B8 _ _ _ _).symm,Nat.le_refl _⟩
  ·exact⟨Nat.le_refl _,Nat.le_refl _⟩
def Nk(R:RS)(p:ab)(a:Int):R.aw.length<=(R.put p a).1.aw.length/\R.heap.length<=(R.put p a).1.heap.length:=by
 unfold RS.put;simp only;split
 ·exact⟨Nat.le_refl _,Nat.le_refl _⟩
 split
 ·exact⟨Nat.le_refl _,Nat.le_refl _⟩
 split
 ·exact⟨Nat.le_refl _,Nat.le_refl _⟩
 ·refine⟨Nat.le_of_eq RS.aO,?_⟩;show R.heap.length<=(R.heap.set _ _).length;simp
def Ou(h:cY p)(R:RS)(hd:bt p R)(inp:SI)(hn:inp.length<=1000)(TK:jr p (bB p R.st))(hw:¬kn p R.st (bB p R.st) inp) :
  ai prog 31 [.agg (bV p),.pt 0 0 0 0,rI (bB p R.st),bh eI 1 inp] (R.e 41 [] [] []) (fun r l=>r=rI (R.right p (bB p R.st) inp).2/\l=((R.right p (bB p R.st) inp).1).e 41 [] [] []):=by
 have hok:=hd.inv.ok;have TB:=hok.nf;have h1:=hd.one;have U':=hd.inv.aw;have S9:=nz R.heap;have UU:=hd.cells;have P':=hd.cf h;obtain⟨s0,s1,s2,s3,s4,s5⟩:=hd.stmt h;have Tr:=P'.sl;have UB:=hd.lQ h;have hx:=Nh h R hd inp hn TK hw;have Ta:=OL R p (bB p R.st) inp;unfold jr at TK;generalize R.right p (bB p R.st) inp=Z at*;generalize bB p R.st=a at*;refine aU func31 ntmps31 ?_;generalize hB:ids (R.e 41 [] [] [])=B;generalize hE:(Z.1).e 41 [] [] []=E;refine S ?_
 (have W:=TK;repeat' (first|refine aA fun K hK=>?_|refine ax ?_|(refine hK _ _ ?_;clear hK K)|(refine az ?_ ?_<;>intro hc<;>try exact jz)|refine cz 4 ?_|refine cM 5 ?_|(refine cE (R:=R) (R':=Z.1) (pre:=[]) (post:=[]) (pre':=[]) (post':=[]) hx rfl Ta.1 Ta.2 rfl rfl cO rfl jD ?_;refine S ?_)|refine ay ?_|exact jI|(clear hK K)))
 all_goals
  subst hE;exact gA (R':=Z.1) (pre':=[]) (post':=[]) rfl hB [.tmp 8] cO rfl rfl rfl
def KE(h:cY p)(R:RS)(hd:bt p R)(inp:SI)(hk:(ao p (bB p R.st)).kind=13) :
  ai prog 31 [.agg (bV p),.pt 0 0 0 0,rI (bB p R.st),bh eI 1 inp] (R.e 41 [] [] []) (fun r l=>r=rI (R.call p (nth (ao p (bB p R.st)).l 0)).2/\l=((R.call p (nth (ao p (bB p R.st)).l 0)).1).e 41 [] [] []):=by
 have hok:=hd.inv.ok;have TB:=hok.nf;have h1:=hd.one;have U':=hd.inv.aw;have S9:=nz R.heap;have UU:=hd.cells;have P':=hd.cf h;obtain⟨s0,s1,s2,s3,s4,s5⟩:=hd.stmt h;have Tr:=P'.sl;have UB:=hd.lQ h;generalize bB p R.st=a at*;obtain⟨x,S6,U2⟩:=(h.ok.aa.shape a.toNat s1).1.nN hk;have hb:=(h.ok.aa.shape a.toNat s1).2.1 x (by rw[S6];simp);have SZ:nth (nth p.aa.nodes a.toNat).l 0=x:=by rw[S6];rfl
 have Ui:(nth p.aa.nodes a.toNat).l.length=1:=by rw[S6];rfl
 rw[show nth (ao p a).l 0=x from SZ];have hx:=H9 h R hd x hb.1 jB U2;have Ta:=De R p x;generalize R.call p x=Z at*;have SW:(nth p.aa.nodes a.toNat).kind=13:=hk;refine aU func31 ntmps31 ?_;generalize hB:ids (R.e 41 [] [] [])=B;generalize hE:(Z.1).e 41 [] [] []=E;refine S ?_
 (have W:=jA SW (jA SZ (Ui));repeat' (first|refine aA fun K hK=>?_|refine ax ?_|(with_reducible refine gR 7 ?_);refine dE 7 (bo 0 8) mixed ?_|(refine hK _ _ ?_;clear hK K)|(refine az ?_ ?_<;>intro hc<;>try exact jz)|refine cz 4 ?_|refine cM 5 ?_|(refine cE (R:=R) (R':=Z.1) (pre:=[]) (post:=[]) (pre':=[]) (post':=[]) hx rfl Ta.1 Ta.2 rfl rfl cO rfl jD ?_;refine S ?_)|refine ay ?_|exact jI|(clear hK K)))
 subst hE;exact gA (R':=Z.1) (pre':=[]) (post':=[]) rfl hB [.tmp 8] cO rfl rfl rfl
def OT(h:cY p)(R:RS)(hd:bt p R)(inp:SI)(hk:(ao p (bB p R.st)).kind=12) :
  ai prog 31 [.agg (bV p),.pt 0 0 0 0,rI (bB p R.st),bh eI 1 inp] (R.e 41 [] [] []) (fun r l=>r=rI (R.put p (bB p R.st)).2/\l=((R.put p (bB p R.st)).1).e 41 [] [] []):=by
 have hok:=hd.inv.ok;have TB:=hok.nf;have h1:=hd.one;have U':=hd.inv.aw;have S9:=nz R.heap;have UU:=hd.cells;have P':=hd.cf h;obtain⟨s0,s1,s2,s3,s4,s5⟩:=hd.stmt h;have Tr:=P'.sl;have UB:=hd.lQ h;have hx:=J8 h R hd hk;have Ta:=Nk R p (bB p R.st);generalize R.put p (bB p R.st)=Z at*;generalize bB p R.st=a at*;have SW:(nth p.aa.nodes a.toNat).kind=12:=hk;refine aU func31 ntmps31 ?_;generalize hB:ids (R.e 41 [] [] [])=B;generalize hE:(Z.1).e 41 [] [] []=E;refine S ?_
 (have W:=SW;repeat' (first|refine aA fun K hK=>?_|refine ax ?_|(refine hK _ _ ?_;clear hK K)|(refine az ?_ ?_<;>intro hc<;>try exact jz)|refine cz 4 ?_|refine cM 5 ?_|(refine cE (R:=R) (R':=Z.1) (pre:=[]) (post:=[]) (pre':=[]) (post':=[]) hx rfl Ta.1 Ta.2 rfl rfl cO rfl jD ?_;refine S ?_)|refine ay ?_|exact jI|(clear hK K)))
 subst hE;exact gA (R':=Z.1) (pre':=[]) (post':=[]) rfl hB [.tmp 8] cO rfl rfl rfl
end Go.Proofs.YtbjookcdpondlaaGreatDoor