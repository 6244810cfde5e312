/- Lemmas. No conditions. -/
import Derived.Test.YtghoellpinmenaaGreatDoorSoS
set_option linter.all false
set_option maxHeartbeats 8000000
set_option maxRecDepth 10000
namespace Go.Gd
open Go
def H8{α:Type}[Inhabited α](l m:List α)(h:l.length≠0):l.take (l.length-1)++(nth l (l.length-1)::m)=l++m:=by
 have h1:l.length-1<l.length:=jB;have e:l.take (l.length-1)++[nth l (l.length-1)]=l:=by rw[<-qF h1,List.take_of_length_le jB]
 rw[show l.take (l.length-1)++(nth l (l.length-1)::m)=(l.take (l.length-1)++[nth l (l.length-1)])++m from jE,e]
variable{t:P1}{R:RS}{tl:PV}{c0:PW}
def RS.qx{pre post:PW}(hk:R.nf-1<R.ak.length)(hj:R.jp.length=R.ak.length)(hp:R.aF.path.length≠0){f:Nat->PW}(hc:c0=pre++R.c++post)
  (hf:∀j,f j=if j=R.nf-1 then[.raw (.int .i64 R.aF.fn),.rs (bj 0 (R.nf-1)) R.aF.ab.length 3 R.aF.ab.length,.rs (bj 1 (R.nf-1)) (R.aF.path.length+(nth R.jp (R.nf-1)).length) 2 (R.aF.path.length-1)]else R.fr j) :
  (0,.var t c0)::(1,.aG 87 3 (dh R.ak.length f))::(2,.aG 22 1 (dh R.heap.length fun k=>[.rs (bj 2 k) (nth R.heap k).length 1 (nth R.heap k).length]))::(3,.aG 9 1 (R.aS.map eS)) ::
   bE 0 R.ak.length R.sl (bE 1 R.ak.length R.pt (bE 2 R.heap.length R.hp tl))=R.cut.e t pre post tl:=by
 have hu:∀k,nth R.cut.ak k=if k=R.nf-1 then{ R.aF with path:=R.aF.path.take (R.aF.path.length-1) }else nth R.ak k:=fun k=>Go.Gd.bQ _ _ _ _ hk
 have hv:∀k,nth R.cut.jp k=if k=R.nf-1 then R.aF.pl::nth R.jp (R.nf-1)else nth R.jp k:=fun k=>Go.Gd.bQ _ _ _ _ jB
 refine RS.mR (by rw[hc];simp[RS.c,RS.cut]) (by simp[RS.cut]) (fun j Wm=>?_) rfl (fun _ _=>rfl) rfl rfl rfl rfl (fun j Wm=>?_) (fun j Wm=>?_) (fun _ _=>rfl) rfl
 ·rw[hf];simp only[RS.fr,hu,hv];split
  ·rename_i e;subst e;simp only[List.length_take,List.length_cons];rw[show min (R.aF.path.length-1) R.aF.path.length=R.aF.path.length-1 from jB,show R.aF.path.length-1+((nth R.jp (R.nf-1)).length+1)=R.aF.path.length+(nth R.jp (R.nf-1)).length from jB]
  ·rfl
 ·simp only[RS.sl,hu];split
  ·rename_i e;subst e;rfl
  ·rfl
 ·simp only[RS.pt,hu,hv];split
  ·rename_i e;subst e;show _=Row.aG _ _ ((R.aF.path.take (R.aF.path.length-1)++(nth R.aF.path (R.aF.path.length-1)::_)).map _);rw[H8 _ _ hp];rfl
  ·rfl
variable{n:Nat}{F pre' post':PW}{H:Hp}{t':P1}{R':RS}{B:PZ}
def yc{S:Type}{W:List (Nat×Nat)}{ok:S->Prop}{J:S->List (Nat×AV)}{G:S->Hp}{μ:S->Nat}{F₀:PW}{pre post:PW}{R0:RS}(s:S)(tl:PV)(j:Nat)(x:Row)(h1:ok s)(h2:μ s<n)
  (hH:H=⟨B,R'.e t pre post (tl++[(j,x)])⟩) (hB:ids (R0.e t' pre' post' [])=B) (hG:G s=⟨B,R'.e t pre post tl⟩) (hj:4<=j/\j<1000) (RL:aB tl j=none) (hp:aU cV pre=true) (hq:aU cV post=true) (hr:∀i r,aB tl i=some r->aU cV r.cells=true) (hn:(ids tl).Nodup)
  (h3:bc (fun i=>[j].contains i) H F (jL (J s) (lm W F₀)):=by exact gJ):Next n W ok J G μ F₀ F H:=by
 have hD:∀i,i≠j->(fun i=>[j].contains i) i=false:=fun i hi=>by simp[hi]
 have Qe:∀{R:RS} {t:P1} {pre post:PW} i,i∈ids (R.e t pre post [])->i≠j:=fun i hi e=>by subst e;exact(iu _ _).1 hi (RS.no _ hj.1 hj.2)
 subst hH;refine zo (fun i=>[j].contains i) s h1 h2 ?_ ?_ ?_ h3
 ·show B.all _=true;rw[List.all_eq_true];intro i hi;rw[<-hB]at hi;unfold df;rw[hD i (Qe i hi)];rfl
 ·show eL _ (R'.e t pre post _);rw[RS.cA];refine pV _ _ _ (oZ _ _ RS.nodup fun i r hi=>iN (fun k hk=>?_) _ (RS.closed hp hq i r hi)) (pV _ _ _ (oZ _ _ hn fun i r hi=>iN (fun _ h=>by cases h) _ (hr i r hi)) (sP _ _ fun i hi=>?_))
  ·unfold df;rw[hD k (Qe k (List.contains_iff_mem.1 hk))];rfl
  ·simp[ids]at hi;subst hi;simp
 ·rw[hG];show Hp.mk B (dq _ (R'.e t pre post _))=_;rw[RS.cA,pJ,pJ,oL _ _ (fun i hi=>hD i (Qe i hi)),oL _ tl (fun i hi=>hD i fun e=>by subst e;exact(iu _ _).1 hi RL),tL _ [(j,x)] (fun i hi=>by simp[ids]at hi;subst hi;simp),List.append_nil,<-RS.cA]
def RS.gq(h:R.Ok)(h1:1<=R.nf)(f:aP):(R.dY (R.nf-1) f).aF=f:=by show nth (R.dY (R.nf-1) f).ak (R.nf-1)=f;rw[RS.bQ (by have:=h.nf;omega),if_pos rfl]
structure Kept(R R':RS):Prop where
 heap:R'.heap=R.heap
 in_:R'.in_=R.in_
 aS:R'.aS=R.aS
 bL:R'.bL=R.bL
 time:R'.time=R.time
def Kept.refl(R:RS):Kept R R:=⟨rfl,rfl,rfl,rfl,rfl⟩
theorem Kept.trans{a b c:RS}(h:Kept a b)(k:Kept b c):Kept a c:=⟨k.heap.trans h.heap,k.in_.trans h.in_,k.aS.trans h.aS,k.bL.trans h.bL,k.time.trans h.time⟩
def xU(R:RS)(p:ae)(v:ai):Kept R (R.bh p v):=by
 unfold RS.bh;split
 ·exact⟨rfl,rfl,rfl,rfl,rfl⟩
 ·split<;>exact⟨rfl,rfl,rfl,rfl,rfl⟩
theorem pi(p:ae):∀(n:Nat) (R:RS),Kept R (io p n R)
 |0,R=>Kept.refl R
 |n+1,R=>by
  unfold io;split
  ·exact Kept.refl R
  split
  ·exact(xU R p _).trans (pi p n _)
  split
  ·exact Kept.refl R
  ·exact Kept.trans (b:=R.cut) ⟨rfl,rfl,rfl,rfl,rfl⟩ (pi p n _)
def RS.kM(s:aw):(RS.of s).Ok:=⟨Nat.le_refl _,by show(s.ah.map _).length=_;simp[RS.of]⟩
def RS.dt(s:aw):(RS.of s).st=s:=by show aw.mk (s.ah.take s.ah.length) s.heap s.in_ s.aS s.status s.bL s.time=s;rw[List.take_length]
variable{D:P5}{k:Nat}
def RS.iy{pre post:PW}(hk:k<R.ak.length)(hD:∀i,D i=true)(hn:n=(nth R.ak k).ab.length):db D ⟨B,R.e t pre post tl⟩ (.rs (bj 0 k) n 3 n) (ax bk 3 (nth R.ak k).ab):=.row _ (hD _) (RS.nG hk) hn
def RS.kZ{pre post:PW}(hD:∀i,D i=true):db D ⟨B,R.e t pre post tl⟩ (.rs 2 R.heap.length 1 R.heap.length) (ax gu 1 R.heap):=by
 refine .rs _ 2 1 _ 22 _ _ (hD _) RS.lH (by simp[go_sem]) (by simp[go_sem]) (fun ds RX=>?_) (iW (enc:=gu) (sz:=1) _) fun k j c d hk h1 h2=>?_
 ·obtain⟨x,_,rfl⟩:=List.mem_map.1 RX;rfl
 ·have hk:k<R.heap.length:=by simpa[go_sem]using hk
  rw[vF _ _ _ hk]at h1;have h2:((List.map gu R.heap).getD k [])[j]?=some d:=h2;rw[tH _ _ _ hk]at h2;match j with
  |0=>cases h1;cases h2;exact .row _ (hD _) (RS.o0 hk) rfl
  |j+1=>simp at h1
variable{P:P6}
def NV{f:FuncId}{args:PW}{r:AV}(vals:P4)(v:Value)(ha:args=vals.map .raw)(hr:∀w:NW,az w r v)(h:∀w:NW,j8 w->Calls P f vals.toArray w.toWorld fun e w'=>e=.returned v/\RowKit.Below w.heap.size w.toWorld w'):aA P f args r:=by
 intro w vs h1 h2;have TD:vs=vals.toArray:=by
  apply Array.ext';apply List.ext_getElem?;intro i;obtain⟨hl,hv⟩:=h2;subst ha;by_cases hi:i<vals.length
  ·have R8:i<vs.size:=by rw[<-hl];simpa using hi
   have:=di (hv i (.raw vals[i]) vs[i] (by simp[hi]) (by simp[R8]));simp[hi,R8,this]
  ·have R8:¬i<vs.size:=by rw[<-hl];simpa using hi
   rw[List.getElem?_eq_none (by simpa using R8),List.getElem?_eq_none (by simpa using hi)]
 subst TD;refine(h w h1.ci).mono ?_;rintro e W ⟨rfl,hb⟩;have ex:Ext w (entry []) (w.to W) (entry []):={ size:=hb.size,free:=fun b RJ hO=>⟨hb.block b RJ,hO⟩,names:=fun _ _ _ _ h=>h,os:=hb.os,tape:=hb.tape,output:=hb.output,rest:=fun b RJ hO Qe=>⟨hb.block b RJ,hO,Qe⟩,base:=rfl };refine⟨v,r,entry [],w.to W,rfl,rfl,⟨rfl,rfl⟩,{ rows:=fun i row hi=>(by cases hi),dS:=h1.dS,inj:=h1.inj,own:=h1.own,ci:=h1.ci.bS ex.toKeep,fin:=fun b RJ=>Nat.lt_of_lt_of_le (h1.fin b RJ) hb.size },hr _,ex.pm⟩
def RS.uU{pre post:PW}(hB:ids (R.e t pre post [])=B)(hD:∀i,(i<4\/1000<=i)->D i=false)(hp:aU cV pre'=true)(hq:aU cV post'=true)(hs:eL D tl) :
  B.all (df D)=true/\eL D (R'.e t' pre' post' tl)/\dq D (R'.e t' pre' post' tl)=R'.e t' pre' post' (dq D tl):=by
 have Qe:∀{R:RS} {t:P1} {pre post:PW} i,i∈ids (R.e t pre post [])->D i=false:=fun i hi=>hD i (by
  by_cases h:i<4
  ·exact .inl h
  ·right
   apply Classical.byContradiction;intro h';exact(iu _ _).1 hi (RS.no i jB jB))
 refine⟨?_,?_,?_⟩
 ·rw[List.all_eq_true];intro i hi;rw[<-hB]at hi;unfold df;rw[Qe i hi];rfl
 ·rw[RS.cA];refine pV _ _ _ (oZ _ _ RS.nodup fun i r hi=>iN (fun k hk=>?_) _ (RS.closed hp hq i r hi)) hs;unfold df;rw[Qe k (List.contains_iff_mem.1 hk)];rfl
 ·rw[RS.cA,pJ,oL _ _ (fun i hi=>Qe i hi),<-RS.cA]
variable{Q:Exit->PS}
def J2{c:Code}{F':PW}{pre post:PW}(L:PZ)(tl:PV)(YC:(L.any fun i=>(aB tl i).isSome)=true)(hL:L.all (fun i=>decide (4<=i/\i<1000))=true)(hH:H=⟨B,R'.e t' pre' post' tl⟩)(hB:ids (R.e t pre post [])=B)(hp:aU cV pre'=true)(hq:aU cV post'=true)
  (hs:eL (fun i=>L.contains i) tl) (hv:bc (fun i=>L.contains i) H F F') (h:cz P c Q F' ⟨B,R'.e t' pre' post' (dq (fun i=>L.contains i) tl)⟩):cz P c Q F H:=by
 subst hH;obtain⟨h1,h2,h3⟩:=RS.uU (D:=fun i=>L.contains i) (R':=R') (t':=t') (pre':=pre') (post':=post') (tl:=tl) hB (fun i hi=>by
  cases e:L.contains i with
  |false=>rfl
  |true=> have:=List.all_eq_true.1 hL i (List.contains_iff_mem.1 e);simp only[decide_eq_true_eq]at this;omega) hp hq hs
 refine gj (cY.free _ h1 h2 hv) ?_;show cz P c Q F' ⟨B,dq _ (R'.e t' pre' post' tl)⟩;rw[h3];exact h
variable{l l':PV}
def jn(j:Nat)(r:Row)(h:∀i,aB l i=aB l' i):∀i,aB ((j,r)::l) i=aB ((j,r)::l') i:=fun i=>by show(if i=j then _ else _)=(if i=j then _ else _);rw[h i]
theorem AK(a:Nat)(f:P7){l l':PV}(h:∀i,aB l i=aB l' i):∀(n k i:Nat),aB (fi a f k n l) i=aB (fi a f k n l') i
 |0,k,i=>h i
 |n+1,k,i=>jn _ _ (AK a f h n (k+1)) i
def kj(a n:Nat)(f:P7)(h:∀i,aB l i=aB l' i)(i:Nat):aB (bE a n f l) i=aB (bE a n f l') i:=AK a f h n 0 i
theorem Cn(a:Nat)(f:P7)(l:PV):∀(n k:Nat),fi a f k (n+1) l=fi a f k n ((bj a (k+n),f (k+n))::l)
 |0,k=>rfl
 |n+1,k=>by show(bj a k,f k)::fi a f (k+1) (n+1) l=(bj a k,f k)::fi a f (k+1) n _;rw[Cn a f l n (k+1),show k+1+n=k+(n+1) from jB]
variable{r:Row}
def B9{j:Nat}(h:aB l j=none)(i:Nat):aB (l++[(j,r)]) i=aB ((j,r)::l) i:=by
 rw[jc];show _=if i=j then some r else aB l i
 by_cases e:i=j
 ·subst e;rw[h,if_pos rfl];simp[aB]
 ·rw[if_neg e];simp[aB,e]
def AJ{a:Nat}(f':P7){f:P7}(hf:∀k,k<n->f k=f' k)(hr:r=f' n)(RL:aB tl (bj a n)=none)(i:Nat):aB (bE a n f (tl++[(bj a n,r)])) i=aB (bE a (n+1) f' tl) i:=by rw[wc rfl hf rfl];unfold bE;rw[Cn,Nat.zero_add,hr];exact AK a f' (fun i=>B9 RL i) n 0 i
def zb(h:low tl)(a k:Nat):aB tl (bj a k)=none:=by
 cases e:aB tl (bj a k)with
 |none=>rfl
 |some r=>have:=(h _ _ e).2;have:=gW a k;omega
variable{s q:P7}
def zZ{h:Nat}(s' p':P7){p:P7}{r0 r1:Row}(hs:∀k,k<n->s k=s' k)(hp:∀k,k<n->p k=p' k)(h0:r0=s' n)(h1:r1=p' n)(hl:low tl)(i:Nat) :
  aB (bE 0 n s (bE 1 n p (bE 2 h q (tl++[(bj 1 n,r1),(bj 0 n,r0)])))) i=aB (bE 0 (n+1) s' (bE 1 (n+1) p' (bE 2 h q tl))) i:=by
 have e:bE 1 n p (bE 2 h q (tl++[(bj 1 n,r1),(bj 0 n,r0)]))=bE 1 n p (bE 2 h q tl++[(bj 1 n,r1)])++[(bj 0 n,r0)]:=by rw[show tl++[(bj 1 n,r1),(bj 0 n,r0)]=(tl++[(bj 1 n,r1)])++[(bj 0 n,r0)] from jE,pQ,pQ,pQ 2 h q tl]
 have z0:aB (bE 2 h q tl) (bj 0 n)=none:=by rw[nu _ _ _ _ _ _ jB jB jB];exact zb hl _ _
 have z1:aB (bE 2 h q tl) (bj 1 n)=none:=by rw[nu _ _ _ _ _ _ jB jB jB];exact zb hl _ _
 rw[e,AJ s' hs h0 (by rw[nu _ _ _ _ _ _ jB jB jB,jc,z0];simp[aB,Mr 0 1 n n jB jB jB])]
 exact kj 0 (n+1) s' (fun i=>AJ p' hp h1 z1 i) i
def zQ{h:Nat}(q':P7){p:P7}(hq:∀k,k<h->q k=q' k)(h2:r=q' h)(hl:low tl)(i:Nat) :
  aB (bE 0 n s (bE 1 n p (bE 2 h q (tl++[(bj 2 h,r)])))) i=aB (bE 0 n s (bE 1 n p (bE 2 (h+1) q' tl))) i:=
 kj 0 n s (fun i=>kj 1 n p (fun i=>AJ q' hq h2 (zb hl _ _) i) i) i
variable{fn:Func}{out:PW}{r0:AV}
def xu{e:Exit}{pre post:PW}(hH:H=⟨B,l⟩)(RE:∀i,aB l i=aB (R'.e t' pre' post' tl) i)(hB:ids (R.e t pre post [])=B)(rs:List ResultVar)(hl:low tl)(hp:aU cV pre'=true)(hq:aU cV post'=true)(hr:r0.all cV=true)
  (RB:fn.results.toList=rs:=by rfl) (he:e=.normal\/e=.ret:=by first|exact Or.inr rfl|exact Or.inl rfl|fail) (ho:fP P H F rs=some out:=by first|rfl|(simp(disch:=first|omega|fail) only[go_sem,↓reduceIte,Nat.reduceEqDiff,Nat.reduceLeDiff,Nat.reduceSub,Nat.reduceAdd];rfl)) (hok:gx P H F rs:=by first|exact jI|(simp(disch:=first|omega|fail) only[go_sem,↓reduceIte,Nat.reduceEqDiff,Nat.reduceLeDiff,Nat.reduceSub,Nat.reduceAdd])) (hv:fZ out=r0:=by first|rfl|(simp only[go_sem];done)):hU P fn (fun r l=>r=r0/\l=R'.e t' pre' post' []) e F H:=by
 subst RB hH;obtain⟨h1,h2,h3⟩:=RS.free (R':=R') (t':=t') (pre':=pre') (post':=post') hB hl hp hq;exact rk he ho hok r0 ⟨B,R'.e t' pre' post' []⟩ ((Bi (R'.e t' pre' post' tl) RE).trans (by have:=hJ.free (H:=⟨B,R'.e t' pre' post' tl⟩) Go.Gd.dn h1 h2 (p5 hv (pF (fun _ h=>by cases h) _ (hv ▸ hr)));rw[h3]at this;exact this)) ⟨rfl,rfl⟩
def RS.rX{pre post:PW}(i:Nat)(h:4<=i)(h':i<1000):aB (R.e t pre post tl) i=aB tl i:=by rw[RS.cA,jc,RS.no i h h'];rfl
def sO(a k:Nat):dn (bj a k)=false:=by
 unfold dn;refine decide_eq_false fun h=>?_
 have:=gW a k;omega
def AI(k:Nat)(h:4<=k)(h2:k<1000):dn k=true:=decide_eq_true ⟨h,h2⟩
def OH{l0:PV}{e:Exit}{r:AV}(rs:List ResultVar)(hv:fZ out=r)(hl:eL dn l0)(hq:(fZ out).all (df dn)=true)(h2:dq dn l0=l)(RB:fn.results.toList=rs:=by rfl)(he:e=.normal\/e=.ret:=by first|exact Or.inr rfl|exact Or.inl rfl|fail)
  (ho:fP P ⟨[],l0⟩ F rs=some out:=by first|(simp(disch:=first|omega|fail) only[go_sem,↓reduceIte,Nat.reduceEqDiff,Nat.reduceLeDiff,Nat.reduceSub,Nat.reduceAdd];rfl)|rfl) (hok:gx P ⟨[],l0⟩ F rs:=by first|exact jI|(simp(disch:=first|omega|fail) only[go_sem,↓reduceIte,Nat.reduceEqDiff,Nat.reduceLeDiff,Nat.reduceSub,Nat.reduceAdd])):hU P fn (fun r' l'=>r'=r/\l'=l) e F ⟨[],l0⟩:=by
 subst RB;exact uc dn he ho hok rfl hl (p5 hv hq) h2
def yr(p:ae)(k:Int):cU:=⟨(nth p.aa.av k.toNat).body,0⟩
def qE(p:ae)(fn:Int)(args:List ai)(n:Nat):PV:=[(bj 1 n,.aG 89 2 ([yr p fn].map ej)),(bj 0 n,.aG 50 3 ((fk p fn args).ab.map bk))]
def rm(p:ae)(fn:Int)(args:List ai)(n:Nat):PW:=[.raw (.int .i64 fn),.rs (bj 0 n) (fk p fn args).ab.length 3 (fk p fn args).ab.length,.rs (bj 1 n) 1 2 1]
def RS.gn{pre post:PW}(hk:k<R.ak.length)(hj:nth R.jp k=[]){f:Nat->PW}{x:cU}(hc:c0=pre++R.c++post)
  (hf:∀j,f j=if j=k then[.raw (.int .i64 (nth R.ak k).fn),.rs (bj 0 k) (nth R.ak k).ab.length 3 (nth R.ak k).ab.length,.rs (bj 1 k) ((nth R.ak k).path.length+1) 2 ((nth R.ak k).path.length+1)]else R.fr j) (h1:∀j,s j=if j=k then .aG 89 2 (((nth R.ak k).path++[x]).map ej)else R.pt j) :
  (0,.var t c0)::(1,.aG 87 3 (dh R.ak.length f))::(2,.aG 22 1 (dh R.heap.length fun k=>[.rs (bj 2 k) (nth R.heap k).length 1 (nth R.heap k).length]))::(3,.aG 9 1 (R.aS.map eS)) ::
   bE 0 R.ak.length R.sl (bE 1 R.ak.length s (bE 2 R.heap.length R.hp tl))=(R.dY k { nth R.ak k with path:=(nth R.ak k).path++[x] }).e t pre post tl:=by
 have hu:=RS.bQ hk { nth R.ak k with path:=(nth R.ak k).path++[x] };refine RS.mR (by rw[hc,RS.l6]) RS.aT (fun j Wm=>?_) rfl (fun _ _=>rfl) rfl rfl rfl rfl (fun j Wm=>?_) (fun j Wm=>?_) (fun _ _=>rfl) rfl
 ·rw[hf];simp only[RS.fr,hu];split
  ·rename_i e;subst e;simp[hj,RS.dY]
  ·rfl
 ·simp only[RS.sl,hu];split
  ·rename_i e;subst e;rfl
  ·rfl
 ·rw[h1];simp only[RS.pt,hu];split
  ·rename_i e;subst e;simp[hj,RS.dY]
  ·rfl
def RS.grow(R:RS)(l:PY):RS:={ R with heap:=R.heap++[l] }
def nb(j:Nat){r':Row}(hr:r=r')(h:∀i,aB l i=aB l' i):∀i,aB ((j,r)::l) i=aB ((j,r')::l') i:=by subst hr;exact jn j r h
variable{tl0:PV}
def RS.jt{pre post:PW}{l:PY}{hr:Nat->PW}(hc:c0=pre++(R.grow l).c++post)(Zp:∀k,k<R.heap.length+1->hr k=[.rs (bj 2 k) (nth (R.heap++[l]) k).length 1 (nth (R.heap++[l]) k).length])(W4:r=.aG 3 1 (l.map eI))(ht:∀i,aB tl0 i=aB (tl++[(bj 2 R.heap.length,r)]) i)(hl:low tl) :
  ∀i,aB ((0,.var t c0)::(1,.aG 87 3 (dh R.ak.length R.fr))::(2,.aG 22 1 (dh (R.heap.length+1) hr))::(3,.aG 9 1 (R.aS.map eS))::bE 0 R.ak.length R.sl (bE 1 R.ak.length R.pt (bE 2 R.heap.length R.hp tl0))) i=aB ((R.grow l).e t pre post tl) i:=by
 have g':(R.grow l).heap.length=R.heap.length+1:=by simp[RS.grow]
 refine nb _ (by rw[hc]) (nb _ rfl (nb _ ?_ (nb _ rfl fun i=>?_)))
 ·rw[oM (g:=fun k=>[.rs (bj 2 k) (nth (R.grow l).heap k).length 1 (nth (R.grow l).heap k).length]) g'.symm fun j hj=>Zp j hj]
 ·rw[kj 0 _ _ (fun i=>kj 1 _ _ (fun i=>kj 2 _ _ ht i) i) i];rw[zQ (R.grow l).hp (fun k hk=>?_) ?_ hl,g']
  ·rfl
  ·show r=Row.aG _ _ ((nth (R.heap++[l]) R.heap.length).map eI);rw[oE,W4]
  ·show Row.aG _ _ _=Row.aG _ _ ((nth (R.heap++[l]) k).map eI);rw[lB hk]
def RS.ez(R:RS)(k:Nat)(l:PY):RS:={ R with heap:=R.heap.set k l }
def RS.nQ{pre post:PW}(hk:k<R.heap.length){l:PY}(hl:l.length=(nth R.heap k).length)(hc:c0=pre++R.c++post)(h1:∀j,q j=if j=k then .aG 3 1 (l.map eI)else R.hp j) :
  (0,.var t c0)::(1,.aG 87 3 (dh R.ak.length R.fr))::(2,.aG 22 1 (dh R.heap.length fun k=>[.rs (bj 2 k) (nth R.heap k).length 1 (nth R.heap k).length]))::(3,.aG 9 1 (R.aS.map eS)) ::
   bE 0 R.ak.length R.sl (bE 1 R.ak.length R.pt (bE 2 R.heap.length q tl))=(R.ez k l).e t pre post tl:=by
 have hu:∀j,nth (R.ez k l).heap j=if j=k then l else nth R.heap j:=fun j=>Go.Gd.bQ _ _ _ _ hk
 have g':(R.ez k l).heap.length=R.heap.length:=by simp[RS.ez]
 refine RS.mR (R:=R.ez k l) (by rw[hc];simp[RS.c,RS.ez]) rfl (fun _ _=>rfl) g'.symm (fun j _=>?_) rfl rfl rfl rfl (fun _ _=>rfl) (fun _ _=>rfl) (fun j _=>?_) rfl
 ·rw[hu];split
  ·rename_i e;subst e;rw[hl]
  ·rfl
 ·rw[h1];simp only[RS.hp,hu];split<;>rfl
def aM(h:(ids tl).all (fun i=>decide (4<=i/\i<1000))=true:=by rfl):low tl:=fun i r hi=>of_decide_eq_true (List.all_eq_true.1 h i ((iu _ _).2 (by rw[hi];simp)))
def AM{f:FuncId}{args:PW}{K:PT}{pre post:PW}(hc:af P f args (R.e t pre post []) fun r l'=>r=r0/\l'=R'.e t pre' post' [])(hH:H=⟨B,R.e t pre post tl⟩)
  (h1:R.ak.length<=R'.ak.length) (h2:R.heap.length<=R'.heap.length) (hp:aU cV pre=true) (hq:aU cV post=true) (hl:low tl) (ha:aU (fun i=>decide (i<4)) args=true) (h0:aQ P f=true) (k:K r0 ⟨B,R'.e t pre' post' tl⟩):dp P (.raw (.func (.func f) #[] #[])) args H K:=by
 subst hH;refine ko h0 (tJ (E:=fun tl=>R.e t pre post tl) (E':=fun tl=>R'.e t pre' post' tl) hc (RS.iJ hl) (RS.iJ hl) RS.nodup (iN (fun i hi=>?_) _ ha) (RS.closed hp hq) k (RS.size h1 h2));have hi:i<4:=of_decide_eq_true hi;match i,hi with
 |0,_=>exact mo RS.lS
 |1,_=>exact mo RS.mT
 |2,_=>exact mo RS.lH
 |3,_=>exact mo RS.mz
def wX{e:Exit}{pre post:PW}(hH:H=⟨B,R'.e t' pre' post' tl⟩)(hB:ids (R.e t pre post [])=B)(rs:List ResultVar)(hl:low tl)(hp:aU cV pre'=true)(hq:aU cV post'=true)(hr:r0.all (df dn)=true)
  (RB:fn.results.toList=rs:=by rfl) (he:e=.normal\/e=.ret:=by first|exact Or.inr rfl|exact Or.inl rfl|fail) (ho:fP P H F rs=some out:=by first|rfl|(simp(disch:=first|omega|fail) only[go_sem,↓reduceIte,Nat.reduceEqDiff,Nat.reduceLeDiff,Nat.reduceSub,Nat.reduceAdd];rfl)) (hok:gx P H F rs:=by first|exact jI|(simp(disch:=first|omega|fail) only[go_sem,↓reduceIte,Nat.reduceEqDiff,Nat.reduceLeDiff,Nat.reduceSub,Nat.reduceAdd])) (hv:fZ out=r0:=by first|rfl|(simp only[go_sem];done)):hU P fn (fun r l=>r=r0/\l=R'.e t' pre' post' []) e F H:=by
 subst RB hH;obtain⟨h1,h2,h3⟩:=RS.free (R':=R') (t':=t') (pre':=pre') (post':=post') hB hl hp hq;exact uc Go.Gd.dn he ho hok h1 h2 (p5 hv (hv ▸ hr)) h3
def RS.fc(R:RS)(v:ai):AV:=if v.ty≠4\/v.n<1\/(R.heap.length:Int)<v.n then .raw (.slice none 0 0)else .rs (bj 2 (v.n-1).toNat) (nth R.heap (v.n-1).toNat).length 1 (nth R.heap (v.n-1).toNat).length
def RS.jq{pre post:PW}{p:ae}{fn:Int}{args:List ai}{fr:Nat->PW}(hok:R.Ok)(hf:R.nf=R.ak.length)(hc:c0=pre++(R.push (fk p fn args)).c++post)(Rt:∀k,k<R.ak.length+1->fr k=if k=R.ak.length then rm p fn args R.ak.length else R.fr k)
  (ht:∀i,aB tl0 i=aB (tl++qE p fn args R.ak.length) i) (hl:low tl) :
  ∀i,aB ((0,.var t c0)::(1,.aG 87 3 (dh (R.ak.length+1) fr))::(2,.aG 22 1 (dh R.heap.length fun k=>[.rs (bj 2 k) (nth R.heap k).length 1 (nth R.heap k).length]))::(3,.aG 9 1 (R.aS.map eS))::bE 0 R.ak.length R.sl (bE 1 R.ak.length R.pt (bE 2 R.heap.length R.hp tl0))) i=aB ((R.push (fk p fn args)).e t pre post tl) i:=by
 have RM:=hok.jp;have g':(R.push (fk p fn args)).ak.length=R.ak.length+1:=by simp[RS.push]
 have hu:∀k,k<=R.ak.length->nth (R.push (fk p fn args)).ak k=if k=R.ak.length then fk p fn args else nth R.ak k:=fun k hk=>by
  show nth (R.ak++[_]) k=_;by_cases e:k=R.ak.length
  ·subst e;rw[if_pos rfl,oE]
  ·rw[if_neg e,lB jB]
 have hv:∀k,k<=R.ak.length->nth (R.push (fk p fn args)).jp k=if k=R.ak.length then[]else nth R.jp k:=fun k hk=>by
  show nth (R.jp++[[]]) k=_;by_cases e:k=R.ak.length
  ·rw[if_pos e,e,<-RM,oE]
  ·rw[if_neg e,lB jB]
 refine nb _ (by rw[hc]) (nb _ ?_ (nb _ rfl (nb _ rfl fun i=>?_)))
 ·rw[oM (g:=(R.push (fk p fn args)).fr) g'.symm fun j hj=>?_];rw[Rt j hj];unfold RS.fr;rw[hu j jB,hv j jB];by_cases e:j=R.ak.length
  ·subst e;rw[if_pos rfl,if_pos rfl,if_pos rfl];rfl
  ·rw[if_neg e,if_neg e,if_neg e]
 ·rw[kj 0 _ _ (fun i=>kj 1 _ _ (fun i=>kj 2 _ _ ht i) i) i];unfold qE;rw[zZ (R.push (fk p fn args)).sl (R.push (fk p fn args)).pt (fun k hk=>?_) (fun k hk=>?_) ?_ ?_ hl,g']
  ·rfl
  ·unfold RS.sl;rw[hu _ jl,if_pos rfl]
  ·unfold RS.pt;rw[hu _ jl,hv _ jl,if_pos rfl,if_pos rfl];rfl
  ·unfold RS.sl;rw[hu k jB,jN]
  ·unfold RS.pt;rw[hu k jB,hv k jB,jN,jN]
def FD{c:Code}{pre post:PW}(L:PZ)(J:List (Nat×AV))(tl:PV)(YC:(L.any fun i=>(aB tl i).isSome)=true)(hL:L.all (fun i=>decide (4<=i/\i<1000))=true)(hH:H=⟨B,R'.e t' pre' post' tl⟩)(hB:ids (R.e t pre post [])=B)(hp:aU cV pre'=true)(hq:aU cV post'=true)
  (hs:eL (fun i=>L.contains i) tl) (hv:bc (fun i=>L.contains i) H F (jL J F)) (h:cz P c Q (jL J F) ⟨B,R'.e t' pre' post' (dq (fun i=>L.contains i) tl)⟩):cz P c Q F H:=J2 L tl YC hL hH hB hp hq hs hv h
end Go.Gd
namespace Go.Proofs.YtghoellpinmenaaGreatDoor
open Go Go.Gd Tryz
abbrev rV(v:ai):AV:=.agg (bk v)
def tv(n:Int):aA prog 99 [rI n] (rV (vI n)):=by
 refine bI func99 ntmps99 ?_
 (repeat' (first|refine aq fun K hK=>?_|refine am ?_|(refine hK _ _ ?_;clear hK K)|(refine ao ?_ ?_<;>intro hc<;>try exact jz)|refine ap ?_|exact jI|(clear hK K)))
 (refine aY [.cell 2 50] ?_;try simp only[go_sem])
 rfl
def wQ(b:Bool):aA prog 144 [rB b] (rV (vB b)):=by
 refine bI func144 ntmps144 ?_
 (repeat' (first|refine aq fun K hK=>?_|refine am ?_|(refine hK _ _ ?_;clear hK K)|(refine ao ?_ ?_<;>intro hc<;>try exact jz)|refine ap ?_|exact jI|(clear hK K)))
 all_goals(refine aY [.cell 2 50] ?_;try simp only[go_sem])
 all_goals simp_all [vB,bk]
def Fb(s:P0):aA prog 145 [rS s] (rV (vT s)):=by
 refine bI func145 ntmps145 ?_
 (repeat' (first|refine aq fun K hK=>?_|refine am ?_|(refine hK _ _ ?_;clear hK K)|(refine ao ?_ ?_<;>intro hc<;>try exact jz)|refine ap ?_|exact jI|(clear hK K)))
 (refine aY [.cell 2 50] ?_;try simp only[go_sem])
 rfl
def BX(t:Int):aA prog 71 [rI t] (rV (vZ t)):=by
 refine bI func71 ntmps71 ?_
 (repeat' (first|refine aq fun K hK=>?_|refine am ?_|(refine hK _ _ ?_;clear hK K)|(refine ao ?_ ?_<;>intro hc<;>try exact jz)|refine ap ?_|exact jI|(clear hK K)))
 (refine aY [.cell 2 50] ?_;try simp only[go_sem])
 rfl
def Jx(v:ai):aA prog 143 [rV v] (rB (fT v)):=by
 refine bI func143 ntmps143 ?_
 (repeat' (first|refine aq fun K hK=>?_|refine am ?_|(refine hK _ _ ?_;clear hK K)|(refine ao ?_ ?_<;>intro hc<;>try exact jz)|refine ap ?_|exact jI|(clear hK K)))
 all_goals(refine aY [.tmp 2] ?_;try simp only[go_sem])
 all_goals simp_all [fT]
def Po(g:P0)(a b:Int):aA prog 177 [rS g,rI a,rI b] (.bt [rV (oU g a b).1,rI (oU g a b).2]):=by
 refine bI func177 ntmps177 ?_
 (repeat' (first|refine aq fun K hK=>?_|refine am ?_|(refine hK _ _ ?_;clear hK K)|(refine ao ?_ ?_<;>intro hc<;>try exact jz)|refine cp (tv _) ?_|refine cp (wQ _) ?_|refine ap ?_|exact jI|(clear hK K)))
 all_goals(refine aY [.cell 6 50,.tmp 7] ?_;try simp only[go_sem])
 all_goals simp_all [oU]
 all_goals rfl
def Oa(g:P0)(a b:ai)(ha:a.s.size<=1000000)(hb:b.s.size<=1000000):aA prog 165 [rS g,rV a,rV b] (.bt [rV (jw g a b).1,rI (jw g a b).2]):=by
 refine bI func165 ntmps165 ?_
 (repeat' (first|refine aq fun K hK=>?_|refine am ?_|(refine hK _ _ ?_;clear hK K)|(refine ao ?_ ?_<;>intro hc<;>try exact jz)|refine cp (wQ _) ?_|refine cp (Fb _) ?_|refine cp (Po _ _ _) ?_|refine ap ?_|exact jI|(clear hK K)))
 all_goals(refine aY [.cell 6 50,.tmp 7] ?_;try simp only[go_sem])
 all_goals(unfold jw;(repeat' split)<;>first|rfl|omega|(exfalso;simp_all;done)|(simp_all [bk,vB];done)|(exfalso;simp_all;omega)|skip)
def HE(g:P0)(a:ai):aA prog 148 [rS g,rV a] (rV (ku g a)):=by
 refine bI func148 ntmps148 ?_
 (repeat' (first|refine aq fun K hK=>?_|refine am ?_|(refine hK _ _ ?_;clear hK K)|(refine ao ?_ ?_<;>intro hc<;>try exact jz)|refine cp (wQ _) ?_|refine cp (tv _) ?_|refine ap ?_|exact jI|(clear hK K)))
 all_goals(refine aY [.cell 4 50] ?_;try simp only[go_sem])
 all_goals(unfold ku;(repeat' split)<;>first|rfl|omega|(exfalso;simp_all;done)|(simp_all [bk,vB];done)|(exfalso;simp_all;omega)|skip)
def EU{i:Nat}{r:Row}(hi:4<=i/\i<1000):low [(i,r)]:=fun k x hk=>by have hk:k∈ids [(i,r)]:=(iu _ _).2 (by rw[hk];simp);simp[ids]at hk;omega
def ud(R:RS)(p:ae)(v:ai):(R.bh p v).ak.length=R.ak.length/\(R.bh p v).heap=R.heap:=by
 unfold RS.bh;split
 ·exact⟨rfl,rfl⟩
 ·split
  ·exact⟨RS.aT.symm.trans RS.aT.symm,rfl⟩
  ·exact⟨RS.aT.symm,rfl⟩
variable{p:ae}{R:RS}
def cO.at_(h:bY p)(hI:cO p R)(h2:2<=R.nf):ka p R.pop.st:=by
 have Qy:=hI.ok.nf;have hf:=hI.ak;have Sf:R.pop.Ok:=⟨by show R.nf-1<=R.ak.length;omega,hI.ok.jp⟩;have ht:=RS.cC Sf (by show 1<=R.nf-1;omega);have hl:R.pop.st.ah.length=R.nf-1:=by show(R.ak.take (R.nf-1)).length=_;simp;omega
 exact Gw h jB jB (by rw[ht];exact hI.fr (R.nf-1-1) jB) (by rw[ht];exact hI.busy (R.nf-1-1) jB)
def CQ(h:bY p)(R:RS)(hI:cO p R) :
  af prog 38 [.agg (bp p),.pt 0 0 0 0] (R.e 39 [] [] []) (fun r l=>r=.bt []/\l=(R.settle p).e 39 [] [] []):=by
 refine aO func38 ntmps38 ?_;generalize hB:ids (R.e 39 [] [] [])=B;generalize hE:(R.settle p).e 39 [] [] []=E;refine S ?_
 (repeat' (first|refine aq fun K hK=>?_|refine am ?_|(with_reducible refine gR 2 ?_);refine dE 2 (au 0 12) mixed ?_|(with_reducible refine gR 4 ?_);refine dC 4 ([],[40],[]) [] (au 0 14) mixed ?_|(with_reducible refine gR 5 ?_);refine dE 5 (au 0 14) mixed ?_|(with_reducible refine gR 6 ?_);refine dE 6 (au 0 12) mixed ?_|(with_reducible refine gR 7 ?_);refine dE 7 (au 0 15) mixed ?_|(refine hK _ _ ?_;clear hK K)|(refine ao ?_ ?_<;>intro hc<;>try exact jz)|refine bz 4 ?_|refine ap ?_|exact jI|(clear hK K)))
 refine de (S:=RS) [(4,82)] (fun T=>cO p T/\io p (T.left+1) T=R.settle p) (fun _=>[]) (fun T=>⟨B,T.e 39 [] [] [(4,.var 29 (bp p))]⟩) (fun T=>T.left) R ⟨hI,rfl⟩ (dc rfl bK) ?_;rintro T ⟨hT,hS⟩ Kr P9;have Qy:=hT.ok.nf;have Rt:=hT.ak;have RM:=hT.ok.jp;unfold io at hS;by_cases e0:T.status=2
 ·rw[if_pos e0]at hS;refine S ?_
  (repeat' (first|refine aq fun K hK=>?_|refine am ?_|(with_reducible refine gR 2 ?_);refine dE 2 (au 0 12) mixed ?_|(with_reducible refine gR 4 ?_);refine dC 4 ([],[40],[]) [] (au 0 14) mixed ?_|(with_reducible refine gR 5 ?_);refine dE 5 (au 0 14) mixed ?_|(with_reducible refine gR 6 ?_);refine dE 6 (au 0 12) mixed ?_|(with_reducible refine gR 7 ?_);refine dE 7 (au 0 15) mixed ?_|(refine hK _ _ ?_;clear hK K)|(refine ao ?_ ?_<;>intro hc<;>try exact jz)|refine ap ?_|exact jI|(clear hK K)))
  subst hE;rw[<-hS];exact c7 (R':=T) (tl:=[(4,.var 29 (bp p))]) rfl hB [] (EU jB) rfl rfl rfl
 rw[if_neg e0]at hS;have h1:=hT.go e0;have hk:T.nf-1<T.ak.length:=jB;have QJ:=hT.fr (T.nf-1) jB;have g':=QJ.len h;have U':=QJ.f0;have XP:=QJ.f1;have Tu:T.aF=nth T.ak (T.nf-1):=rfl;by_cases e1:T.aF.path.length=0
 ·rw[if_pos e1]at hS;rw[Tu]at e1 hS;have XQ:=B7 p (vZ (nth p.aa.av (nth T.ak (T.nf-1)).fn.toNat).ret) T hT.ok h1 jB (hT.at_ h);obtain⟨g1,g2,_⟩:=hT.bh h1 (vZ (nth p.aa.av (nth T.ak (T.nf-1)).fn.toNat).ret);have P':=ud T p (vZ (nth p.aa.av (nth T.ak (T.nf-1)).fn.toNat).ret);have Sg:T.ak.length<=(T.bh p (vZ (nth p.aa.av (nth T.ak (T.nf-1)).fn.toNat).ret)).ak.length:=by rw[P'.1];exact Nat.le_refl _
  have T4:T.heap.length<=(T.bh p (vZ (nth p.aa.av (nth T.ak (T.nf-1)).fn.toNat).ret)).heap.length:=by rw[P'.2];exact Nat.le_refl _
  generalize T.bh p (vZ (nth p.aa.av (nth T.ak (T.nf-1)).fn.toNat).ret)=T' at*;have Ri:=EU (i:=4) (r:=.var 29 (bp p)) jB;refine S ?_
  (repeat' (first|refine aq fun K hK=>?_|refine am ?_|(with_reducible refine gR 2 ?_);refine dE 2 (au 0 12) mixed ?_|(with_reducible refine gR 4 ?_);refine dC 4 ([],[40],[]) [] (au 0 14) mixed ?_|(with_reducible refine gR 5 ?_);refine dE 5 (au 0 14) mixed ?_|(with_reducible refine gR 6 ?_);refine dE 6 (au 0 12) mixed ?_|(with_reducible refine gR 7 ?_);refine dE 7 (au 0 15) mixed ?_|(refine hK _ _ ?_;clear hK K)|(refine ao ?_ ?_<;>intro hc<;>try exact jz)|refine cq (BX _) ?_|(refine cE (R:=T) (R':=T') (pre:=[]) (post:=[]) (pre':=[]) (post':=[]) XQ rfl Sg T4 rfl rfl Ri rfl jD ?_;refine S ?_)|(refine P9 _ _ (dI T' ⟨g1,?_⟩ g2 gT bK))|refine ap ?_|exact jI|(clear hK K)))
  exact(th _ _ _ g1 jB jB).trans hS
 ·rw[if_neg e1]at hS;have RU:=QJ.pl _ (uM (f:=nth T.ak (T.nf-1)) fun e=>e1 (by rw[Tu,e];rfl));have Ra:=RU.in_ h U' XP;have UA:=RU.b0;have Rx:=RU.a0;rw[Tu]at e1 hS;have e1':1<=(nth T.ak (T.nf-1)).path.length:=jB;have Ri:=fun(r s:Row)=>s8 (i:=4) (j:=5) (r:=r) (s:=s) jB jB
  by_cases e2:(nth T.ak (T.nf-1)).pl.at_<(ir p (nth T.ak (T.nf-1)).pl.block).length
  ·rw[if_pos e2]at hS;unfold ir aP.pl at e2;unfold aP.pl at Ra UA Rx;refine S ?_
   (repeat' (first|refine aq fun K hK=>?_|refine am ?_|(with_reducible refine gR 2 ?_);refine dE 2 (au 0 12) mixed ?_|(with_reducible refine gR 4 ?_);refine dC 4 ([],[40],[]) [] (au 0 14) mixed ?_|(with_reducible refine gR 5 ?_);refine dE 5 (au 0 14) mixed ?_|(with_reducible refine gR 6 ?_);refine dE 6 (au 0 12) mixed ?_|(with_reducible refine gR 7 ?_);refine dE 7 (au 0 15) mixed ?_|(refine hK _ _ ?_;clear hK K)|(refine ao ?_ ?_<;>intro hc<;>try exact jz)|refine bf 5 ?_|refine ap ?_|exact jI|(clear hK K)))
   subst hE;rw[<-hS];exact c7 (R':=T) (tl:=[(4,.var 29 (bp p)),(5,.var 89 (ej (nth (nth T.ak (T.nf-1)).path ((nth T.ak (T.nf-1)).path.length-1))))]) rfl hB [] (Ri _ _) rfl rfl rfl
  ·rw[if_neg e2]at hS;obtain⟨g1,g2⟩:=hT.cut h1 (by rw[Tu];exact e1);unfold ir aP.pl at e2;unfold aP.pl at Ra UA Rx;refine S ?_
   (repeat' (first|refine aq fun K hK=>?_|refine am ?_|(with_reducible refine gR 2 ?_);refine dE 2 (au 0 12) mixed ?_|(with_reducible refine gR 4 ?_);refine dC 4 ([],[40],[]) [] (au 0 14) mixed ?_|(with_reducible refine gR 5 ?_);refine dE 5 (au 0 14) mixed ?_|(with_reducible refine gR 6 ?_);refine dE 6 (au 0 12) mixed ?_|(with_reducible refine gR 7 ?_);refine dE 7 (au 0 15) mixed ?_|(refine hK _ _ ?_;clear hK K)|(refine ao ?_ ?_<;>intro hc<;>try exact jz)|refine bf 5 ?_|refine ap ?_|exact jI|(clear hK K)))
   all_goals
    refine P9 _ _ (yc (R0:=R) (R':=T.cut) T.cut [(4,.var 29 (bp p))] 5 (.var 89 (ej (nth (nth T.ak (T.nf-1)).path ((nth T.ak (T.nf-1)).path.length-1)))) ⟨g1,?_⟩ (by show T.cut.left<T.left;omega)
     (congrArg (Hp.mk B) (RS.qx (tl:=[(4,.var 29 (bp p)),(5,.var 89 (ej (nth (nth T.ak (T.nf-1)).path ((nth T.ak (T.nf-1)).path.length-1))))]) hk RM e1 rfl fun j=>rfl)) hB rfl jB rfl rfl rfl (fun i r hi=>?_) (by simp[ids]))
    ·exact(th _ _ _ g1 jB jB).trans hS
    ·simp only[aB]at hi;split at hi
     ·cases hi;simp[Row.cells,go_sem]
     ·cases hi
variable{t:Int}
def Gu(h:1<=t/\t<=4):fT (vZ t)=true:=by have:t=1\/t=2\/t=3\/t=4:=jB;rcases this with rfl|rfl|rfl|rfl<;>decide
def MV(ab:List ai)(k:Int)(h:1<=t/\t<=4):(gA ab k t).ty=t/\fT (gA ab k t)=true:=by
 unfold gA;split
 ·exact⟨rfl,Gu h⟩
 split
 ·rename_i hh;exact⟨hh.2,hh.1⟩
 ·exact⟨rfl,Gu h⟩
def Told(r:ai×Int)(T:Int):Prop:=(r.2=0/\r.1.ty=T/\fT r.1=true)\/((r.2=1\/r.2=2\/r.2=6)/\r.1=v0)
theorem Told.size{r:ai×Int}{T:Int}(h:Told r T):r.1.s.size<=40:=by
 rcases h with⟨_,_,h⟩|⟨_,h⟩
 ·exact Jt h
 ·rw[h];decide
def rA(n:Int):Told (vI n,0) 1:=.inl ⟨rfl,rfl,rfl⟩
def Az(b:Bool):Told (vB b,0) 2:=.inl ⟨rfl,rfl,by cases b<;>decide⟩
variable{s:P0}
def BR(h:s.size<=40):Told (vT s,0) 3:=.inl ⟨rfl,rfl,by show fT ⟨3,0,s⟩=true;unfold fT;simp only;rw[if_neg jC,if_neg jC,if_pos trivial];simp;omega⟩
variable{T:Int}
def zY(h:t=1\/t=2\/t=6):Told (v0,t) T:=.inr ⟨h,rfl⟩
def nZ{c:Prop}[Decidable c]{x y:ai×Int}(h:c->Told x T)(k:¬c->Told y T):Told (if c then x else y) T:=by
 split
 ·exact h (by assumption)
 ·exact k (by assumption)
def LY(hs:s∈sV){a b:ai}(h:gQ s a.ty b.ty≠0):Told (jw s a b) (gQ s a.ty b.ty):=by
 have he:a.ty=b.ty:=by
  unfold gQ at h;split at h
  ·exact(h rfl).elim
  ·omega
 have h1:1<=a.ty/\a.ty<=4:=by
  unfold gQ at h;rw[jN]at h;split at h
  ·split at h<;>first|omega|exact(h rfl).elim
  split at h
  ·split at h<;>first|omega|exact(h rfl).elim
  split at h
  ·split at h<;>first|omega|exact(h rfl).elim
  split at h
  ·split at h<;>first|omega|exact(h rfl).elim
  ·split at h<;>first|omega|exact(h rfl).elim
 unfold jw;rw[jN];rcases(by omega:a.ty=1\/a.ty=2\/a.ty=3\/a.ty=4)with ta|ta|ta|ta<;>rw[<-he,ta]at h ⊢<;>unfold gQ at h ⊢<;>simp only[sV,List.mem_cons,List.not_mem_nil,or_false]at hs<;>rcases hs with rfl|rfl|rfl|rfl|rfl|rfl|rfl|rfl|rfl|rfl|rfl
 all_goals first|(exfalso;revert h;decide)|(simp(decide:=true) only[if_true,if_false,oU])
 all_goals first|exact rA _|exact Az _|exact nZ (fun _=>zY jB) (fun _=>rA _)|exact nZ (fun _=>zY jB) (fun _=>BR (by rw[ByteArray.size_append];omega))
variable{a:Int}
def ER{b:Int}(hs:s=(⟨#[124,124]⟩:P0)\/s=(⟨#[38,38]⟩:P0))(h:gQ s a b≠0):gQ s a b=2/\a=2/\b=2:=by
 unfold gQ at h ⊢;by_cases e:a=b
 ·rw[if_neg (fun h=>h e),if_pos hs]at h ⊢;by_cases e2:a=2
  ·rw[if_pos e2];omega
  ·rw[if_neg e2]at h;exact(h rfl).elim
 ·rw[if_pos e]at h;exact(h rfl).elim
def sT{r:ai×Int}{U:Int}(h:Told r T)(hr:r.2≠0):Told (v0,r.2) U:=by
 rcases h with⟨h,_⟩|⟨h,_⟩
 ·exact(hr h).elim
 ·exact .inr ⟨h,rfl⟩
def su{r:ai×Int}(h:Told r T)(hr:r.2=0):r.1.ty=T/\fT r.1=true:=by
 rcases h with⟨_,h⟩|⟨h,_⟩
 ·exact h
 ·omega
def OG{v:ai}(h:v.ty=1):Told (ku (⟨#[45]⟩:P0) v,0) 1:=by unfold ku;rw[if_pos ⟨rfl,h⟩];exact rA _
def K6{v:ai}(h:v.ty=2):Told (ku (⟨#[33]⟩:P0) v,0) 2:=by unfold ku;rw[if_neg (by rintro⟨h,_⟩;revert h;decide),if_pos ⟨rfl,h⟩];exact Az _
theorem qA{p:ae}(h:iY p)(ab:List ai)(heap:PX):∀(n:Nat) (a:Int),0<=a->a<p.aa.nodes.length->a.toNat<n->cr (bJ p.aa.nodes a)->Told (da p ab heap n a) (nth p.types a.toNat)
 |0,a,_,_,hn,_=>by omega
 |n+1,a,h0,h1,hn,hk=>by
  have ih:=qA h ab heap n;have sh:=(h.aa.shape a.toNat jB);have ty:=h.ty a.toNat jB jB;have aC:∀i,i<(nth p.aa.nodes a.toNat).l.length->cr (bJ p.aa.nodes (nth (nth p.aa.nodes a.toNat).l i))->Told (da p ab heap n (nth (nth p.aa.nodes a.toNat).l i)) (nth p.types (nth (nth p.aa.nodes a.toNat).l i).toNat):=fun i hi he=>by have:=sh.2.1 _ (dZ hi);exact ih _ jB jB jB he
  have Tx:(nth p.aa.nodes a.toNat).kind=1\/(nth p.aa.nodes a.toNat).kind=2\/(nth p.aa.nodes a.toNat).kind=3\/(nth p.aa.nodes a.toNat).kind=4\/(nth p.aa.nodes a.toNat).kind=5\/(nth p.aa.nodes a.toNat).kind=6\/(nth p.aa.nodes a.toNat).kind=7\/(nth p.aa.nodes a.toNat).kind=8\/(nth p.aa.nodes a.toNat).kind=9:=by have:cr (nth p.aa.nodes a.toNat).kind:=hk;unfold cr at this;omega
  unfold da;simp only;rcases Tx with k|k|k|k|k|k|k|k|k
  ·rw[if_pos k,ty.int k];exact rA _
  ·rw[jN,if_pos k,ty.bool k];exact Az _
  ·rw[jN,jN,if_pos k,ty.text k];exact BR (by have:=sh.1.text k;omega)
  ·rw[jN,jN,jN,if_pos k];have:=MV ab (nth p.ab a.toNat) (ty.var k);exact .inl ⟨rfl,this⟩
  ·obtain⟨x,hl,hx⟩:=sh.1.one jB;have Qg:nth (nth p.aa.nodes a.toNat).l 0=x:=by rw[hl];rfl
   have kx:=aC 0 (by rw[hl];simp) (by rw[Qg];exact hx);have t5:=ty.index k;rw[jN,jN,jN,jN];refine nZ (fun hh=>sT kx hh) (fun hh=>?_);rw[if_pos k,t5.1];exact nZ (fun _=>zY jB) (fun _=>rA _)
  ·obtain⟨x,hl,hx⟩:=sh.1.one jB;have Qg:nth (nth p.aa.nodes a.toNat).l 0=x:=by rw[hl];rfl
   have kx:=aC 0 (by rw[hl];simp) (by rw[Qg];exact hx);have t5:=ty.len k;rw[jN,jN,jN,jN];refine nZ (fun hh=>sT kx hh) (fun hh=>?_);rw[jN,jN,if_pos k,t5.1];exact nZ (fun _=>rA _) (fun _=>rA _)
  ·obtain⟨x,hl,hx⟩:=sh.1.one jB;have Qg:nth (nth p.aa.nodes a.toNat).l 0=x:=by rw[hl];rfl
   have kx:=aC 0 (by rw[hl];simp) (by rw[Qg];exact hx);have t5:=ty.neg k;rw[jN,jN,jN,jN];refine nZ (fun hh=>sT kx hh) (fun hh=>?_);rw[jN,jN,jN,if_pos k,t5.1];exact OG ((su kx jB).1.trans t5.2)
  ·obtain⟨x,hl,hx⟩:=sh.1.one jB;have Qg:nth (nth p.aa.nodes a.toNat).l 0=x:=by rw[hl];rfl
   have kx:=aC 0 (by rw[hl];simp) (by rw[Qg];exact hx);have t5:=ty.not k;rw[jN,jN,jN,jN];refine nZ (fun hh=>sT kx hh) (fun hh=>?_);rw[jN,jN,jN,jN,t5.1];exact K6 ((su kx jB).1.trans t5.2)
  ·obtain⟨x,y,hl,hx,hy⟩:=sh.1.two jB;have Qg:nth (nth p.aa.nodes a.toNat).l 0=x:=by rw[hl];rfl
   have Sx:nth (nth p.aa.nodes a.toNat).l 1=y:=by rw[hl];rfl
   have kx:=aC 0 (by rw[hl];simp) (by rw[Qg];exact hx);have ky:=aC 1 (by rw[hl];simp) (by rw[Sx];exact hy);obtain⟨t5,t6⟩:=ty.zn k;rw[jN,jN,jN,jN];refine nZ (fun hh=>sT kx hh) (fun hh=>?_);have ox:=su kx jB;rw[jN,if_pos k];refine nZ (fun he=>?_) (fun _=>?_)
   ·refine .inl ⟨rfl,?_,ox.2⟩;show(da p ab heap n _).1.ty=_;rw[ox.1];rw[t5]at t6 ⊢;have hs:(nth p.aa.nodes a.toNat).name=(⟨#[124,124]⟩:P0)\/(nth p.aa.nodes a.toNat).name=(⟨#[38,38]⟩:P0):=by rcases he with he|he;exact .inl he.1;exact .inr he.1
    obtain⟨g1,g2,g3⟩:=ER hs t6;rw[g1,g2]
   refine nZ (fun YD=>sT ky YD) (fun YD=>?_);have oy:=su ky jB;rw[t5]at t6 ⊢;rw[<-ox.1,<-oy.1]at t6 ⊢;exact LY (sh.1.sign k) t6
theorem cO.dY{p:ae}{R:RS}(h:cO p R)(h1:1<=R.nf){f:aP}(hf:dM p f):cO p (R.dY (R.nf-1) f):=by
 have Qy:=h.ok.nf;have hu:=fun k=>RS.bQ (R:=R) (k:=R.nf-1) jB f k
 have hl:(R.dY (R.nf-1) f).ak.length=R.ak.length:=RS.aT.symm;refine⟨⟨by rw[hl];exact Qy,by rw[hl];exact h.ok.jp⟩,by rw[hl];exact h.ak,fun k hk=>?_,fun k hk=>?_,h.go⟩
 ·rw[hu];split
  ·exact hf
  ·exact h.fr k hk
 ·have hk:k+1<R.nf:=hk;rw[hu,jN];exact h.busy k hk
theorem cO.on{p:ae}{R:RS}(h:cO p R)(h1:1<=R.nf)(hb:nX p R.aF):cO p R.on:=h.dY h1 (wu (h.fr (R.nf-1) jB) hb)
def IV{α:Type}[Inhabited α](l:List α)(x:α)(k:Nat)(h:k<=l.length):nth (l++[x]) k=if k=l.length then x else nth l k:=by
 by_cases e:k=l.length
 ·subst e;rw[if_pos rfl,oE]
 ·rw[if_neg e,lB jB]
theorem cO.push{p:ae}{R:RS}(h:cO p R)(R4:R.nf=R.ak.length)(h8:R.nf<8)(hb:1<=R.nf->nX p R.aF){f:aP}(hf:dM p f):cO p (R.push f):=by
 have hu:∀k,k<=R.nf->nth (R.push f).ak k=if k=R.nf then f else nth R.ak k:=fun k hk=>by show nth (R.ak++[f]) k=_;rw[IV _ _ _ jB,R4]
 have RM:=h.ok.jp;refine⟨⟨by show R.nf+1<=(R.ak++[f]).length;simp;omega,by show(R.jp++[[]]).length=(R.ak++[f]).length;simp;omega⟩,by show(R.ak++[f]).length<=8;simp;omega,fun k hk=>?_,fun k hk=>?_,fun _=>by show 1<=R.nf+1;omega⟩
 ·have hk:k<R.nf+1:=hk;rw[hu k jB];split
  ·exact hf
  ·exact h.fr k jB
 ·have hk:k+1<R.nf+1:=hk;rw[hu k jB,jN];by_cases e:k+1=R.nf
  ·have:=hb jB;unfold RS.aF at this;rwa [show R.nf-1=k from jB]at this
  ·exact h.busy k jB
def FK{f:aP}(h:dM p f){b:Int}(hp:hP p f.fn ⟨b,0⟩)(hd:∀x∈f.path,b<x.block):dM p { f with path:=f.path++[⟨b,0⟩] }:=by
 refine⟨h.f0,h.f1,h.sl,fun x hx=>?_,?_⟩
 ·rcases List.mem_append.1 hx with hx|hx
  ·exact h.pl x hx
  ·have:x=⟨b,0⟩:=by simpa using hx
   subst this;exact hp
 ·show List.Pairwise _ ((f.path++[(⟨b,0⟩:cU)]).map fun x:cU=>x.block);rw[List.map_append,List.pairwise_append];refine⟨h.dec,jE,fun x hx y hy=>?_⟩;obtain⟨z,hz,rfl⟩:=List.mem_map.1 hx;have:y=b:=by simpa using hy
  subst this;exact hd z hz
def dM.last{f:aP}(h:dM p f)(QD:f.path≠[]):∀x∈f.path,f.pl.block<=x.block:=fun x hx=>by
 obtain⟨i,hi,rfl⟩:=List.getElem_of_mem hx;have hl:=List.length_pos_iff.2 QD;unfold aP.pl;by_cases e:i=f.path.length-1
 ·subst e;rw[gD jB];exact Int.le_refl _
 ·have:=List.pairwise_iff_getElem.1 (List.pairwise_map.1 h.dec) i (f.path.length-1) hi jB jB;rw[gD jB];omega
def xY(h:bY p){k:Nat}(hk:k<p.aa.av.length){args:List ai}(ha:args.length=(nth p.aa.av k).params.length):dM p (fk p k args)/\(nth p.size k).toNat=(fk p k args).ab.length/\0<=nth p.size k/\nth p.size k<=24:=by
 have hs:=h.av k hk;have h1:=hs.wy;have h2:=hs.hi;have hb:=h.ok.aa.body (nth p.aa.av k) (dZ hk);have hn:=px h.ok.aa hk;have hl:(fk p k args).ab.length=(nth p.size k).toNat:=by show(args++List.replicate _ v0).length=_;rw[Int.toNat_natCast]<;>(try simp)<;>omega
 have Qb:=hs.chain.le;refine⟨⟨by show(0:Int)<=(k:Int);omega,by show(k:Int)<_;omega,?_,fun x hx=>?_,by simp[fk]⟩,hl.symm,jB,h2⟩
 ·rw[hl];show _=nth p.size (k:Int).toNat;rw[Int.toNat_natCast];omega
 ·have:x=⟨(nth p.aa.av k).body,0⟩:=by simpa[fk]using hx
  subst this;show hP p (k:Int) _;refine⟨hn.1,?_,?_,hb,Int.le_refl _,by show(0:Int)<=_;omega⟩
  ·rw[Int.toNat_natCast];exact Qb
  ·rw[Int.toNat_natCast];exact Nat.le_refl _
structure bo(p:ae)(R:RS):Prop where
 inv:cO p R
 full:R.nf=R.ak.length
 one:1<=R.nf
 cC:nX p R.aF
 jp:∀k,k<R.ak.length->nth R.jp k=[]
 cells:fj R.heap<=40
 outs:R.aS.length<=24
 iS:0<=R.in_
 jd:R.in_<=1000
def bo.iC(h:bo p R):R.st.cC=R.aF:=RS.cC h.inv.ok h.one
def bo.fy(hs:bY p)(h:bo p R):ka p R.st:=by
 have h1:=h.one;have h2:=h.full;have h3:=h.inv.ak;have hl:R.st.ah.length=R.nf:=by show(R.ak.take R.nf).length=_;simp;omega
 exact Gw hs jB jB (by rw[h.iC];exact h.inv.fr _ jB) (by rw[h.iC];exact h.cC)
def bo.stmt(hs:bY p)(h:bo p R):0<=aW p R.st/\(aW p R.st).toNat<p.aa.nodes.length/\fB (bJ p.aa.nodes (aW p R.st))/\js p.aa R.aF.fn.toNat<=(aW p R.st).toNat/\(aW p R.st).toNat<R.aF.pl.block.toNat/\R.aF.pl.block.toNat<=(nth p.aa.av R.aF.fn.toNat).body.toNat:=by
 have hf:=h.inv.fr (R.nf-1) (by have:=h.one;omega);have hf:dM p R.aF:=hf;have hx:=hf.pl _ (uM h.cC.1);have hb:=h.cC.2;have Rx:=hx.a0;have UA:=hx.b0;have hi:=hx.in_ hs hf.f0 hf.f1;have hm:aW p R.st∈ir p R.aF.pl.block:=by unfold aW;rw[h.iC];exact dZ jB
 obtain⟨k0,k1,k2,k3⟩:=hx.aC hs hf.f0 hf.f1 hm;exact⟨k0,jB,k3,k2,k1,hx.hi⟩
def HO(h:bY p)(R:RS)(h0:0<=a)(h1:a.toNat<p.aa.nodes.length)(hk:cr (bJ p.aa.nodes a)):Told (R.val p a) (nth p.types a.toNat):=qA h.ok R.aF.ab R.heap _ a h0 jB jB hk
theorem Dq{p:ae}(R:RS):∀(l:PY) (a:List ai),(R.args p l a).2=0->(R.args p l a).1.length=a.length+l.length
 |[],a,_=>by simp[RS.args]
 |x::l,a,h=>by
  unfold RS.args at h ⊢;split
  ·rename_i e;rw[if_pos e]at h;exact(e h).elim
  ·rename_i e;rw[if_neg e]at h;rw[Dq R l _ h];simp;omega
structure dF(p:ae)(R:RS):Prop where
 inv:cO p R
 cells:fj R.heap<=40
 outs:R.aS.length<=24
 iS:0<=R.in_
 jd:R.in_<=1000
def dF.of{R':RS}(h:bo p R)(hi:cO p R')(k:Kept R R'):dF p R':=⟨hi,by rw[k.heap];exact h.cells,by rw[k.aS];exact h.outs,by rw[k.in_];exact h.iS,by rw[k.in_];exact h.jd⟩
theorem bo.with{p:ae}{R:RS}(h:bo p R){hp:PX}{i:Int}{o:List P0}(h1:fj hp<=40)(h2:0<=i/\i<=1000)(h3:o.length<=24):bo p { R with heap:=hp,in_:=i,aS:=o }:=
 ⟨⟨⟨h.inv.ok.nf,h.inv.ok.jp⟩,h.inv.ak,h.inv.fr,h.inv.busy,h.inv.go⟩,h.full,h.one,h.cC,h.jp,h1,h3,h2.1,h2.2⟩
theorem bo.store{p:ae}{R:RS}(h:bo p R)(node:Int)(v:ai):dF p (R.store p node v):=by
 have h1:=h.one;have hf:=Gc (h.inv.fr (R.nf-1) jB) (nth p.ab node.toNat).toNat v;have hi:cO p (R.br p node v):=h.inv.dY h1 hf;have ht:(R.br p node v).aF=_:=RS.gq h.inv.ok h1 _;have hb:nX p (R.br p node v).aF:=by rw[ht];exact h.cC
 exact dF.of h (hi.on h1 hb) ⟨rfl,rfl,rfl,rfl,rfl⟩
theorem bo.on{p:ae}{R:RS}(h:bo p R):dF p R.on:=dF.of h (h.inv.on h.one h.cC) ⟨rfl,rfl,rfl,rfl,rfl⟩
theorem bo.block{p:ae}(hs:bY p){R:RS}(h:bo p R){b:Int}(hb:b∈(aJ p (aW p R.st)).l)(hk:bJ p.aa.nodes b=18):hP p R.aF.fn ⟨b,0⟩/\b<R.aF.pl.block/\0<=b/\b.toNat<p.aa.nodes.length:=by
 obtain⟨s0,s1,s2,s3,s4,s5⟩:=h.stmt hs;have sh:=hs.ok.aa.shape _ s1;have Wj:=sh.2.1 b hb;have hf:dM p R.aF:=h.inv.fr (R.nf-1) (by have:=h.one;omega);have QU:js p.aa R.aF.fn.toNat<=b.toNat:=by have hc:=(hs.av R.aF.fn.toNat (by have:=hf.f0;have:=hf.f1;omega)).chain;exact hc.closed _ s3 jB b hb
 exact⟨⟨Wj.1,QU,by show b.toNat<=_;omega,hk,Int.le_refl _,by show(0:Int)<=_;omega⟩,jB,Wj.1,jB⟩
theorem bo.aZ{p:ae}(hs:bY p){R R':RS}(h:bo p R){b:Int}(hb:b∈(aJ p (aW p R.st)).l)(hk:bJ p.aa.nodes b=18)(hR:R'=R\/R'=R.on):dF p (R'.aZ b):=by
 have h1:=h.one;obtain⟨b1,b2,b3,b4⟩:=h.block hs hb hk;have hf:dM p R.aF:=h.inv.fr (R.nf-1) jB;rcases hR with rfl|rfl
 ·exact dF.of h (h.inv.dY h1 (FK hf b1 fun x hx=>by have:=hf.last h.cC.1 x hx;omega)) ⟨rfl,rfl,rfl,rfl,rfl⟩
 ·have hi:=h.inv.on h1 h.cC;have ht:R.on.aF=nN R.aF:=RS.gq h.inv.ok h1 _;have Um:=wu hf h.cC;have hl:∀x∈(nN R.aF).path,b<x.block:=fun x hx=>by
   rcases qT hx with rfl|hx
   ·exact b2
   ·have:=hf.last h.cC.1 x hx;omega
  refine dF.of h (hi.dY h1 (f:={ R.on.aF with path:=R.on.aF.path++[⟨b,0⟩] }) ?_) ⟨rfl,rfl,rfl,rfl,rfl⟩;rw[ht];exact FK Um b1 hl
theorem bo.call{p:ae}(hs:bY p){R:RS}(h:bo p R){a:Int}(h0:a.toNat<p.aa.nodes.length)(hk:(aJ p a).kind=21)(he:(R.call p a).2=0):dF p (R.call p a).1:=by
 obtain⟨k,hc⟩:=callee hs h0 hk;unfold RS.call at he ⊢;simp only at he ⊢;split at he
 ·rename_i e;exact(e he).elim
 rename_i e;rw[if_neg e];split at he
 ·exact((by decide:¬((3:Int)=0)) he).elim
 rename_i e8;rw[if_neg e8,hc.at_];have hl:=Dq R _ [] (Classical.not_not.1 e);exact dF.of h (h.inv.push h.full jB (fun _=>h.cC) (xY hs hc.lt (by rw[hl];simpa using hc.args)).1) ⟨rfl,rfl,rfl,rfl,rfl⟩
theorem bo.fresh{p:ae}{R:RS}(h:bo p R)(x:Int)(he:(R.fresh p x).2.2=0):bo p (R.fresh p x).1:=by
 unfold RS.fresh at he ⊢;simp only at he ⊢;split at he
 ·rename_i e;exact(e he).elim
 rename_i e;rw[if_neg e];split at he
 ·exact((by decide:¬((7:Int)=0)) he).elim
 rename_i e1;rw[if_neg e1];split at he
 ·exact((by decide:¬((4:Int)=0)) he).elim
 rename_i e2;rw[if_neg e2];refine h.with (hp:=R.heap++[List.replicate _ 0]) (i:=R.in_) (o:=R.aS) ?_ ⟨h.iS,h.jd⟩ h.outs
 rw[NX];simp;omega
theorem bo.bF{p:ae}(hs:bY p){R:RS}(h:bo p R){inp:PY}(hn:inp.length<=1000)(hw:¬ik p R.st (aW p R.st) inp)(he:(R.bF p (aW p R.st) inp).2=0):dF p (R.bF p (aW p R.st) inp).1:=by
 obtain⟨s0,s1,s2,_⟩:=h.stmt hs;have sh:=(hs.ok.aa.shape _ s1);generalize D':aW p R.st=node at*;have aC:∀i,i<(aJ p node).l.length->0<=nth (aJ p node).l i/\(nth (aJ p node).l i).toNat<p.aa.nodes.length:=fun i hi=>by have:=sh.2.1 _ (dZ (l:=(aJ p node).l) hi);omega
 have SL:∀b,b∈(aJ p node).l->bJ p.aa.nodes b=18->∀R',(R'=R\/R'=R.on)->dF p (R'.aZ b):=fun b hb hk R' hR=>h.aZ hs (by rw[D'];exact hb) hk hR
 unfold RS.bF at he ⊢;simp only at he ⊢;split at he
 ·rename_i e;rw[if_pos e];obtain⟨a,ha,hr⟩:=sh.1.right e;have Qa:(aJ p node).l=[a]:=ha;have Rx:=aC 0 (by rw[Qa];simp);have hx:nth (aJ p node).l 0=a:=by rw[Qa];rfl
  rw[hx]at Rx;unfold RS.right at he ⊢;simp only[hx]at he ⊢;split at he
  ·rename_i e1;rw[if_pos e1];exact h.call hs Rx.2 e1 he
  rename_i e1;rw[if_neg e1];split at he
  ·rename_i e2;rw[if_pos e2];have Ra:¬((inp.length:Int)<=R.in_):=fun P'=>hw ⟨e,by rw[hx];exact e2,P'⟩
   have hd:bo p { R with in_:=R.in_+1 }:=h.with (hp:=R.heap) (i:=R.in_+1) (o:=R.aS) h.cells ⟨by have:=h.iS;omega,jB⟩ h.outs
   exact hd.store node _
  rename_i e2;rw[if_neg e2];split at he
  ·rename_i e3;rw[if_pos e3];split at he
   ·rename_i e4;rw[if_pos e4];exact(h.fresh a e4).store node _
   ·rename_i e4;exact(e4 he).elim
  rename_i e3;rw[if_neg e3];split at he
  ·rename_i e4;rw[if_pos e4];exact h.store node _
  ·rename_i e4;exact(e4 he).elim
 rename_i e;rw[if_neg e];split at he
 ·rename_i e1;rw[if_pos e1];obtain⟨a,ha,hr⟩:=sh.1.oN e1;have Qa:(aJ p node).l=[a]:=ha;have Rx:=aC 0 (by rw[Qa];simp);have hx:nth (aJ p node).l 0=a:=by rw[Qa];rfl
  rw[hx]at Rx he ⊢;exact h.call hs Rx.2 hr he
 rename_i e1;rw[if_neg e1];split at he
 ·rename_i e2;rw[if_pos e2];unfold RS.put at he ⊢;simp only at he ⊢;split at he
  ·rename_i e3;exact(e3 he).elim
  rename_i e3;rw[if_neg e3];split at he
  ·rename_i e4;exact(e4 he).elim
  rename_i e4;rw[if_neg e4];split at he
  ·exact((by decide:¬((2:Int)=0)) he).elim
  rename_i e5;rw[if_neg e5];have hg:(fq R.heap (gA R.aF.ab (nth p.ab node.toNat) 4)).length≠0:=jB;generalize hv:gA R.aF.ab (nth p.ab node.toNat) 4=v at*;unfold fq at hg;split at hg
  ·simp at hg
  rename_i e6;exact(h.with (hp:=R.heap.set _ _) (i:=R.in_) (o:=R.aS) (by rw[HS _ _ _ jB jE];exact h.cells) ⟨h.iS,h.jd⟩ h.outs).on
 rename_i e2;rw[if_neg e2];split at he
 ·rename_i e3;rw[if_pos e3];split at he
  ·rename_i e4;rw[if_pos e4];exact dF.of h (h.inv.bh h.one v0).1 (xU R p v0)
  rename_i e4;rw[if_neg e4];split at he
  ·rename_i e5;exact(e5 he).elim
  rename_i e5;rw[if_neg e5];exact dF.of h (h.inv.bh h.one _).1 (xU R p _)
 rename_i e3;rw[if_neg e3];split at he
 ·rename_i e4;exact(e4 he).elim
 rename_i e4;rw[if_neg e4];split at he
 ·rename_i e5;rw[if_pos e5];split at he
  ·exact((by decide:¬((5:Int)=0)) he).elim
  rename_i e6;rw[if_neg e6];exact(h.with (hp:=R.heap) (i:=R.in_) (o:=R.aS++[_]) h.cells ⟨h.iS,h.jd⟩ jF).on
 rename_i e5;rw[if_neg e5];split at he
 ·rename_i e6;rw[if_pos e6];obtain⟨a,b,h1,h2,hl⟩:=sh.1.jM e6;split
  ·refine SL _ ?_ ?_ _ (.inr rfl)
   ·rcases hl with hl|⟨d,hl,_⟩<;>(show nth (aJ p node).l 1∈(aJ p node).l;unfold aJ;rw[hl];simp[nth])
   ·rcases hl with hl|⟨d,hl,_⟩<;>(unfold aJ;rw[hl];exact h2)
  split
  ·rename_i e8;rcases hl with hl|⟨d,hl,hd⟩
   ·exfalso;unfold aJ at e8;rw[hl]at e8;simp at e8
   ·refine SL _ ?_ ?_ _ (.inr rfl)
    ·unfold aJ;rw[hl];simp[nth]
    ·unfold aJ;rw[hl];exact hd
  ·exact h.on
 rename_i e6;rw[if_neg e6];split at he
 ·rename_i e7;rw[if_pos e7];obtain⟨a,b,hl,h1,h2⟩:=sh.1.dH e7;split
  ·refine SL _ ?_ ?_ _ (.inl rfl)
   ·unfold aJ;rw[hl];simp[nth]
   ·unfold aJ;rw[hl];exact h2
  ·exact h.on
 ·rename_i e7;exfalso;have:fB (aJ p node).kind:=s2;unfold fB at this;omega
theorem pq{p:ae}:∀(n:Nat) (R:RS),cO p R->R.left<n->cO p (io p n R)/\((io p n R).status=2\/(1<=(io p n R).nf/\nX p (io p n R).aF))
 |0,R,_,h=>by omega
 |n+1,R,hI,hn=>by
  unfold io;split
  ·rename_i e;exact⟨hI,.inl e⟩
  rename_i e;have hg:=hI.go e;split
  ·obtain⟨a,b,_⟩:=hI.bh hg (vZ (nth p.aa.av R.aF.fn.toNat).ret);exact pq n _ a jB
  rename_i e1;split
  ·rename_i e2;exact⟨hI,.inr ⟨hg,fun h=>e1 (by rw[h];rfl),e2⟩⟩
  ·obtain⟨a,b⟩:=hI.cut hg e1;exact pq n _ a jB
structure bC(p:ae)(s:aw):Prop where
 inv:cO p (RS.of s)
 cC:s.status≠2->nX p (RS.of s).aF
 cells:fj s.heap<=40
 outs:s.aS.length<=24
 iS:0<=s.in_
 jd:s.in_<=1000
def vA{α:Type}[Inhabited α]{β:Type}(l:List β)(x:α)(k:Nat)(h:k<l.length):nth (l.map fun _=>x) k=x:=by rw[gD (by simpa using h)];simp
theorem cO.st{p:ae}{R:RS}(h:cO p R):cO p (RS.of R.st):=by
 have Qy:=h.ok.nf;have hl:(RS.of R.st).nf=R.nf:=by show(R.ak.take R.nf).length=_;simp;omega
 have Rt:∀k,k<R.nf->nth (RS.of R.st).ak k=nth R.ak k:=fun k hk=>zP _ _ _ hk
 refine⟨RS.kM _,?_,fun k hk=>?_,fun k hk=>?_,fun e=>?_⟩
 ·have:=h.ak;show(R.ak.take R.nf).length<=8;simp;omega
 ·rw[hl]at hk;rw[Rt k hk];exact h.fr k hk
 ·rw[hl]at hk;rw[Rt k jB];exact h.busy k hk
 ·rw[hl];exact h.go e
def dF.settled(h:dF p R):bC p (R.settle p).st:=by
 obtain⟨h1,h2⟩:=pq (R.left+1) R h.inv jB;have k:=pi p (R.left+1) R;change cO p (R.settle p)at h1
 change (R.settle p).status=2\/(1<=(R.settle p).nf/\nX p (R.settle p).aF)at h2
 change Kept R (R.settle p)at k
 generalize R.settle p=T at*;have Qy:=h1.ok.nf;have hl:(RS.of T.st).nf=T.nf:=by show(T.ak.take T.nf).length=_;simp;omega
 refine⟨h1.st,fun e=>?_,by show fj T.heap<=40;rw[k.heap];exact h.cells,by show T.aS.length<=24;rw[k.aS];exact h.outs,by show 0<=T.in_;rw[k.in_];exact h.iS,by show T.in_<=1000;rw[k.in_];exact h.jd⟩;rcases h2 with h2|⟨h2,h3⟩
 ·exact(e h2).elim
 ·unfold RS.aF at h3 ⊢;rw[hl,show nth (RS.of T.st).ak (T.nf-1)=nth T.ak (T.nf-1) from zP _ _ _ jB];exact h3
variable{s:aw}
def bC.eF(h:bC p s)(h2:s.status≠2)(c:Int)(hc:c≠2):bo p (RS.of { s with status:=c }):=by have hg:=h.inv.go h2;exact⟨⟨⟨h.inv.ok.nf,h.inv.ok.jp⟩,h.inv.ak,h.inv.fr,h.inv.busy,fun _=>hg⟩,rfl,hg,h.cC h2,fun k hk=>vA _ _ _ hk,h.cells,h.outs,h.iS,h.jd⟩
theorem bC.with{p:ae}{s:aw}(h:bC p s)(h2:s.status≠2)(c t n:Int):bC p { s with status:=c,bL:=t,time:=n }:=by have hg:=h.inv.go h2;exact⟨⟨⟨h.inv.ok.nf,h.inv.ok.jp⟩,h.inv.ak,h.inv.fr,h.inv.busy,fun _=>hg⟩,fun _=>h.cC h2,h.cells,h.outs,h.iS,h.jd⟩
def CK(hs:bY p)(h:bC p s){inp:PY}(hn:inp.length<=1000):bC p (dO p s inp):=by
 unfold dO;split
 ·exact h
 rename_i e;have h2:¬(s.status=2\/s.status=3):=fun hh=>e (by unfold bq;rw[if_pos hh];decide)
 have e2:bq p s=aW p s:=by unfold bq;rw[if_neg h2]
 split
 ·exact h.with (fun hh=>h2 (.inl hh)) _ _ _
 rename_i ew;simp only;split
 ·exact h.with (fun hh=>h2 (.inl hh)) _ _ _
 rename_i et;have hd:=h.eF (fun hh=>h2 (.inl hh)) 0 jC;have J':(RS.of { s with status:=0 }).st={ s with status:=0 }:=RS.dt _;have QF:aW p (RS.of { s with status:=0 }).st=bq p s:=by rw[J',e2];rfl
 have ha:=hd.bF hs hn (by rw[QF];rw[J'];exact ew) (by rw[QF];exact Classical.not_not.1 et);rw[QF]at ha;exact dF.settled ⟨⟨⟨ha.inv.ok.nf,ha.inv.ok.jp⟩,ha.inv.ak,ha.inv.fr,ha.inv.busy,ha.inv.go⟩,ha.cells,ha.outs,ha.iS,ha.jd⟩
def s9(n:Int):aA prog 110 [rI n] (rV (vI n)):=by
 refine bI func110 ntmps110 ?_
 (repeat' (first|refine aq fun K hK=>?_|refine am ?_|(refine hK _ _ ?_;clear hK K)|(refine ao ?_ ?_<;>intro hc<;>try exact jz)|refine ap ?_|exact jI|(clear hK K)))
 (refine aY [.cell 2 50] ?_;try simp only[go_sem])
 rfl
def Ad(t:Int):aA prog 96 [rI t] (rV (vZ t)):=by
 refine bI func96 ntmps96 ?_
 (repeat' (first|refine aq fun K hK=>?_|refine am ?_|(refine hK _ _ ?_;clear hK K)|(refine ao ?_ ?_<;>intro hc<;>try exact jz)|refine ap ?_|exact jI|(clear hK K)))
 (refine aY [.cell 2 50] ?_;try simp only[go_sem])
 rfl
def pv(b:Bool):aA prog 111 [rB b] (rV (vB b)):=by
 refine bI func111 ntmps111 ?_
 (repeat' (first|refine aq fun K hK=>?_|refine am ?_|(refine hK _ _ ?_;clear hK K)|(refine ao ?_ ?_<;>intro hc<;>try exact jz)|refine cp (Ad _) ?_|refine ap ?_|exact jI|(clear hK K)))
 all_goals(refine aY [.cell 2 50] ?_;try simp only[go_sem])
 all_goals simp_all [vB,vZ]
def GY(s:P0):aA prog 112 [rS s] (rV (vT s)):=by
 refine bI func112 ntmps112 ?_
 (repeat' (first|refine aq fun K hK=>?_|refine am ?_|(refine hK _ _ ?_;clear hK K)|(refine ao ?_ ?_<;>intro hc<;>try exact jz)|refine ap ?_|exact jI|(clear hK K)))
 (refine aY [.cell 2 50] ?_;try simp only[go_sem])
 rfl
def sD(v:ai):aA prog 152 [rV v] (rB (fT v)):=by
 refine bI func152 ntmps152 ?_
 (repeat' (first|refine aq fun K hK=>?_|refine am ?_|(refine hK _ _ ?_;clear hK K)|(refine ao ?_ ?_<;>intro hc<;>try exact jz)|refine ap ?_|exact jI|(clear hK K)))
 all_goals(refine aY [.tmp 2] ?_;try simp only[go_sem])
 all_goals(unfold fT;(repeat' split)<;>first|rfl|omega|(exfalso;simp_all;done)|skip)
 all_goals(refine LU ?_;by_cases hs:v.s=sE<;>simp[hs]<;>omega)
def xW(g:P0)(a b:Int):ai×Int:=if g=(⟨#[60]⟩:P0)then(vB (decide (a<b)),0)else if g=(⟨#[60,61]⟩:P0)then(vB (decide (a<=b)),0)else(v0,0)
def Pu(g:P0)(a b:Int):aA prog 171 [rS g,rI a,rI b] (.bt [rV (xW g a b).1,rI (xW g a b).2]):=by
 refine bI func171 ntmps171 ?_
 (repeat' (first|refine aq fun K hK=>?_|refine am ?_|(refine hK _ _ ?_;clear hK K)|(refine ao ?_ ?_<;>intro hc<;>try exact jz)|refine cp (pv _) ?_|refine ap ?_|exact jI|(clear hK K)))
 all_goals(refine aY [.cell 6 50,.tmp 7] ?_;try simp only[go_sem])
 all_goals(unfold xW;(repeat' split)<;>first|rfl|omega|(exfalso;simp_all;done)|(simp_all [bk,vB];done)|(exfalso;simp_all;omega)|skip)
def Ob(g:P0)(a b:Int):aA prog 153 [rS g,rI a,rI b] (.bt [rV (oU g a b).1,rI (oU g a b).2]):=by
 refine bI func153 ntmps153 ?_
 (repeat' (first|refine aq fun K hK=>?_|refine am ?_|(refine hK _ _ ?_;clear hK K)|(refine ao ?_ ?_<;>intro hc<;>try exact jz)|refine cp (s9 _) ?_|refine cp (Pu _ _ _) ?_|refine ap ?_|exact jI|(clear hK K)))
 all_goals(refine aY [.cell 6 50,.tmp 7] ?_;try simp only[go_sem])
 all_goals(try unfold xW)
 all_goals(unfold oU;(repeat' split)<;>first|rfl|omega|(exfalso;simp_all;done)|(simp_all [bk,vB];done)|(exfalso;simp_all;omega)|skip)
def xM(g:P0)(a b:Bool):ai×Int:=if g=(⟨#[124,124]⟩:P0)then(vB (a || b),0)else if g=(⟨#[38,38]⟩:P0)then(vB (a && b),0)else(v0,0)
def Kf(g:P0)(a b:Bool):aA prog 154 [rS g,rB a,rB b] (.bt [rV (xM g a b).1,rI (xM g a b).2]):=by
 refine bI func154 ntmps154 ?_
 (repeat' (first|refine aq fun K hK=>?_|refine am ?_|(refine hK _ _ ?_;clear hK K)|(refine ao ?_ ?_<;>intro hc<;>try exact jz)|refine cp (pv _) ?_|refine ap ?_|exact jI|(clear hK K)))
 all_goals(refine aY [.cell 6 50,.tmp 7] ?_;try simp only[go_sem])
 all_goals(unfold xM;(repeat' split)<;>first|rfl|omega|(exfalso;simp_all;done)|(simp_all [bk,vB];done)|(exfalso;simp_all;omega)|skip)
def x8(g a b:P0):ai×Int:=if g=(⟨#[43]⟩:P0)then(if(a.size:Int)+b.size>40 then(v0,6)else(vT (a++b),0))else(v0,0)
def O3(g a b:P0)(ha:a.size<=1000000)(hb:b.size<=1000000):aA prog 155 [rS g,rS a,rS b] (.bt [rV (x8 g a b).1,rI (x8 g a b).2]):=by
 refine bI func155 ntmps155 ?_
 (repeat' (first|refine aq fun K hK=>?_|refine am ?_|(refine hK _ _ ?_;clear hK K)|(refine ao ?_ ?_<;>intro hc<;>try exact jz)|refine cp (GY _) ?_|refine ap ?_|exact jI|(clear hK K)))
 all_goals(refine aY [.cell 6 50,.tmp 7] ?_;try simp only[go_sem])
 all_goals(unfold x8;(repeat' split)<;>first|rfl|omega|(exfalso;simp_all;done)|(simp_all [bk,vB];done)|(exfalso;simp_all;omega)|skip)
def LQ(g:P0)(a b:ai)(ha:a.s.size<=1000000)(hb:b.s.size<=1000000):aA prog 116 [rS g,rV a,rV b] (.bt [rV (jw g a b).1,rI (jw g a b).2]):=by
 refine bI func116 ntmps116 ?_
 (repeat' (first|refine aq fun K hK=>?_|refine am ?_|(refine hK _ _ ?_;clear hK K)|(refine ao ?_ ?_<;>intro hc<;>try exact jz)|refine cp (pv _) ?_|refine cp (Ob _ _ _) ?_|refine cp (Kf _ _ _) ?_|refine cp (O3 _ _ _ ha hb) ?_|refine ap ?_|exact jI|(clear hK K)))
 all_goals(refine aY [.cell 6 50,.tmp 7] ?_;try simp only[go_sem])
 all_goals(try unfold xM);all_goals(try unfold x8)
 all_goals(unfold jw;(repeat' split)<;>first|rfl|omega|(exfalso;simp_all;done)|(simp_all [bk,vB];done)|(exfalso;simp_all;omega)|skip)
def JJ(g:P0)(a:ai):aA prog 117 [rS g,rV a] (rV (ku g a)):=by
 refine bI func117 ntmps117 ?_
 (repeat' (first|refine aq fun K hK=>?_|refine am ?_|(refine hK _ _ ?_;clear hK K)|(refine ao ?_ ?_<;>intro hc<;>try exact jz)|refine cp (pv _) ?_|refine cp (s9 _) ?_|refine ap ?_|exact jI|(clear hK K)))
 all_goals(refine aY [.cell 4 50] ?_;try simp only[go_sem])
 all_goals(unfold ku;(repeat' split)<;>first|rfl|omega|(exfalso;simp_all;done)|(simp_all [bk,vB];done)|(exfalso;simp_all;omega)|skip)
abbrev kq(l:List ai):AV:=ax bk 3 l
abbrev kP(h:PX):AV:=ax gu 1 h
def Aj(ab:List ai)(k t:Int):aA prog 102 [kq ab,rI k,rI t] (rV (gA ab k t)):=by
 refine bI func102 ntmps102 ?_
 (repeat' (first|refine aq fun K hK=>?_|refine am ?_|(refine hK _ _ ?_;clear hK K)|(refine ao ?_ ?_<;>intro hc<;>try exact jz)|refine cp (BX _) ?_|refine cp (Jx _) ?_|refine ap ?_|exact jI|(clear hK K)))
 all_goals(refine aY [.cell 6 50] ?_;try simp only[go_sem])
 all_goals(unfold gA;(repeat' split)<;>first|rfl|omega|(exfalso;simp_all;done)|(simp_all;done)|skip)
def yj(ab:List ai)(k t:Int):aA prog 250 [kq ab,rI k,rI t] (rV (gA ab k t)):=by
 refine bI func250 ntmps250 ?_
 (repeat' (first|refine aq fun K hK=>?_|refine am ?_|(refine hK _ _ ?_;clear hK K)|(refine ao ?_ ?_<;>intro hc<;>try exact jz)|refine cp (Ad _) ?_|(first|refine cg (sD _) ?_|refine ma (sD _) ?_)|refine cp (sD _) ?_|refine ap ?_|exact jI|(clear hK K)))
 all_goals(refine aY [.cell 6 50] ?_;try simp only[go_sem])
 all_goals(unfold gA;(repeat' split)<;>first|rfl|omega|(exfalso;simp_all;done)|(simp_all;done)|skip)
def FY(heap:PX)(v:ai)(hh:heap.length<=1000000):aA prog 103 [kP heap,rV v] (ax eI 1 (fq heap v)):=by
 by_cases h:v.ty≠4\/v.n<1\/(heap.length:Int)<v.n
 ·rw[fq,if_pos h];refine bI func103 ntmps103 ?_
  (repeat' (first|refine aq fun K hK=>?_|refine am ?_|(refine hK _ _ ?_;clear hK K)|(refine ao ?_ ?_<;>intro hc<;>try exact jz)|refine ap ?_|exact jI|(clear hK K)))
  all_goals first|omega|skip
  refine jf [.tmp 4] ?_;exact db.nil _ _
 ·rw[fq,if_neg h];refine bI func103 ntmps103 ?_
  (repeat' (first|refine aq fun K hK=>?_|refine am ?_|(refine hK _ _ ?_;clear hK K)|(refine ao ?_ ?_<;>intro hc<;>try exact jz)|refine ap ?_|exact jI|(clear hK K)))
  all_goals first|omega|skip
  (refine aY [.tmp 4] ?_;try simp only[go_sem])
def E8(heap:PX)(v:ai)(hh:heap.length<=1000000):aA prog 249 [kP heap,rV v] (ax eI 1 (fq heap v)):=by
 by_cases h:v.ty≠4\/v.n<1\/(heap.length:Int)<v.n
 ·rw[fq,if_pos h];refine bI func249 ntmps249 ?_
  (repeat' (first|refine aq fun K hK=>?_|refine am ?_|(refine hK _ _ ?_;clear hK K)|(refine ao ?_ ?_<;>intro hc<;>try exact jz)|refine ap ?_|exact jI|(clear hK K)))
  all_goals first|omega|skip
  refine jf [.tmp 4] ?_;exact db.nil _ _
 ·rw[fq,if_neg h];refine bI func249 ntmps249 ?_
  (repeat' (first|refine aq fun K hK=>?_|refine am ?_|(refine hK _ _ ?_;clear hK K)|(refine ao ?_ ?_<;>intro hc<;>try exact jz)|refine ap ?_|exact jI|(clear hK K)))
  all_goals first|omega|skip
  (refine aY [.tmp 4] ?_;try simp only[go_sem])
abbrev rP(p:ae):AV:=.agg (bp p)
def zS(p:ae)(ab:List ai)(heap:PX)(n:Nat):Prop:=∀(a:Int),0<=a->a<p.aa.nodes.length->a.toNat<n->cr (bJ p.aa.nodes a)->
 aA prog 104 [rP p,rI a,kq ab,kP heap] (.bt [rV (da p ab heap n a).1,rI (da p ab heap n a).2])
def je(p:ae)(ab:List ai)(heap:PX)(x:ai×Int)(a:Int):ai×Int:=
 if x.2≠0 then(v0,x.2)
 else if x.1.n<0\/((fq heap (gA ab (nth p.ab a.toNat) 4)).length:Int)<=x.1.n then(v0,2)
 else(vI (nth (fq heap (gA ab (nth p.ab a.toNat) 4)) x.1.n.toNat),0)
def lM(s:P0)(x y:ai×Int):ai×Int:=
 if x.2≠0 then(v0,x.2)
 else if(s=(⟨#[124,124]⟩:P0)/\x.1.n=1)\/(s=(⟨#[38,38]⟩:P0)/\x.1.n=0)then(x.1,0)
 else if y.2≠0 then(v0,y.2)
 else jw s x.1 y.1
def DF{A B C D:Prop}(h:(¬A\/¬B)/\(¬C\/¬D))(k:A/\B\/C/\D):False:=by
 rcases k with⟨a,b⟩|⟨c,d⟩
 ·exact h.1.elim (fun h=>h a) (fun h=>h b)
 ·exact h.2.elim (fun h=>h c) (fun h=>h d)
def E4(ab:List ai)(heap:PX)(n:Nat)(k:(nth p.aa.nodes a.toNat).kind=5):da p ab heap (n+1) a=je p ab heap (da p ab heap n (nth (nth p.aa.nodes a.toNat).l 0)) a:=by
 conv=>lhs;unfold da
 unfold je;simp only;rw[jN,jN,jN,jN,if_pos k]
def Df(ab:List ai)(heap:PX)(n:Nat)(k:(nth p.aa.nodes a.toNat).kind=9):da p ab heap (n+1) a=lM (nth p.aa.nodes a.toNat).name (da p ab heap n (nth (nth p.aa.nodes a.toNat).l 0)) (da p ab heap n (nth (nth p.aa.nodes a.toNat).l 1)):=by
 conv=>lhs;unfold da
 unfold lM;simp only;rw[jN,jN,jN,jN,if_neg (c:=(nth p.aa.nodes a.toNat).kind=5) jB,if_pos k]
def pZ(heap:PX)(k:Int)(x:ai×Int):ai×Int:=
 if x.2≠0 then(v0,x.2)
 else if k=6 then(if x.1.ty=3 then(vI x.1.s.size,0)else(vI (fq heap x.1).length,0))
 else if k=7 then(ku (⟨#[45]⟩:P0) x.1,0)
 else(ku (⟨#[33]⟩:P0) x.1,0)
def FB(ab:List ai)(heap:PX)(n:Nat)(k:(nth p.aa.nodes a.toNat).kind=6\/(nth p.aa.nodes a.toNat).kind=7\/(nth p.aa.nodes a.toNat).kind=8):da p ab heap (n+1) a=pZ heap (nth p.aa.nodes a.toNat).kind (da p ab heap n (nth (nth p.aa.nodes a.toNat).l 0)):=by
 conv=>lhs;unfold da
 unfold pZ;simp only;rw[jN,jN,jN,jN,if_neg (c:=(nth p.aa.nodes a.toNat).kind=5) jB,if_neg (c:=(nth p.aa.nodes a.toNat).kind=9) jB]
def ID(h:iY p)(ab:List ai)(heap:PX)(hh:heap.length<=1000000)(n:Nat)(ih:zS p ab heap n)(a:Int)(h0:0<=a)(h1:a<p.aa.nodes.length)(hn:a.toNat<=n)(hk:(nth p.aa.nodes a.toNat).kind=5) :
  aA prog 146 [rP p,rI a,kq ab,kP heap] (.bt [rV (je p ab heap (da p ab heap n (nth (nth p.aa.nodes a.toNat).l 0)) a).1,rI (je p ab heap (da p ab heap n (nth (nth p.aa.nodes a.toNat).l 0)) a).2]):=by
 have sh:=h.aa.shape a.toNat jB;have QH:=h.ab;obtain⟨x,hl,hx⟩:=sh.1.one jB;have g':(nth p.aa.nodes a.toNat).l.length=1:=by rw[hl];rfl
 have Qg:nth (nth p.aa.nodes a.toNat).l 0=x:=by rw[hl];rfl
 have hb:=sh.2.1 x (by rw[hl];simp);have Q6:=ih x hb.1 jB jB hx;refine bI func146 ntmps146 ?_
 (have W:=jA g' (Qg);repeat' (first|refine aq fun K hK=>?_|refine am ?_|(with_reducible refine gR 1 ?_);refine dL 1 [] [16] (au 0 19) mixed ?_|(refine hK _ _ ?_;clear hK K)|(refine ao ?_ ?_<;>intro hc<;>try exact jz)|refine cp (Q6) ?_|refine cp (Aj _ _ _) ?_|refine cp (FY _ _ hh) ?_|refine cp (tv _) ?_|refine ap ?_|exact jI|(clear hK K)))
 all_goals(refine aY [.cell 8 50,.tmp 9] ?_;try simp only[go_sem])
 all_goals(unfold je;simp only[Qg];(repeat' split)<;>first|rfl|omega|(exfalso;simp_all;done)|(simp_all;done)|skip)
def Ke(h:iY p)(ab:List ai)(heap:PX)(n:Nat)(ih:zS p ab heap n)(a:Int)(h0:0<=a)(h1:a<p.aa.nodes.length)(hn:a.toNat<=n)(hk:(nth p.aa.nodes a.toNat).kind=9) :
  aA prog 147 [rP p,.agg (bX (nth p.aa.nodes a.toNat)),kq ab,kP heap] (.bt [rV (lM (nth p.aa.nodes a.toNat).name (da p ab heap n (nth (nth p.aa.nodes a.toNat).l 0)) (da p ab heap n (nth (nth p.aa.nodes a.toNat).l 1))).1,rI (lM (nth p.aa.nodes a.toNat).name (da p ab heap n (nth (nth p.aa.nodes a.toNat).l 0)) (da p ab heap n (nth (nth p.aa.nodes a.toNat).l 1))).2]):=by
 have sh:=h.aa.shape a.toNat jB;obtain⟨x,y,hl,hx,hy⟩:=sh.1.two jB;have g':(nth p.aa.nodes a.toNat).l.length=2:=by rw[hl];rfl
 have Qg:nth (nth p.aa.nodes a.toNat).l 0=x:=by rw[hl];rfl
 have Sx:nth (nth p.aa.nodes a.toNat).l 1=y:=by rw[hl];rfl
 have hb:=sh.2.1 x (by rw[hl];simp);have VP:=sh.2.1 y (by rw[hl];simp);have Q6:=ih x hb.1 jB jB hx;have Uq:=ih y VP.1 jB jB hy;have s1:=(qA h ab heap n x hb.1 jB jB hx).size;have s2:=(qA h ab heap n y VP.1 jB jB hy).size;refine bI func147 ntmps147 ?_
 (have W:=jA g' (jA Qg (Sx));repeat' (first|refine aq fun K hK=>?_|refine am ?_|(with_reducible refine gR 1 ?_);refine dL 1 [] [11] (au 0 14) mixed ?_|(with_reducible refine gR 6 ?_);refine dL 6 [] [11] (au 0 14) mixed ?_|(refine hK _ _ ?_;clear hK K)|(refine ao ?_ ?_<;>intro hc<;>try exact jz)|refine cp (Q6) ?_|refine cp (Uq) ?_|refine cp (Oa _ _ _ jB jB) ?_|refine ap ?_|exact jI|(clear hK K)))
 all_goals(refine aY [.cell 8 50,.tmp 9] ?_;try simp only[go_sem])
 all_goals(unfold lM;simp only[Qg,Sx];(repeat' split)<;>first|rfl|exact(DF (by assumption) (by assumption)).elim|omega|(exfalso;simp_all;done)|(simp_all;done)|skip)
theorem CY{p:ae}(h:iY p)(ab:List ai)(heap:PX)(hh:heap.length<=1000000):∀n,zS p ab heap n
 |0=>fun a _ _ hn _=>by omega
 |n+1=>fun a h0 h1 hn hk=>by
  have ih:=CY h ab heap hh n;have sh:=h.aa.shape a.toNat jB;have QH:=h.ab;have Sy:=h.types;have Tx:(nth p.aa.nodes a.toNat).kind=1\/(nth p.aa.nodes a.toNat).kind=2\/(nth p.aa.nodes a.toNat).kind=3\/(nth p.aa.nodes a.toNat).kind=4\/(nth p.aa.nodes a.toNat).kind=5\/(nth p.aa.nodes a.toNat).kind=9\/((nth p.aa.nodes a.toNat).kind=6\/(nth p.aa.nodes a.toNat).kind=7\/(nth p.aa.nodes a.toNat).kind=8):=by have:cr (nth p.aa.nodes a.toNat).kind:=hk;unfold cr at this;omega
  rcases Tx with k|k|k|k|k|k|k
  ·rw[show da p ab heap (n+1) a=(vI (nth p.aa.nodes a.toNat).n,0) from by unfold da;simp only;rw[k];rfl];refine bI func104 ntmps104 ?_
   (have W:=k;repeat' (first|refine aq fun K hK=>?_|refine am ?_|(with_reducible refine gR 10 ?_);refine dE 10 (au 0 14) mixed ?_|(with_reducible refine gR 15 ?_);refine dL 15 [] [11] (au 0 14) mixed ?_|(refine hK _ _ ?_;clear hK K)|(refine ao ?_ ?_<;>intro hc<;>try exact jz)|refine cp (tv _) ?_|refine ap ?_|exact jI|(clear hK K)))
   (refine aY [.cell 8 50,.tmp 9] ?_;try simp only[go_sem])
  ·rw[show da p ab heap (n+1) a=(vB (decide ((nth p.aa.nodes a.toNat).n=1)),0) from by unfold da;simp only;rw[k];rfl];refine bI func104 ntmps104 ?_
   (have W:=k;repeat' (first|refine aq fun K hK=>?_|refine am ?_|(with_reducible refine gR 10 ?_);refine dE 10 (au 0 14) mixed ?_|(with_reducible refine gR 15 ?_);refine dL 15 [] [11] (au 0 14) mixed ?_|(refine hK _ _ ?_;clear hK K)|(refine ao ?_ ?_<;>intro hc<;>try exact jz)|refine cp (wQ _) ?_|refine ap ?_|exact jI|(clear hK K)))
   (refine aY [.cell 8 50,.tmp 9] ?_;try simp only[go_sem])
  ·rw[show da p ab heap (n+1) a=(vT (nth p.aa.nodes a.toNat).name,0) from by unfold da;simp only;rw[k];rfl];refine bI func104 ntmps104 ?_
   (have W:=k;repeat' (first|refine aq fun K hK=>?_|refine am ?_|(with_reducible refine gR 10 ?_);refine dE 10 (au 0 14) mixed ?_|(with_reducible refine gR 15 ?_);refine dL 15 [] [11] (au 0 14) mixed ?_|(refine hK _ _ ?_;clear hK K)|(refine ao ?_ ?_<;>intro hc<;>try exact jz)|refine cp (Fb _) ?_|refine ap ?_|exact jI|(clear hK K)))
   (refine aY [.cell 8 50,.tmp 9] ?_;try simp only[go_sem])
  ·rw[show da p ab heap (n+1) a=(gA ab (nth p.ab a.toNat) (nth p.types a.toNat),0) from by unfold da;simp only;rw[k];rfl];refine bI func104 ntmps104 ?_
   (have W:=k;repeat' (first|refine aq fun K hK=>?_|refine am ?_|(with_reducible refine gR 10 ?_);refine dE 10 (au 0 14) mixed ?_|(with_reducible refine gR 15 ?_);refine dL 15 [] [11] (au 0 14) mixed ?_|(refine hK _ _ ?_;clear hK K)|(refine ao ?_ ?_<;>intro hc<;>try exact jz)|refine cp (Aj _ _ _) ?_|refine ap ?_|exact jI|(clear hK K)))
   (refine aY [.cell 8 50,.tmp 9] ?_;try simp only[go_sem])
  ·have hi:=ID h ab heap hh n ih a h0 h1 jB k;rw[E4 ab heap n k];refine bI func104 ntmps104 ?_
   (have W:=k;repeat' (first|refine aq fun K hK=>?_|refine am ?_|(with_reducible refine gR 10 ?_);refine dE 10 (au 0 14) mixed ?_|(with_reducible refine gR 15 ?_);refine dL 15 [] [11] (au 0 14) mixed ?_|(refine hK _ _ ?_;clear hK K)|(refine ao ?_ ?_<;>intro hc<;>try exact jz)|refine cp (hi) ?_|refine ap ?_|exact jI|(clear hK K)))
   (refine aY [.cell 8 50,.tmp 9] ?_;try simp only[go_sem])
  ·have hi:=Ke h ab heap n ih a h0 h1 jB k;rw[Df ab heap n k];refine bI func104 ntmps104 ?_
   (have W:=k;repeat' (first|refine aq fun K hK=>?_|refine am ?_|(with_reducible refine gR 10 ?_);refine dE 10 (au 0 14) mixed ?_|(with_reducible refine gR 15 ?_);refine dL 15 [] [11] (au 0 14) mixed ?_|(refine hK _ _ ?_;clear hK K)|(refine ao ?_ ?_<;>intro hc<;>try exact jz)|refine cp (hi) ?_|refine ap ?_|exact jI|(clear hK K)))
   (refine aY [.cell 8 50,.tmp 9] ?_;try simp only[go_sem])
  ·obtain⟨x,hl,hx⟩:=sh.1.one jB;have g':(nth p.aa.nodes a.toNat).l.length=1:=by rw[hl];rfl
   have Qg:nth (nth p.aa.nodes a.toNat).l 0=x:=by rw[hl];rfl
   have hb:=sh.2.1 x (by rw[hl];simp);have Q6:=ih x hb.1 jB jB hx;have k1:¬(nth p.aa.nodes a.toNat).kind=1:=jB;have k2:¬(nth p.aa.nodes a.toNat).kind=2:=jB;have k3:¬(nth p.aa.nodes a.toNat).kind=3:=jB;have k4:¬(nth p.aa.nodes a.toNat).kind=4:=jB;have k5:¬(nth p.aa.nodes a.toNat).kind=5:=jB;have k9:¬(nth p.aa.nodes a.toNat).kind=9:=jB;rw[FB ab heap n k,Qg];refine bI func104 ntmps104 ?_
   (have W:=jA k1 (jA k2 (jA k3 (jA k4 (jA k5 (jA k9 (jA g' (Qg)))))));repeat' (first|refine aq fun K hK=>?_|refine am ?_|(with_reducible refine gR 10 ?_);refine dE 10 (au 0 14) mixed ?_|(with_reducible refine gR 15 ?_);refine dL 15 [] [11] (au 0 14) mixed ?_|(refine hK _ _ ?_;clear hK K)|(refine ao ?_ ?_<;>intro hc<;>try exact jz)|refine cp (Q6) ?_|refine cp (tv _) ?_|refine cp (HE _ _) ?_|refine cp (FY _ _ hh) ?_|refine ap ?_|exact jI|(clear hK K)))
   all_goals(refine aY [.cell 8 50,.tmp 9] ?_;try simp only[go_sem])
   all_goals(unfold pZ;(repeat' split)<;>first|rfl|omega|(exfalso;simp_all;done)|(simp_all;done)|skip)
def OD(h:¬(s.status=2\/s.status=3)):bq p s=aW p s:=by unfold bq;rw[if_neg h]
def bC.at_(hs:bY p)(h:bC p s)(h2:s.status≠2):ka p s:=by have hd:=h.eF h2 0 jC;have:=hd.fy hs;rw[RS.dt]at this;exact⟨this.fr,this.ak,this.pa,this.gV,this.b0,this.b1,this.a0,this.a1,this.uW,this.n0,this.n1,this.sl,this.s0⟩
def zr(hs:bY p)(h:bC p s):aA prog 35 [.agg (bp p),.agg (bv s)] (rI (bq p s)):=by
 by_cases h2:s.status=2\/s.status=3
 ·have e:bq p s=-1:=by unfold bq;rw[if_pos h2]
  rw[e];refine bI func35 ntmps35 ?_
  (repeat' (first|refine aq fun K hK=>?_|refine am ?_|(refine hK _ _ ?_;clear hK K)|(refine ao ?_ ?_<;>intro hc<;>try exact jz)|refine ap ?_|exact jI|(clear hK K)))
  all_goals(refine aY [.tmp 4] ?_;try simp only[go_sem])
 ·have e:=OD (p:=p) h2;have hA:=h.at_ hs (fun e=>h2 (.inl e));rw[e];refine bI func35 ntmps35 ?_
  (repeat' (first|refine aq fun K hK=>?_|refine am ?_|(refine hK _ _ ?_;clear hK K)|(refine ao ?_ ?_<;>intro hc<;>try exact jz)|refine cp (Eh p s hA.fr hA.ak hA.pa hA.gV hA.b0 hA.b1 hA.a0 hA.a1) ?_|refine ap ?_|exact jI|(clear hK K)))
  all_goals(refine aY [.tmp 4] ?_;try simp only[go_sem])
def wD(h:PX)(k:Nat)(hk:k<h.length)(n:Int):(h.take (k+1)).foldl gb n=(h.take k).foldl gb n+(nth h k).length:=by rw[qF hk,List.foldl_append];rfl
def Pt(h:PX)(hh:fj h<=1000000):aA prog 142 [kP h] (rI (fj h)):=by
 have g':=gX h;have hf:∀k,(h.take k).foldl gb (h.length:Int)<=fj h/\0<=(h.take k).foldl gb (h.length:Int):=fun k=>by
  have e:fj h=(h.drop k).foldl gb ((h.take k).foldl gb (h.length:Int)):=by unfold fj;rw[<-List.foldl_append,List.take_append_drop]
  rw[e,kY (h.drop k),kY (h.take k)];have:=rM (h.drop k);have:=rM (h.take k);omega
 refine bI func142 ntmps142 ?_
 (repeat' (first|refine aq fun K hK=>?_|refine am ?_|(refine hK _ _ ?_;clear hK K)|(refine ao ?_ ?_<;>intro hc<;>try exact jz)|refine ap ?_|exact jI|(clear hK K)))
 have M':=hK;clear hK;refine de (S:=Nat) [(3,2),(7,13)] (fun k=>k<=h.length) (fun k=>[(3,rI ((h.take k).foldl gb (h.length:Int))),(4,rI k)]) (fun k=>⟨[],[]⟩) (fun k=>h.length-k) 0 jB (dc jD bK) ?_;rintro k hk Kr P9;have h1:=hf k;have h2:k<h.length->(h.take k).foldl gb (h.length:Int)+(nth h k).length<=1000000:=fun hk=>by have:=hf (k+1);rw[wD h k hk]at this;omega
 refine S ?_
 (repeat' (first|refine aq fun K hK=>?_|refine am ?_|(refine hK _ _ ?_;clear hK K)|(refine ao ?_ ?_<;>intro hc<;>try exact jz)|refine M' _ _ ?_|refine ap ?_|exact jI|(clear hK K)))
 ·have e:=wD h k jB (h.length:Int);refine P9 _ _ (dI (k+1) jB jJ jD ?_);rw[e];exact bK
 ·(refine aY [.tmp 2] ?_;try simp only[go_sem])
  rw[show k=h.length from jB,List.take_length];rfl
def Jc(p:ae)(node:Int)(v:ai)(R:RS)(ho:gv R)(h0:0<=node)(h1:node<p.aa.nodes.length)(QH:p.ab.length=p.aa.nodes.length)(hs:0<=nth p.ab node.toNat/\nth p.ab node.toNat<(nth R.ak (R.nf-1)).ab.length) :
  af prog 100 [.agg (bp p),.pt 0 0 0 0,rI node,.agg (bk v)] (R.e 39 [] [] []) (fun r l=>r=.bt []/\l=(R.store p node v).e 39 [] [] []):=by
 have Qy:=ho.ok.nf;have Rw:=ho.nf;have Rt:=ho.ak;have Tm:=hs.1;have VN:=hs.2;have hk:R.nf-1<R.ak.length:=jB;have QN:=rF (R.br p node v) (ho.dY rfl);have hj:∀j,(if j=R.nf-1 then Row.aG 50 3 ((List.map bk (nth R.ak (R.nf-1)).ab).set (nth p.ab node.toNat).toNat (bk v++List.drop 3 (bk (nth (nth R.ak (R.nf-1)).ab (nth p.ab node.toNat).toNat))))else Row.aG 50 3 (List.map bk (nth R.ak j).ab))=if j=R.nf-1 then .aG 50 3 (((nth R.ak (R.nf-1)).ab.set (nth p.ab node.toNat).toNat v).map bk)else R.sl j:=fun j=>by
  by_cases e:j=R.nf-1
  ·rw[if_pos e,if_pos e,List.map_set];rfl
  ·rw[if_neg e,if_neg e];rfl
 have Ri:=fun(r s:Row)=>s8 (i:=4) (j:=5) (r:=r) (s:=s) jB jB
 refine aO func100 ntmps100 ?_;generalize hB:ids (R.e 39 [] [] [])=B;generalize hE:(R.store p node v).e 39 [] [] []=E;refine S ?_
 (repeat' (first|refine aq fun K hK=>?_|refine am ?_|(with_reducible refine gR 1 ?_);refine dE 1 (au 0 21) mixed ?_|(refine hK _ _ ?_;clear hK K)|(refine ao ?_ ?_<;>intro hc<;>try exact jz)|refine bz 4 ?_|refine bz 5 ?_|(refine cE (R:=R.br p node v) (R':=(R.br p node v).on) (pre:=[]) (post:=[]) (pre':=[]) (post':=[]) QN (congrArg (Hp.mk B) (RS.iq (R:=R) (k:=R.nf-1) hk (List.length_set ..) rfl hj)) (Nat.le_of_eq RS.aT) jl rfl rfl (Ri _ _) rfl jD ?_;refine S ?_)|refine ap ?_|exact jI|(clear hK K)))
 subst hE;exact c7 (R':=(R.br p node v).on) (tl:=[(4,.var 29 (bp p)),(5,.var 50 (bk v))]) rfl hB [] (Ri _ _) rfl rfl rfl
def oY(h:bY p)(R:RS)(hok:R.Ok)(h1:1<=R.nf)(h8:R.ak.length<=1000)(hh:R.heap.length<=1000000)(a:Int)(h0:0<=a)(hl:a.toNat<p.aa.nodes.length)(hk:cr (bJ p.aa.nodes a)) :
  af prog 66 [.agg (bp p),.pt 0 0 0 0,rI a] (R.e 39 [] [] []) (fun r l=>r=.bt [rV (R.val p a).1,rI (R.val p a).2]/\l=R.e 39 [] [] []):=by
 have Qy:=hok.nf;have hx:=CY h.ok R.aF.ab R.heap hh p.aa.nodes.length a h0 jB jB hk;have RK:R.nf-1<R.ak.length:=jB;have Ri:=fun(r s:Row)=>s8 (i:=4) (j:=5) (r:=r) (s:=s) jB jB
 change aA _ _ _ (.bt [rV (R.val p a).1,rI (R.val p a).2])at hx
 generalize R.val p a=X at hx ⊢;suffices key:∀R':RS,R'=R->af prog 66 [.agg (bp p),.pt 0 0 0 0,rI a] (R.e 39 [] [] []) (fun r l=>r=.bt [rV X.1,rI X.2]/\l=R'.e 39 [] [] []) from key R rfl
 intro R' u';refine aO func66 ntmps66 ?_;generalize hB:ids (R.e 39 [] [] [])=B;generalize hE:R'.e 39 [] [] []=E;refine S ?_
 (repeat' (first|refine aq fun K hK=>?_|refine am ?_|(with_reducible refine gR 1 ?_);refine dE 1 (au 0 24) mixed ?_|(refine hK _ _ ?_;clear hK K)|(refine ao ?_ ?_<;>intro hc<;>try exact jz)|refine bz 4 ?_|refine bf 5 ?_|(refine cL (args':=[rP p,rI a,kq R.aF.ab,kP R.heap]) hx (show bc _ ⟨B,R.e 39 [] [] _⟩ _ _ from⟨.same _ rfl,.same _ rfl,RS.iy RK (fun _=>rfl) rfl,RS.kZ (fun _=>rfl),trivial⟩) rfl jD ?_;refine S ?_)|refine ap ?_|exact jI|(clear hK K)))
 subst hE;subst u';exact c7 (R':=R') (tl:=[(4,.var 29 (bp p)),(5,.var 50 (bk X.1))]) rfl hB [.cell 6 50,.tmp 7] (Ri _ _) rfl rfl rfl
def PE (w : NW) (hg : j8 w) : Lib.TabIs prog w.toWorld "internal/strconv.uint64pow10" .u64 Lib.pow10Tab := by
 obtain⟨⟨cur,el,fr,h1,h2⟩,_⟩:=hg 0 (Lib.pow10Tab.map (Value.int .u64)) (by unfold Bt;simp);unfold Lib.TabIs World.var?
 rw [show prog.globalNamed "internal/strconv.uint64pow10" = some 0 by kernel_rfl];simp only[Option.bind_some,h1,Option.some.injEq];apply Array.ext';simpa using h2
def AZ(n:Int)(h:bn n):aA prog 105 [rI n] (rS (xl n)):=by
 refine NV [.int .i64 n] (.string (xl n)) rfl (fun w=>.raw _) fun w hg=>?_
 refine(Tryz.strconv_Itoa n h.1 h.2 w.toWorld (PE w hg)).mono ?_;rintro e W ⟨rfl,k,os,rfl⟩;refine⟨rfl,⟨rfl,rfl,rfl,?_,fun b hb=>?_⟩⟩
 ·show w.heap.size<=(w.heap++os).size;simp
 ·show(w.heap++os)[b]?=w.heap[b]?;rw[Array.getElem?_append_left hb]
def II(b:Bool):aA prog 156 [rB b] (rS (if b=true then(⟨#[116,114,117,101]⟩:P0)else(⟨#[102,97,108,115,101]⟩:P0))):=by
 refine B4 [.bool b] (.string (if b=true then(⟨#[116,114,117,101]⟩:P0)else(⟨#[102,97,108,115,101]⟩:P0))) rfl (fun w=>.raw _) fun w=>?_
 refine(Tryz.strconv_FormatBool b w).mono ?_;rintro e W ⟨rfl,rfl⟩;refine⟨?_,RowKit.Below.refl _ _⟩;cases b<;>rfl
def LR(v:ai)(h:bn v.n):aA prog 68 [rV v] (rS (kn v)):=by
 refine bI func68 ntmps68 ?_
 (repeat' (first|refine aq fun K hK=>?_|refine am ?_|(refine hK _ _ ?_;clear hK K)|(refine ao ?_ ?_<;>intro hc<;>try exact jz)|refine cp (AZ _ h) ?_|refine ap ?_|exact jI|(clear hK K)))
 all_goals(refine aY [.tmp 2] ?_;try simp only[go_sem])
 all_goals(unfold kn;(repeat' split)<;>first|rfl|omega|contradiction|(simp_all;done)|skip)
def OT(v:ai)(h:bn v.n):aA prog 125 [rV v] (rS (kn v)):=by
 refine bI func125 ntmps125 ?_
 (repeat' (first|refine aq fun K hK=>?_|refine am ?_|(refine hK _ _ ?_;clear hK K)|(refine ao ?_ ?_<;>intro hc<;>try exact jz)|refine cp (AZ _ h) ?_|refine cp (II _) ?_|refine ap ?_|exact jI|(clear hK K)))
 all_goals(refine aY [.tmp 2] ?_;try simp only[go_sem])
 all_goals(unfold kn;(repeat' split)<;>first|rfl|omega|contradiction|(simp_all;done)|skip)
def Lv(args:List ai)(j:Nat):args++List.replicate j v0++[v0]=args++List.replicate (j+1) v0:=by rw[List.append_assoc,<-List.replicate_succ']
def Gx(h:bY p)(k:Nat)(hk:k<p.aa.av.length)(args:List ai)(ha:args.length=(nth p.aa.av k).params.length)(n:Nat) :
  af prog 61 [.agg (bp p),rI k,ax bk 3 args] [] (fun r l=>r=.agg (rm p k args n)/\l=qE p k args n):=by
 obtain⟨f1,f2,f3,f4⟩:=xY h hk ha;have Qh:=h.ok.size;have Ty:=(h.av k hk).wy;have Sp:=h.ok.aa.av;refine aO func61 ntmps61 ?_
 (repeat' (first|refine aq fun K hK=>?_|refine am ?_|(with_reducible refine gR 3 ?_);refine dE 3 (au 0 9) mixed ?_|(refine hK _ _ ?_;clear hK K)|(refine ao ?_ ?_<;>intro hc<;>try exact jz)|refine bz 4 ?_|refine bf 5 ?_|refine bf 6 ?_|refine lb (bj 1 n) ?_|refine lb (bj 0 n) ?_|refine ap ?_|exact jI|(clear hK K)))
 have M':=hK;clear hK;have g':(fk p k args).ab=args++List.replicate ((nth p.size k).toNat-args.length) v0:=by
  show args++List.replicate _ v0=_;congr 2
  rw[Int.toNat_natCast];omega
 refine de (S:=Nat) [(23,15)] (fun j=>args.length+j<=(nth p.size k).toNat) (fun j=>[])
  (fun j=>⟨[],[(4,.var 29 (bp p)),(5,.var 87 [rI 0,.raw (.slice none 0 0),.raw (.slice none 0 0)]),(bj 1 n,.aG 89 2 ([yr p k].map ej)),(6,.var 87 [rI k,.rs (bj 0 n) (args.length+j) 3 (args.length+j),.rs (bj 1 n) 1 2 1]),(bj 0 n,.aG 50 3 ((args++List.replicate j v0).map bk))]⟩)
  (fun j=>(nth p.size k).toNat-j) 0 jB (dc (by simp only[List.replicate_zero,List.append_nil,Nat.add_zero];rfl) bK) ?_
 rintro j hj Kr P9;have hl:(args++List.replicate j v0).length=args.length+j:=jE;refine S ?_
 (have W:=hl;repeat' (first|refine aq fun K hK=>?_|refine am ?_|(with_reducible refine gR 3 ?_);refine dE 3 (au 0 9) mixed ?_|(refine hK _ _ ?_;clear hK K)|(refine ao ?_ ?_<;>intro hc<;>try exact jz)|refine M' _ _ ?_|refine ap ?_|exact jI|(clear hK K)))
 ·refine P9 _ _ (dI (j+1) (by show args.length+(j+1)<=_;omega) (by show _-(j+1)<_-j;omega) ?_ bK);have e:(args++List.replicate (j+1) v0).map bk=List.map bk args++List.map bk (List.replicate j v0)++[bk v0]:=by
   rw[<-Lv,List.map_append,List.map_append];rfl
  rw[e];rfl
 ·have Zq:j=(nth p.size k).toNat-args.length:=jB;have hn:args.length+j=(fk p k args).ab.length:=jB;have e:rm p k args n=[rI k,.rs (bj 0 n) (args.length+j) 3 (args.length+j),.rs (bj 1 n) 1 2 1]:=by unfold rm;rw[hn]
  have e2:qE p k args n=[(bj 1 n,.aG 89 2 ([yr p k].map ej)),(bj 0 n,.aG 50 3 ((args++List.replicate j v0).map bk))]:=by unfold qE;rw[g',<-Zq]
  rw[e,e2];refine OH [.cell 6 87] ?_ ?_ ?_ ?_
  ·rfl
  ·simp(disch:=omega) only[go_sem,sO,AI]
  ·simp(disch:=omega) only[go_sem,sO,AI]
  ·simp(disch:=omega) only[go_sem,sO,AI]
def Dp{i j k m:Nat}{r s u v:Row}(hi:4<=i/\i<1000)(hj:4<=j/\j<1000)(hk:4<=k/\k<1000)(hm:4<=m/\m<1000):low [(i,r),(j,s),(k,u),(m,v)]:=fun q x hq=>by have hq:q∈ids [(i,r),(j,s),(k,u),(m,v)]:=(iu _ _).2 (by rw[hq];simp);simp[ids]at hq;omega
def Dj(R:RS)(b:Int)(hok:R.Ok)(h1:1<=R.nf)(h8:R.ak.length<=1000)(hj:nth R.jp (R.nf-1)=[])(hp:R.aF.path.length<=1000) :
  af prog 70 [.pt 0 0 0 0,rI b] (R.e 39 [] [] []) (fun r l=>r=.bt []/\l=(R.aZ b).e 39 [] [] []):=by
 have Qy:=hok.nf;have hk:R.nf-1<R.ak.length:=jB;have TF:(nth R.jp (R.nf-1)).length=0:=by rw[hj];rfl
 have hp:(nth R.ak (R.nf-1)).path.length<=1000:=hp;refine aO func70 ntmps70 ?_;generalize hB:ids (R.e 39 [] [] [])=B;generalize hE:(R.aZ b).e 39 [] [] []=E;refine S ?_
 (have W:=jA hj TF;repeat' (first|refine aq fun K hK=>?_|refine am ?_|(with_reducible refine gR 0 ?_);refine dE 0 (au 0 12) mixed ?_|(refine hK _ _ ?_;clear hK K)|(refine ao ?_ ?_<;>intro hc<;>try exact jz)|refine ap ?_|exact jI|(clear hK K)))
 subst hE;refine c7 (R':=R.aZ b) (tl:=[]) (congrArg (Hp.mk B) (RS.gn (x:=⟨b,0⟩) hk hj rfl (fun j=>rfl) fun j=>?_)) hB [] (fun i r h=>by cases h) rfl rfl rfl;by_cases e:j=R.nf-1
 ·rw[if_pos e,if_pos e,List.map_append];rfl
 ·rw[if_neg e,if_neg e];unfold RS.pt;rw[List.map_append]
def JB(h:bY p)(R:RS)(hd:bo p R)(a:Int)(h0:0<=a)(hl:a.toNat<p.aa.nodes.length)(hk:(aJ p a).kind=20) :
  af prog 101 [.agg (bp p),.pt 0 0 0 0,rI a] (R.e 39 [] [] []) (fun r l=>r=.bt [rV (R.fresh p a).2.1,rI (R.fresh p a).2.2]/\l=(R.fresh p a).1.e 39 [] [] []):=by
 have hok:=hd.inv.ok;have Qy:=hok.nf;have h1:=hd.one;have Rt:=hd.inv.ak;have Qi:=gX R.heap;have Rv:=hd.cells;obtain⟨x,Qa,hx⟩:=(h.ok.aa.shape a.toNat hl).1.one (.inr (.inr (.inr (.inr (.inr hk)))));have QX:=(h.ok.aa.shape a.toNat hl).2.1 x (by rw[Qa];simp);have Qc:nth (nth p.aa.nodes a.toNat).l 0=x:=by rw[Qa];rfl
 have Qj:(nth p.aa.nodes a.toNat).l.length=1:=by rw[Qa];rfl
 have hv:=oY h R hok h1 jB jB x QX.1 jB hx;have S7:=Pt R.heap jB;have Ri:∀(i:Nat) (x y z:Row),low [(4,x),(5,y),(6,z)]:=fun i x y z=>Cg jB jB jB
 have S8:R.fresh p a=(let v:=R.val p x;if v.2≠0 then(R,v0,v.2)else if v.1.n<0\/16<v.1.n then(R,v0,7)else if 40<fj R.heap+v.1.n+1 then(R,v0,4)else(R.grow (List.replicate v.1.n.toNat 0),⟨4,R.heap.length+1,sE⟩,0)):=by unfold RS.fresh;rw[show nth (aJ p a).l 0=x from Qc];rfl
 rw[S8];have QE:∀(X:ai×Int),X=R.val p x->True:=fun _ _=>trivial
 generalize R.val p x=X at hv ⊢;have fin:∀(R':RS) (v:ai) (tr:Int),(X.2≠0/\R'=R/\v=v0/\tr=X.2)\/(X.2=0/\(X.1.n<0\/16<X.1.n)/\R'=R/\v=v0/\tr=7)\/(X.2=0/\0<=X.1.n/\X.1.n<=16/\40<fj R.heap+X.1.n+1/\R'=R/\v=v0/\tr=4)->
   af prog 101 [.agg (bp p),.pt 0 0 0 0,rI a] (R.e 39 [] [] []) (fun r l=>r=.bt [rV v,rI tr]/\l=R'.e 39 [] [] []):=fun R' v tr hh=>by
  refine aO func101 ntmps101 ?_;generalize hB:ids (R.e 39 [] [] [])=B;generalize hE:R'.e 39 [] [] []=E
  (refine S ?_;try exact jI)
  rcases hh with⟨c0,rfl,rfl,rfl⟩|⟨c0,c1,rfl,rfl,rfl⟩|⟨c0,c1,c2,c3,rfl,rfl,rfl⟩
  all_goals
   (have W:=jA Qc Qj;repeat' (first|refine aq fun K hK=>?_|refine am ?_|(with_reducible refine gR 1 ?_);refine dL 1 [] [15] (au 0 18) mixed ?_|(with_reducible refine gR 6 ?_);refine dQ 6 mixed ?_|(with_reducible refine gR 8 ?_);refine dC 8 ([],[],[56,57]) [] (au 0 13) mixed ?_|(refine hK _ _ ?_;clear hK K)|(refine ao ?_ ?_<;>intro hc<;>try exact jz)|refine bz 4 ?_|refine bf 5 ?_|refine bf 6 ?_|(refine cE (R:=R') (R':=R') (pre:=[]) (post:=[]) (pre':=[]) (post':=[]) hv rfl jl jl rfl rfl (s8 jB jB) rfl jD ?_;refine S ?_)|(refine cE (R:=R') (R':=R') (pre:=[]) (post:=[]) (pre':=[]) (post':=[]) hv rfl jl jl rfl rfl (Ri 0 _ _ _) rfl jD ?_;refine S ?_)|(refine mM (args':=[kP R'.heap]) S7 (show bc _ ⟨B,R'.e 39 [] [] _⟩ _ _ from⟨RS.kZ (fun _=>rfl),trivial⟩) rfl jD ?_;refine S ?_)|refine ap ?_|exact jI|(clear hK K)))
  all_goals
   subst hE;exact c7 (R':=R') (tl:=[(4,.var 29 (bp p)),(5,.var 50 (bk v0)),(6,.var 50 (bk X.1))]) rfl hB [.cell 6 50,.tmp 7] (Ri 0 _ _ _) rfl rfl rfl
 by_cases c0:X.2=0
 rotate_left
 ·simp only;rw[if_pos c0];exact fin R v0 X.2 (.inl ⟨c0,rfl,rfl,rfl⟩)
 simp only;rw[if_neg (fun h=>h c0)];by_cases c1:X.1.n<0\/16<X.1.n
 ·rw[if_pos c1];exact fin R v0 7 (.inr (.inl ⟨c0,c1,rfl,rfl,rfl⟩))
 rw[if_neg c1];by_cases c2:40<fj R.heap+X.1.n+1
 ·rw[if_pos c2];exact fin R v0 4 (.inr (.inr ⟨c0,jB,jB,c2,rfl,rfl,rfl⟩))
 rw[if_neg c2];obtain⟨m,hm⟩:∃m:Nat,X.1.n=(m:Int):=⟨X.1.n.toNat,jB⟩;rw[hm]at c1 c2 ⊢;rw[Int.toNat_natCast];refine aO func101 ntmps101 ?_;generalize hB:ids (R.e 39 [] [] [])=B;generalize hE:(R.grow (List.replicate m 0)).e 39 [] [] []=E;refine S ?_
 (have W:=jA Qc (jA Qj (hm));repeat' (first|refine aq fun K hK=>?_|refine am ?_|(with_reducible refine gR 1 ?_);refine dL 1 [] [15] (au 0 18) mixed ?_|(with_reducible refine gR 6 ?_);refine dQ 6 mixed ?_|(with_reducible refine gR 8 ?_);refine dC 8 ([],[],[56,57]) [] (au 0 13) mixed ?_|(refine hK _ _ ?_;clear hK K)|(refine ao ?_ ?_<;>intro hc<;>try exact jz)|refine bz 4 ?_|refine bf 5 ?_|refine bf 6 ?_|refine Dw (n:=m) (bj 2 R.heap.length) ?_|refine tI 7 ?_|(refine cE (R:=R) (R':=R) (pre:=[]) (post:=[]) (pre':=[]) (post':=[]) hv rfl jl jl rfl rfl (s8 jB jB) rfl jD ?_;refine S ?_)|(refine cE (R:=R) (R':=R) (pre:=[]) (post:=[]) (pre':=[]) (post':=[]) hv rfl jl jl rfl rfl (Ri 0 _ _ _) rfl jD ?_;refine S ?_)|(refine mM (args':=[kP R.heap]) S7 (show bc _ ⟨B,R.e 39 [] [] _⟩ _ _ from⟨RS.kZ (fun _=>rfl),trivial⟩) rfl jD ?_;refine S ?_)|refine ap ?_|exact jI|(clear hK K)))
 subst hE;refine xu (R':=R.grow (List.replicate m 0)) (tl:=[(4,.var 29 (bp p)),(5,.var 50 (bk ⟨4,R.heap.length+1,sE⟩)),(6,.var 50 (bk X.1)),(7,.aG 22 1 [[.rs (bj 2 R.heap.length) m 1 m]])]) rfl (RS.jt (r:=.aG 3 1 (List.replicate m [rI 0])) ?_ (fun k hk=>?_) ?_ (fun i=>?_) (Dp jB jB jB jB)) hB [.cell 6 50,.tmp 7] (Dp jB jB jB jB) rfl rfl rfl
 ·simp[RS.c,RS.grow]
 ·by_cases e:k=R.heap.length
  ·subst e;rw[if_pos rfl,oE];simp
  ·rw[if_neg e,lB jB]
 ·rw[List.map_replicate];rfl
 ·simp only[aB,List.cons_append,List.nil_append];have Yj:=gW 2 R.heap.length;repeat' split
  all_goals first
   |rfl
   |omega
def MO(R:RS)(v:ai)(hh:R.heap.length<=1000000) :
  af prog 103 [.rs 2 R.heap.length 1 R.heap.length,rV v] (R.e 39 [] [] []) (fun r l=>r=R.fc v/\l=R.e 39 [] [] []):=by
 suffices key:∀R':RS,R'=R->af prog 103 [.rs 2 R.heap.length 1 R.heap.length,rV v] (R.e 39 [] [] []) (fun r l=>r=R.fc v/\l=R'.e 39 [] [] []) from key R rfl
 intro R' u';by_cases c:v.ty≠4\/v.n<1\/(R.heap.length:Int)<v.n
 all_goals
  unfold RS.fc;first|rw[if_pos c]|rw[if_neg c]
  refine aO func103 ntmps103 ?_;generalize hB:ids (R.e 39 [] [] [])=B;generalize hE:R'.e 39 [] [] []=E;refine S ?_
  (repeat' (first|refine aq fun K hK=>?_|refine am ?_|(refine hK _ _ ?_;clear hK K)|(refine ao ?_ ?_<;>intro hc<;>try exact jz)|refine bz 4 ?_|refine bz 5 ?_|refine ap ?_|exact jI|(clear hK K)))
  subst hE;subst u';exact wX (R':=R') (pre':=[]) (post':=[]) rfl hB [.tmp 4] aM rfl rfl (by simp[go_sem,sO])
def bo.gr(h:bY p)(hd:bo p R):gv R:=by have J':=hd.fy h;have e:=hd.iC;have h1:=J'.pa;have h2:=J'.gV;have h3:=J'.a0;have h4:=J'.uW;rw[e]at h1 h2 h3 h4;exact⟨hd.inv.ok,hd.one,by have:=hd.inv.ak;omega,h1,h2,h3,h4⟩
def sj{R':RS}(h:gv R)(h1:R'.ak=R.ak)(h2:R'.nf=R.nf)(h3:R'.jp=R.jp):gv R':=⟨⟨by rw[h1,h2];exact h.ok.nf,by rw[h1,h3];exact h.ok.jp⟩,by rw[h2];exact h.nf,by rw[h1];exact h.ak,by rw[h1,h2];exact h.pa,by rw[h1,h2];exact h.gV,by rw[h1,h2];exact h.a0,by rw[h1,h2];exact h.a1⟩
def Js(h:bY p)(R:RS)(hd:bo p R)(hk:(aJ p (aW p R.st)).kind=12) :
  af prog 65 [.agg (bp p),.pt 0 0 0 0,rI (aW p R.st)] (R.e 39 [] [] []) (fun r l=>r=rI (R.put p (aW p R.st)).2/\l=(R.put p (aW p R.st)).1.e 39 [] [] []):=by
 have hok:=hd.inv.ok;have Qy:=hok.nf;have h1:=hd.one;have Rt:=hd.inv.ak;have Qi:=gX R.heap;have Rv:=hd.cells;have J':=hd.fy h;obtain⟨s0,s1,s2,s3,s4,s5⟩:=hd.stmt h;have QH:=J'.sl;have RK:R.nf-1<R.ak.length:=jB;generalize ha:aW p R.st=a at*;obtain⟨x,y,Qa,hx,hy⟩:=(h.ok.aa.shape a.toNat s1).1.two (.inr hk);have Q7:=(h.ok.aa.shape a.toNat s1).2.1 x (by rw[Qa];simp);have Wd:=(h.ok.aa.shape a.toNat s1).2.1 y (by rw[Qa];simp);have Qc:nth (nth p.aa.nodes a.toNat).l 0=x:=by rw[Qa];rfl
 have Rg:nth (nth p.aa.nodes a.toNat).l 1=y:=by rw[Qa];rfl
 have Qj:(nth p.aa.nodes a.toNat).l.length=2:=by rw[Qa];rfl
 have QB:=oY h R hok h1 jB jB x Q7.1 jB hx;have T5:=oY h R hok h1 jB jB y Wd.1 jB hy;have Qo:=Aj R.aF.ab (nth p.ab a.toNat) 4;have Tz:=MO R (gA R.aF.ab (nth p.ab a.toNat) 4) jB;have S8:R.put p a=(let x:=R.val p x;let y:=R.val p y;let v:=gA R.aF.ab (nth p.ab a.toNat) 4;if x.2≠0 then(R,x.2)else if y.2≠0 then(R,y.2)else if x.1.n<0\/((fq R.heap v).length:Int)<=x.1.n then(R,2)
   else((R.ez (v.n-1).toNat ((nth R.heap (v.n-1).toNat).set x.1.n.toNat y.1.n)).on,0)):=by
  unfold RS.put;rw[show nth (aJ p a).l 0=x from Qc,show nth (aJ p a).l 1=y from Rg];rfl
 rw[S8];generalize R.val p x=X at QB ⊢;generalize R.val p y=Y at T5 ⊢;generalize hV:gA R.aF.ab (nth p.ab a.toNat) 4=V at*;simp only;have hL:(R.fc V=.raw (.slice none 0 0)/\fq R.heap V=[])\/(1<=V.n/\V.n<=R.heap.length/\R.fc V=.rs (bj 2 (V.n-1).toNat) (nth R.heap (V.n-1).toNat).length 1 (nth R.heap (V.n-1).toNat).length/\fq R.heap V=nth R.heap (V.n-1).toNat):=by
  unfold RS.fc fq;by_cases c:V.ty≠4\/V.n<1\/(R.heap.length:Int)<V.n
  ·rw[if_pos c,if_pos c];exact .inl ⟨rfl,rfl⟩
  ·rw[if_neg c,if_neg c];exact .inr ⟨jB,jB,rfl,rfl⟩
 have QO:((fq R.heap V).length:Int)<=40:=by
  rcases hL with⟨_,e⟩|⟨c1,c2,_,e⟩
  ·rw[e];simp
  ·rw[e];have:=sZ R.heap (V.n-1).toNat jB;omega
 have fin:∀(R':RS) (tr:Int),R'=R->(X.2≠0/\tr=X.2)\/(X.2=0/\Y.2≠0/\tr=Y.2)\/(X.2=0/\Y.2=0/\(X.1.n<0\/((fq R.heap V).length:Int)<=X.1.n)/\tr=2)->
   af prog 65 [.agg (bp p),.pt 0 0 0 0,rI a] (R.e 39 [] [] []) (fun r l=>r=rI tr/\l=R'.e 39 [] [] []):=fun R' tr hR hh=>by
  rcases hL with⟨e1,e2⟩|⟨cv1,cv2,e1,e2⟩
  all_goals
   rw[e1]at Tz;rw[e2]at hh QO;refine aO func65 ntmps65 ?_;generalize hB:ids (R.e 39 [] [] [])=B;generalize hE:R'.e 39 [] [] []=E
   (refine S ?_;try exact jI)
   rcases hh with⟨c0,rfl⟩|⟨c0,c1,rfl⟩|⟨c0,c1,c2,rfl⟩
   all_goals
    (have W:=jA Qc (jA Rg (Qj));repeat' (first|refine aq fun K hK=>?_|refine am ?_|(with_reducible refine gR 2 ?_);refine dL 2 [] [10] (au 0 13) mixed ?_|(with_reducible refine gR 5 ?_);refine dL 5 [] [10] (au 0 13) mixed ?_|(with_reducible refine gR 8 ?_);refine dL 8 [] [19] (au 0 21) mixed ?_|(with_reducible refine gR 9 ?_);refine dE 9 (au 0 7) mixed ?_|(with_reducible refine gR 12 ?_);refine dE 12 (au 0 15) mixed ?_|(refine hK _ _ ?_;clear hK K)|(refine ao ?_ ?_<;>intro hc<;>try exact jz)|refine bz 4 ?_|refine bf 5 ?_|refine bf 6 ?_|refine bf 7 ?_|refine bf 8 ?_|(refine cE (R:=R) (R':=R) (pre:=[]) (post:=[]) (pre':=[]) (post':=[]) QB rfl jl jl rfl rfl aM rfl jD ?_;refine S ?_)|(refine cE (R:=R) (R':=R) (pre:=[]) (post:=[]) (pre':=[]) (post':=[]) T5 rfl jl jl rfl rfl aM rfl jD ?_;refine S ?_)|(refine mM (args':=[kq R.aF.ab,rI (nth p.ab a.toNat),rI 4]) Qo (show bc _ ⟨B,R.e 39 [] [] _⟩ _ _ from⟨RS.iy RK (fun _=>rfl) rfl,.same _ rfl,.same _ rfl,trivial⟩) rfl jD ?_;refine S ?_)|(refine cL (args':=[kq R.aF.ab,rI (nth p.ab a.toNat),rI 4]) Qo (show bc _ ⟨B,R.e 39 [] [] _⟩ _ _ from⟨RS.iy RK (fun _=>rfl) rfl,.same _ rfl,.same _ rfl,trivial⟩) rfl jD ?_;refine S ?_)|(refine AM (R:=R) (R':=R) (pre:=[]) (post:=[]) (pre':=[]) (post':=[]) Tz rfl jl jl rfl rfl aM rfl jD ?_;refine S ?_)|refine ap ?_|exact jI|(clear hK K)))
    all_goals
     subst hE;subst hR;exact c7 (R':=R') (pre':=[]) (post':=[]) rfl hB [.tmp 6] aM rfl rfl rfl
 by_cases c0:X.2=0
 rotate_left
 ·rw[if_pos c0];exact fin R X.2 rfl (.inl ⟨c0,rfl⟩)
 rw[if_neg (fun h=>h c0)];by_cases c1:Y.2=0
 rotate_left
 ·rw[if_pos c1];exact fin R Y.2 rfl (.inr (.inl ⟨c0,c1,rfl⟩))
 rw[if_neg (fun h=>h c1)];by_cases c2:X.1.n<0\/((fq R.heap V).length:Int)<=X.1.n
 ·rw[if_pos c2];exact fin R 2 rfl (.inr (.inr ⟨c0,c1,c2,rfl⟩))
 rw[if_neg c2];rcases hL with⟨e1,e2⟩|⟨cv1,cv2,e1,e2⟩
 ·rw[e2]at c2;exfalso;simp at c2;omega
 rw[e1]at Tz;rw[e2]at c2 QO;have XR:(V.n-1).toNat<R.heap.length:=jB;have QN:=rF (R.ez (V.n-1).toNat ((nth R.heap (V.n-1).toNat).set X.1.n.toNat Y.1.n)) (sj (hd.gr h) rfl rfl rfl);have P':(R.ez (V.n-1).toNat ((nth R.heap (V.n-1).toNat).set X.1.n.toNat Y.1.n)).heap.length=R.heap.length:=by simp[RS.ez]
 refine aO func65 ntmps65 ?_;generalize hB:ids (R.e 39 [] [] [])=B;generalize hE:(R.ez (V.n-1).toNat ((nth R.heap (V.n-1).toNat).set X.1.n.toNat Y.1.n)).on.e 39 [] [] []=E;refine S ?_
 (have W:=jA Qc (jA Rg (Qj));repeat' (first|refine aq fun K hK=>?_|refine am ?_|(with_reducible refine gR 2 ?_);refine dL 2 [] [10] (au 0 13) mixed ?_|(with_reducible refine gR 5 ?_);refine dL 5 [] [10] (au 0 13) mixed ?_|(with_reducible refine gR 8 ?_);refine dL 8 [] [19] (au 0 21) mixed ?_|(with_reducible refine gR 9 ?_);refine dE 9 (au 0 7) mixed ?_|(with_reducible refine gR 12 ?_);refine dE 12 (au 0 15) mixed ?_|(refine hK _ _ ?_;clear hK K)|(refine ao ?_ ?_<;>intro hc<;>try exact jz)|refine bz 4 ?_|refine bf 5 ?_|refine bf 6 ?_|refine bf 7 ?_|refine bf 8 ?_|(refine cE (R:=R) (R':=R) (pre:=[]) (post:=[]) (pre':=[]) (post':=[]) QB rfl jl jl rfl rfl aM rfl jD ?_;refine S ?_)|(refine cE (R:=R) (R':=R) (pre:=[]) (post:=[]) (pre':=[]) (post':=[]) T5 rfl jl jl rfl rfl aM rfl jD ?_;refine S ?_)|(refine mM (args':=[kq R.aF.ab,rI (nth p.ab a.toNat),rI 4]) Qo (show bc _ ⟨B,R.e 39 [] [] _⟩ _ _ from⟨RS.iy RK (fun _=>rfl) rfl,.same _ rfl,.same _ rfl,trivial⟩) rfl jD ?_;refine S ?_)|(refine cL (args':=[kq R.aF.ab,rI (nth p.ab a.toNat),rI 4]) Qo (show bc _ ⟨B,R.e 39 [] [] _⟩ _ _ from⟨RS.iy RK (fun _=>rfl) rfl,.same _ rfl,.same _ rfl,trivial⟩) rfl jD ?_;refine S ?_)|(refine AM (R:=R) (R':=R) (pre:=[]) (post:=[]) (pre':=[]) (post':=[]) Tz rfl jl jl rfl rfl aM rfl jD ?_;refine S ?_)|(refine cE (R:=R.ez (V.n-1).toNat ((nth R.heap (V.n-1).toNat).set X.1.n.toNat Y.1.n)) (R':=(R.ez (V.n-1).toNat ((nth R.heap (V.n-1).toNat).set X.1.n.toNat Y.1.n)).on) (pre:=[]) (post:=[]) (pre':=[]) (post':=[]) QN (congrArg (Hp.mk B) (RS.nQ (R:=R) (k:=(V.n-1).toNat) (l:=(nth R.heap (V.n-1).toNat).set X.1.n.toNat Y.1.n) XR jE rfl fun j=>rfl)) (Nat.le_of_eq RS.aT) jl rfl rfl aM rfl jD ?_;refine S ?_)|refine ap ?_|exact jI|(clear hK K)))
 subst hE;exact c7 (R':=(R.ez (V.n-1).toNat ((nth R.heap (V.n-1).toNat).set X.1.n.toNat Y.1.n)).on) (pre':=[]) (post':=[]) rfl hB [.tmp 6] aM rfl rfl rfl
attribute [go_sem] qE rm
theorem yU{p:ae}(R:RS):∀(l:PY) (a:List ai) (k:Nat),k<=l.length->(∀j,j<k->(R.val p (nth l j)).2=0)->R.args p l a=R.args p (l.drop k) (a++(l.take k).map fun x=>(R.val p x).1)
 |l,a,0,_,_=>by simp
 |[],a,k+1,h,_=>by simp at h
 |x::l,a,k+1,h,h0=>by
  have e0:(R.val p x).2=0:=h0 0 jB;conv=>lhs;unfold RS.args
  rw[if_neg (fun h=>h e0),yU R l _ k (by simpa using h) fun j hj=>h0 (j+1) jB];simp
def DP(R:RS)(p:ae)(x:Int)(l:PY)(a:List ai):R.args p (x::l) a=if(R.val p x).2≠0 then(a,(R.val p x).2)else R.args p l (a++[(R.val p x).1]):=by conv=>lhs;unfold RS.args
def G2(R:RS)(p:ae)(a:List ai):R.args p [] a=(a,0):=by unfold RS.args;rfl
def E5(h:bY p)(R:RS)(hd:bo p R)(a:Int)(h0:0<=a)(hl:a.toNat<p.aa.nodes.length)(hk:(aJ p a).kind=21) :
  af prog 64 [.agg (bp p),.pt 0 0 0 0,rI a] (R.e 39 [] [] []) (fun r l=>r=rI (R.call p a).2/\l=(R.call p a).1.e 39 [] [] []):=by
 have hok:=hd.inv.ok;have Qy:=hok.nf;have h1:=hd.one;have Rt:=hd.inv.ak;have Qi:=gX R.heap;have Rv:=hd.cells;have R4:=hd.full;obtain⟨k,QY⟩:=callee h hl hk;have R5:=(h.ok.aa.shape a.toNat hl);have QG:=R5.1.call hk;have Qd:=R5.2.1;have XU:(nth p.aa.nodes a.toNat).l.length<=3:=QY.Gy;have hv:∀j,j<(nth p.aa.nodes a.toNat).l.length->af prog 66 [.agg (bp p),.pt 0 0 0 0,rI (nth (nth p.aa.nodes a.toNat).l j)] (R.e 39 [] [] []) (fun r l=>r=.bt [rV (R.val p (nth (nth p.aa.nodes a.toNat).l j)).1,rI (R.val p (nth (nth p.aa.nodes a.toNat).l j)).2]/\l=R.e 39 [] [] []):=fun j hj=>by have hm:=dZ hj;have hb:=Qd _ hm;exact oY h R hok h1 jB jB _ hb.1 jB (QG _ hm)
 generalize hL:(nth p.aa.nodes a.toNat).l=L at*;suffices key:∀(R':RS) (tr:Int),(R',tr)=R.call p a->af prog 64 [.agg (bp p),.pt 0 0 0 0,rI a] (R.e 39 [] [] []) (fun r l=>r=rI tr/\l=R'.e 39 [] [] []) from key _ _ rfl
 intro R' tr u';unfold RS.call at u';rw[show(aJ p a).l=L from hL]at u';refine aO func64 ntmps64 ?_;generalize hB:ids (R.e 39 [] [] [])=B;generalize hE:R'.e 39 [] [] []=E;refine S ?_
 (have W:=hL;repeat' (first|refine aq fun K hK=>?_|refine am ?_|(with_reducible refine gR 6 ?_);refine dL 6 [] [11] (au 0 14) mixed ?_|(with_reducible refine gR 15 ?_);refine dE 15 (au 0 10) mixed ?_|(with_reducible refine gR 16 ?_);refine dC 16 ([],[],[77,78]) [] (au 0 14) mixed ?_|(refine hK _ _ ?_;clear hK K)|(refine ao ?_ ?_<;>intro hc<;>try exact jz)|refine bz 4 ?_|refine bf 5 ?_|refine lb 6 ?_|refine ap ?_|exact jI|(clear hK K)))
 have M':=hK;clear hK;have XV:∀k,k<=L.length->((L.take k).map fun x=>(R.val p x).1).length=k:=fun k hk=>by simp;omega
 refine de (S:=Nat) [(6,1),(8,4),(20,25)] (fun k=>k<=L.length/\∀j,j<k->(R.val p (nth L j)).2=0) (fun k=>[(8,.rs 6 k 3 k),(9,rI k)])
  (fun k=>⟨B,R.e 39 [] [] [(4,.var 29 (bp p)),(5,.var 78 (bX (nth p.aa.nodes a.toNat))),(6,.aG 50 3 (((L.take k).map fun x=>(R.val p x).1).map bk))]⟩)
  (fun k=>L.length-k) 0 ⟨jB,fun j hj=>jB⟩ (dc rfl bK) ?_
 rintro q ⟨hq,Vl⟩ Kr P9;have g':=XV q hq;have QF:=yU (p:=p) R L [] q hq Vl;rw[List.nil_append]at QF;by_cases UB:q<L.length
 ·have Vp:=hv q UB;have T6:L.drop q=nth L q::L.drop (q+1):=by rw[gD UB];exact List.drop_eq_getElem_cons UB
  rw[T6,DP]at QF;generalize hX:R.val p (nth L q)=X at*;by_cases Qc:X.2=0
  ·(refine S ?_;try exact jI)
   (have W:=jA hL g';repeat' (first|refine aq fun K hK=>?_|refine am ?_|(with_reducible refine gR 6 ?_);refine dL 6 [] [11] (au 0 14) mixed ?_|(with_reducible refine gR 15 ?_);refine dE 15 (au 0 10) mixed ?_|(with_reducible refine gR 16 ?_);refine dC 16 ([],[],[77,78]) [] (au 0 14) mixed ?_|(refine hK _ _ ?_;clear hK K)|(refine ao ?_ ?_<;>intro hc<;>try exact jz)|refine bf 7 ?_|(refine cE (R:=R) (R':=R) (pre:=[]) (post:=[]) (pre':=[]) (post':=[]) Vp rfl jl jl rfl rfl aM rfl jD ?_;refine S ?_)|refine M' _ _ ?_|refine ap ?_|exact jI|(clear hK K)))
   have e6:((L.take (q+1)).map fun x=>(R.val p x).1).map bk=List.map bk (List.map (fun x=>(R.val p x).1) (L.take q))++[bk X.1]:=by rw[qF UB];simp[hX]
   refine P9 _ _ (yc (R0:=R) (R':=R) (pre:=[]) (post:=[]) (pre':=[]) (post':=[]) (q+1) [(4,.var 29 (bp p)),(5,.var 78 (bX (nth p.aa.nodes a.toNat))),(6,.aG 50 3 (List.map bk (List.map (fun x=>(R.val p x).1) (L.take q))++[bk X.1]))] 7 (.var 50 (bk X.1)) ⟨jB,fun j hj=>?_⟩ (by show L.length-(q+1)<L.length-q;omega) rfl hB ?_ jB rfl rfl rfl (fun i r hi=>?_) (by simp[ids]))
   ·by_cases e:j<q
    ·exact Vl j e
    ·rw[show j=q from jB,hX];exact Qc
   ·show Hp.mk B (R.e _ _ _ [_,_,(6,Row.aG _ _ _)])=_;rw[e6]
   ·simp only[aB]at hi;repeat' split at hi
    all_goals first
     |(cases hi;exact Bq _ _)
     |(cases hi;exact tB _ _)
     |(cases hi;exact xp (za (iW _) (CG (by simp[go_sem]) (xo _))))
     |cases hi
  ·rw[if_pos Qc]at QF;rw[QF]at u';simp only at u';rw[if_pos Qc]at u';obtain⟨rfl,rfl⟩:=Prod.mk.inj u';refine S ?_
   (have W:=jA hL g';repeat' (first|refine aq fun K hK=>?_|refine am ?_|(with_reducible refine gR 6 ?_);refine dL 6 [] [11] (au 0 14) mixed ?_|(with_reducible refine gR 15 ?_);refine dE 15 (au 0 10) mixed ?_|(with_reducible refine gR 16 ?_);refine dC 16 ([],[],[77,78]) [] (au 0 14) mixed ?_|(refine hK _ _ ?_;clear hK K)|(refine ao ?_ ?_<;>intro hc<;>try exact jz)|refine bf 7 ?_|(refine cE (R:=R') (R':=R') (pre:=[]) (post:=[]) (pre':=[]) (post':=[]) Vp rfl jl jl rfl rfl aM rfl jD ?_;refine S ?_)|refine M' _ _ ?_|refine ap ?_|exact jI|(clear hK K)))
   subst hE;exact c7 (R':=R') (pre':=[]) (post':=[]) rfl hB [.tmp 6] aM rfl rfl rfl
 ·have SC:q=L.length:=jB;subst SC;rw[List.drop_length,List.take_length,G2]at QF;rw[List.take_length]at g';rw[QF]at u';simp only at u';rw[if_neg (fun h=>h rfl),QY.at_]at u';generalize hA:L.map (fun x=>(R.val p x).1)=args at*;by_cases h8:8<=R.nf
  ·rw[if_pos h8]at u';obtain⟨rfl,rfl⟩:=Prod.mk.inj u';rw[List.take_length,hA];refine S ?_
   (have W:=jA hL g';repeat' (first|refine aq fun K hK=>?_|refine am ?_|(with_reducible refine gR 6 ?_);refine dL 6 [] [11] (au 0 14) mixed ?_|(with_reducible refine gR 15 ?_);refine dE 15 (au 0 10) mixed ?_|(with_reducible refine gR 16 ?_);refine dC 16 ([],[],[77,78]) [] (au 0 14) mixed ?_|(refine hK _ _ ?_;clear hK K)|(refine ao ?_ ?_<;>intro hc<;>try exact jz)|refine M' _ _ ?_|refine ap ?_|exact jI|(clear hK K)))
   subst hE;exact c7 (R':=R') (pre':=[]) (post':=[]) rfl hB [.tmp 6] aM rfl rfl rfl
  ·rw[if_neg h8]at u';obtain⟨rfl,rfl⟩:=Prod.mk.inj u';rw[List.take_length,hA];refine S ?_
   (have W:=jA hL g';repeat' (first|refine aq fun K hK=>?_|refine am ?_|(with_reducible refine gR 6 ?_);refine dL 6 [] [11] (au 0 14) mixed ?_|(with_reducible refine gR 15 ?_);refine dE 15 (au 0 10) mixed ?_|(with_reducible refine gR 16 ?_);refine dC 16 ([],[],[77,78]) [] (au 0 14) mixed ?_|(refine hK _ _ ?_;clear hK K)|(refine ao ?_ ?_<;>intro hc<;>try exact jz)|refine M' _ _ ?_|refine ap ?_|exact jI|(clear hK K)))
   have Wn:L.length=args.length:=by rw[<-hA];simp
   have Qw:db (fun i=>[6].contains i) ⟨B,R.e 39 [] [] [(4,.var 29 (bp p)),(5,.var 78 (bX (nth p.aa.nodes a.toNat))),(6,.aG 50 3 (args.map bk))]⟩ (.rs 6 L.length 3 L.length) (ax bk 3 args):=
    db.row args rfl (by show aB (R.e _ _ _ _) 6=_;rw[RS.rX 6 jB jB];rfl) Wn
   refine FD (R:=R) (R':=R) (t:=39) (pre:=[]) (post:=[]) (t':=39) (pre':=[]) (post':=[]) [6] [(8,ax bk 3 args),(19,.any)] [(4,.var 29 (bp p)),(5,.var 78 (bX (nth p.aa.nodes a.toNat))),(6,.aG 50 3 (args.map bk))] rfl rfl rfl hB rfl rfl ?_ ?_ ?_
   ·refine⟨.inr (Bq _ _),.inr (tB _ _),.inl rfl,trivial⟩
   ·simp only[jL,List.foldl_cons,List.foldl_nil,List.set_cons_zero,List.set_cons_succ,bc];repeat' (first|exact jI|exact AB _|exact Qw|exact .same _ rfl|exact .drop _|refine jA ?_ ?_)
   have M':=hK;clear hK
   (refine S ?_;try exact jI)
   have Q0:args.length=(nth p.aa.av k).params.length:=by rw[<-Wn,<-hL];exact QY.args
   have Rn:=Gx h k QY.lt args Q0 R.ak.length;have Qx:(nth p.aa.av k).name=(nth p.aa.nodes a.toNat).name:=QY.name;have hklt:=QY.lt;have Wo:=h.ok.aa.av;refine de (S:=Nat) [(6,1),(12,1),(51,31)] (fun i=>i<=k) (fun i=>[(12,rI i)]) (fun i=>⟨B,R.e 39 [] [] [(4,.var 29 (bp p)),(5,.var 78 (bX (nth p.aa.nodes a.toNat)))]⟩)
    (fun i=>k-i) 0 jB (dc rfl bK) ?_
   rintro i hi Ks UC;by_cases e:i=k
   ·subst e;refine S ?_
    (have W:=jA Qx R4;repeat' (first|refine aq fun K hK=>?_|refine am ?_|(with_reducible refine gR 6 ?_);refine dL 6 [] [11] (au 0 14) mixed ?_|(with_reducible refine gR 15 ?_);refine dE 15 (au 0 10) mixed ?_|(with_reducible refine gR 16 ?_);refine dC 16 ([],[],[77,78]) [] (au 0 14) mixed ?_|(refine hK _ _ ?_;clear hK K)|(refine ao ?_ ?_<;>intro hc<;>try exact jz)|refine cN Rn ?_|refine tI 6 ?_|refine ap ?_|exact jI|(clear hK K)))
    subst hE;have W5:=gW 0 R.ak.length;have QA:=gW 1 R.ak.length;have Q8:bj 1 R.ak.length≠bj 0 R.ak.length:=fun e=>by have:=(nz jB jB e).1;omega
    refine xu (R':=R.push (fk p i args)) (tl:=[(4,.var 29 (bp p)),(5,.var 78 (bX (nth p.aa.nodes a.toNat))),(6,.aG 87 3 [rm p i args R.ak.length])]) rfl (RS.jq hok R4 ?_ (fun j hj=>?_) (fun j=>?_) aM) hB [.tmp 6] aM rfl rfl rfl
    ·simp[RS.c,RS.push,R4]
    ·rfl
    ·simp only[aB,qE,List.cons_append,List.nil_append];repeat' split
     all_goals first
      |rfl
      |omega
   ·have QD:=eq_false (h.names.one i k jB QY.lt);rw[Qx]at QD;refine S ?_
    (have W:=QD;repeat' (first|refine aq fun K hK=>?_|refine am ?_|(with_reducible refine gR 6 ?_);refine dL 6 [] [11] (au 0 14) mixed ?_|(with_reducible refine gR 15 ?_);refine dE 15 (au 0 10) mixed ?_|(with_reducible refine gR 16 ?_);refine dC 16 ([],[],[77,78]) [] (au 0 14) mixed ?_|(refine hK _ _ ?_;clear hK K)|(refine ao ?_ ?_<;>intro hc<;>try exact jz)|(refine UC _ _ (dI (i+1) jB (by show k-(i+1)<k-i;omega) rfl bK))|refine ap ?_|exact jI|(clear hK K)))
def AO(R:RS)(p:ae)(x:Int):(R.fresh p x).1.ak=R.ak/\(R.fresh p x).1.nf=R.nf/\(R.fresh p x).1.jp=R.jp/\R.heap.length<=(R.fresh p x).1.heap.length:=by
 unfold RS.fresh;simp only;split
 ·exact⟨rfl,rfl,rfl,Nat.le_refl _⟩
 split
 ·exact⟨rfl,rfl,rfl,Nat.le_refl _⟩
 split
 ·exact⟨rfl,rfl,rfl,Nat.le_refl _⟩
 ·exact⟨rfl,rfl,rfl,jE⟩
def uQ(R:RS)(p:ae)(x:Int):R.ak.length<=(R.call p x).1.ak.length/\R.heap.length<=(R.call p x).1.heap.length:=by
 unfold RS.call;simp only;split
 ·exact⟨Nat.le_refl _,Nat.le_refl _⟩
 split
 ·exact⟨Nat.le_refl _,Nat.le_refl _⟩
 ·exact⟨by simp[RS.push],Nat.le_refl _⟩
def Hk(h:bY p)(R:RS)(hd:bo p R)(inp:PY)(hn:inp.length<=1000)(Qr:gg p (aW p R.st))(hw:¬ik p R.st (aW p R.st) inp) :
  af prog 63 [.agg (bp p),.pt 0 0 0 0,rI (aW p R.st),ax eI 1 inp] (R.e 39 [] [] []) (fun r l=>r=rI (R.right p (aW p R.st) inp).2/\l=(R.right p (aW p R.st) inp).1.e 39 [] [] []):=by
 have hok:=hd.inv.ok;have Qy:=hok.nf;have h1:=hd.one;have Rt:=hd.inv.ak;have Qi:=gX R.heap;have Rv:=hd.cells;have T7:=hd.iS;have Vq:=hd.jd;have J':=hd.fy h;obtain⟨s0,s1,s2,s3,s4,s5⟩:=hd.stmt h;have QH:=J'.sl;have RH:=J'.s0 Qr;rw[hd.iC]at RH;have QN:=hd.gr h;unfold ik at hw;generalize ha:aW p R.st=a at*;obtain⟨x,Qa,SD⟩:=(h.ok.aa.shape a.toNat s1).1.right Qr;have Q7:=(h.ok.aa.shape a.toNat s1).2.1 x (by rw[Qa];simp);have Qc:nth (nth p.aa.nodes a.toNat).l 0=x:=by rw[Qa];rfl
 have Uo:nth (aJ p a).l 0=x:=Qc;have Qj:(nth p.aa.nodes a.toNat).l.length=1:=by rw[Qa];rfl
 have SM:x.toNat<p.aa.nodes.length:=jB;have Vr:∀(R1:RS) (v:ai),R1.ak=R.ak->R1.nf=R.nf->R1.jp=R.jp->af prog 100 [.agg (bp p),.pt 0 0 0 0,rI a,.agg (bk v)] (R1.e 39 [] [] []) (fun r l=>r=.bt []/\l=(R1.store p a v).e 39 [] [] []):=fun R1 v e1 e2 e3=> Jc p a v R1 (sj QN e1 e2 e3) s0 jB QH (by rw[e1,e2];exact RH)
 suffices key:∀(R':RS) (tr:Int),(R',tr)=R.right p a inp->af prog 63 [.agg (bp p),.pt 0 0 0 0,rI a,ax eI 1 inp] (R.e 39 [] [] []) (fun r l=>r=rI tr/\l=R'.e 39 [] [] []) from key _ _ rfl
 intro R' tr u';unfold RS.right at u';simp only[Uo]at u';have SN:(aJ p x).kind=bJ p.aa.nodes x:=rfl;rw[Uo,SN]at hw;rw[SN]at u';by_cases k21:bJ p.aa.nodes x=21
 ·rw[if_pos k21]at u';have Qq:=E5 h R hd x Q7.1 SM k21;have Rn:=uQ R p x;rw[<-u']at Qq Rn;have k21':(nth p.aa.nodes x.toNat).kind=21:=k21;refine aO func63 ntmps63 ?_;generalize hB:ids (R.e 39 [] [] [])=B;generalize hE:R'.e 39 [] [] []=E;refine S ?_
  (have W:=jA Qc (jA Qj (k21'));repeat' (first|refine aq fun K hK=>?_|refine am ?_|(refine hK _ _ ?_;clear hK K)|(refine ao ?_ ?_<;>intro hc<;>try exact jz)|refine bz 4 ?_|refine bf 5 ?_|(refine cE (R:=R) (R':=R') (pre:=[]) (post:=[]) (pre':=[]) (post':=[]) Qq rfl Rn.1 Rn.2 rfl rfl aM rfl jD ?_;refine S ?_)|refine ap ?_|exact jI|(clear hK K)))
  subst hE;exact c7 (R':=R') (pre':=[]) (post':=[]) rfl hB [.tmp 8] aM rfl rfl rfl
 rw[if_neg k21]at u';by_cases k19:bJ p.aa.nodes x=19
 ·rw[if_pos k19]at u';have Qd:R.in_<inp.length:=Classical.byContradiction fun hh=>hw ⟨Qr,k19,by show(inp.length:Int)<=R.in_;omega⟩
  obtain⟨rfl,rfl⟩:=Prod.mk.inj u';have J':=Vr ({ R with in_:=R.in_+1 }:RS) (vI (nth inp R.in_.toNat)) rfl rfl rfl;have k19':(nth p.aa.nodes x.toNat).kind=19:=k19;refine aO func63 ntmps63 ?_;generalize hB:ids (R.e 39 [] [] [])=B;generalize hE:(({ R with in_:=R.in_+1 }:RS).store p a (vI (nth inp R.in_.toNat))).e 39 [] [] []=E;refine S ?_
  (have W:=jA Qc (jA Qj (k19'));repeat' (first|refine aq fun K hK=>?_|refine am ?_|(refine hK _ _ ?_;clear hK K)|(refine ao ?_ ?_<;>intro hc<;>try exact jz)|refine bz 4 ?_|refine bf 5 ?_|refine cp (tv _) ?_|(refine cE (R:={ R with in_:=R.in_+1 }) (R':=({ R with in_:=R.in_+1 }:RS).store p a (vI (nth inp R.in_.toNat))) (pre:=[]) (post:=[]) (pre':=[]) (post':=[]) J' rfl (Nat.le_of_eq (by rw[RS.store,RS.on,<-RS.aT,RS.br,<-RS.aT])) jl rfl rfl aM rfl jD ?_;refine S ?_)|refine ap ?_|exact jI|(clear hK K)))
  subst hE;exact c7 (R':=({ R with in_:=R.in_+1 }:RS).store p a (vI (nth inp R.in_.toNat))) (pre':=[]) (post':=[]) rfl hB [.tmp 8] aM rfl rfl rfl
 rw[if_neg k19]at u';have P':∀(R1:RS) (v:ai),R1.ak.length<=(R1.store p a v).ak.length:=fun R1 v=>Nat.le_of_eq (by rw[RS.store,RS.on,<-RS.aT,RS.br,<-RS.aT])
 by_cases k20:bJ p.aa.nodes x=20
 ·rw[if_pos k20]at u';have hf:=JB h R hd x Q7.1 SM k20;obtain⟨z1,z2,z3,z4⟩:=AO R p x;have k20':(nth p.aa.nodes x.toNat).kind=20:=k20;generalize R.fresh p x=Z at*;have z5:R.ak.length<=Z.1.ak.length:=by rw[z1];exact Nat.le_refl _
  have J':=Vr Z.1 Z.2.1 z1 z2 z3;by_cases hz:Z.2.2=0
  ·rw[if_pos hz]at u';obtain⟨rfl,rfl⟩:=Prod.mk.inj u';refine aO func63 ntmps63 ?_;generalize hB:ids (R.e 39 [] [] [])=B;generalize hE:(Z.1.store p a Z.2.1).e 39 [] [] []=E;refine S ?_
   (have W:=jA Qc (jA Qj (k20'));repeat' (first|refine aq fun K hK=>?_|refine am ?_|(refine hK _ _ ?_;clear hK K)|(refine ao ?_ ?_<;>intro hc<;>try exact jz)|refine bz 4 ?_|refine bf 5 ?_|(refine cE (R:=R) (R':=Z.1) (pre:=[]) (post:=[]) (pre':=[]) (post':=[]) hf rfl z5 z4 rfl rfl aM rfl jD ?_;refine S ?_)|(refine cE (R:=Z.1) (R':=Z.1.store p a Z.2.1) (pre:=[]) (post:=[]) (pre':=[]) (post':=[]) J' rfl (P' _ _) jl rfl rfl aM rfl jD ?_;refine S ?_)|refine ap ?_|exact jI|(clear hK K)))
   subst hE;exact c7 (R':=Z.1.store p a Z.2.1) (pre':=[]) (post':=[]) rfl hB [.tmp 8] aM rfl rfl rfl (hv:=by first|rfl|exact congrArg _ (congrArg _ hz))
  ·rw[if_neg hz]at u';obtain⟨rfl,rfl⟩:=Prod.mk.inj u';refine aO func63 ntmps63 ?_;generalize hB:ids (R.e 39 [] [] [])=B;generalize hE:Z.1.e 39 [] [] []=E;refine S ?_
   (have W:=jA Qc (jA Qj (k20'));repeat' (first|refine aq fun K hK=>?_|refine am ?_|(refine hK _ _ ?_;clear hK K)|(refine ao ?_ ?_<;>intro hc<;>try exact jz)|refine bz 4 ?_|refine bf 5 ?_|(refine cE (R:=R) (R':=Z.1) (pre:=[]) (post:=[]) (pre':=[]) (post':=[]) hf rfl z5 z4 rfl rfl aM rfl jD ?_;refine S ?_)|refine ap ?_|exact jI|(clear hK K)))
   subst hE;exact c7 (R':=Z.1) (pre':=[]) (post':=[]) rfl hB [.tmp 8] aM rfl rfl rfl
 rw[if_neg k20]at u';have YE:cr (bJ p.aa.nodes x):=by
  rcases SD with e|e|e|e
  ·exact e
  ·exact(k19 e).elim
  ·exact(k20 e).elim
  ·exact(k21 e).elim
 have QB:=oY h R hok h1 jB jB x Q7.1 jB YE;have YF:1<=(nth p.aa.nodes x.toNat).kind/\(nth p.aa.nodes x.toNat).kind<=9:=YE;have hE2:=YF.1;have hE3:=YF.2;generalize R.val p x=X at*;have J':=Vr R X.1 rfl rfl rfl;by_cases hz:X.2=0
 ·rw[if_pos hz]at u';obtain⟨rfl,rfl⟩:=Prod.mk.inj u';refine aO func63 ntmps63 ?_;generalize hB:ids (R.e 39 [] [] [])=B;generalize hE:(R.store p a X.1).e 39 [] [] []=E;refine S ?_
  (have W:=jA Qc Qj;repeat' (first|refine aq fun K hK=>?_|refine am ?_|(refine hK _ _ ?_;clear hK K)|(refine ao ?_ ?_<;>intro hc<;>try exact jz)|refine bz 4 ?_|refine bf 5 ?_|(refine cE (R:=R) (R':=R) (pre:=[]) (post:=[]) (pre':=[]) (post':=[]) QB rfl jl jl rfl rfl aM rfl jD ?_;refine S ?_)|(refine cE (R:=R) (R':=R.store p a X.1) (pre:=[]) (post:=[]) (pre':=[]) (post':=[]) J' rfl (P' _ _) jl rfl rfl aM rfl jD ?_;refine S ?_)|refine ap ?_|exact jI|(clear hK K)))
  subst hE;exact c7 (R':=R.store p a X.1) (pre':=[]) (post':=[]) rfl hB [.tmp 8] aM rfl rfl rfl (hv:=by first|rfl|exact congrArg _ (congrArg _ hz))
 ·rw[if_neg hz]at u';obtain⟨rfl,rfl⟩:=Prod.mk.inj u';refine aO func63 ntmps63 ?_;generalize hB:ids (R'.e 39 [] [] [])=B;suffices key2:∀R2:RS,R2=R'->cz _ _ (hU _ _ fun r l=>r=rI X.2/\l=R2.e 39 [] [] []) _ _ from key2 R' rfl
  intro R2 Q9;generalize hE:R2.e 39 [] [] []=E;refine S ?_
  (have W:=jA Qc Qj;repeat' (first|refine aq fun K hK=>?_|refine am ?_|(refine hK _ _ ?_;clear hK K)|(refine ao ?_ ?_<;>intro hc<;>try exact jz)|refine bz 4 ?_|refine bf 5 ?_|(refine cE (R:=R') (R':=R') (pre:=[]) (post:=[]) (pre':=[]) (post':=[]) QB rfl jl jl rfl rfl aM rfl jD ?_;refine S ?_)|refine ap ?_|exact jI|(clear hK K)))
  subst hE;subst Q9;exact c7 (R':=R2) (pre':=[]) (post':=[]) rfl hB [.tmp 8] aM rfl rfl rfl
def Bl(R:RS)(p:ae)(a:Int)(v:ai):(R.store p a v).ak.length=R.ak.length:=by rw[RS.store,RS.on,<-RS.aT,RS.br,<-RS.aT]
def Hy(R:RS)(p:ae)(a:Int)(inp:PY):R.ak.length<=(R.right p a inp).1.ak.length/\R.heap.length<=(R.right p a inp).1.heap.length:=by
 unfold RS.right;simp only;split
 ·exact uQ R p _
 split
 ·exact⟨Nat.le_of_eq (Bl _ _ _ _).symm,Nat.le_refl _⟩
 split
 ·obtain⟨f1,f2,f3,f4⟩:=AO R p (nth (aJ p a).l 0);split
  ·exact⟨Nat.le_of_eq ((congrArg List.length f1).symm.trans (Bl _ _ _ _).symm),f4⟩
  ·exact⟨Nat.le_of_eq (congrArg List.length f1).symm,f4⟩
 ·split
  ·exact⟨Nat.le_of_eq (Bl _ _ _ _).symm,Nat.le_refl _⟩
  ·exact⟨Nat.le_refl _,Nat.le_refl _⟩
def OX(R:RS)(p:ae)(a:Int):R.ak.length<=(R.put p a).1.ak.length/\R.heap.length<=(R.put p a).1.heap.length:=by
 unfold RS.put;simp only;split
 ·exact⟨Nat.le_refl _,Nat.le_refl _⟩
 split
 ·exact⟨Nat.le_refl _,Nat.le_refl _⟩
 split
 ·exact⟨Nat.le_refl _,Nat.le_refl _⟩
 ·refine⟨Nat.le_of_eq RS.aT,?_⟩;show R.heap.length<=(R.heap.set _ _).length;simp
def JO(h:bY p)(R:RS)(hd:bo p R)(inp:PY)(hn:inp.length<=1000)(Qr:gg p (aW p R.st))(hw:¬ik p R.st (aW p R.st) inp) :
  af prog 37 [.agg (bp p),.pt 0 0 0 0,rI (aW p R.st),ax eI 1 inp] (R.e 39 [] [] []) (fun r l=>r=rI (R.right p (aW p R.st) inp).2/\l=((R.right p (aW p R.st) inp).1).e 39 [] [] []):=by
 have hok:=hd.inv.ok;have Qy:=hok.nf;have h1:=hd.one;have Rt:=hd.inv.ak;have Qi:=gX R.heap;have Rv:=hd.cells;have J':=hd.fy h;obtain⟨s0,s1,s2,s3,s4,s5⟩:=hd.stmt h;have QH:=J'.sl;have QN:=hd.gr h;have hx:=Hk h R hd inp hn Qr hw;have P':=Hy R p (aW p R.st) inp;unfold gg at Qr;generalize R.right p (aW p R.st) inp=Z at*;generalize aW p R.st=a at*;refine aO func37 ntmps37 ?_;generalize hB:ids (R.e 39 [] [] [])=B;generalize hE:(Z.1).e 39 [] [] []=E;refine S ?_
 (have W:=Qr;repeat' (first|refine aq fun K hK=>?_|refine am ?_|(with_reducible refine gR 7 ?_);refine dE 7 (au 0 8) mixed ?_|(with_reducible refine gR 13 ?_);refine dL 13 [] [10] (au 0 13) mixed ?_|(with_reducible refine gR 19 ?_);refine dL 19 [] [10] (au 0 13) mixed ?_|(with_reducible refine gR 26 ?_);refine dQ 26 mixed ?_|(refine hK _ _ ?_;clear hK K)|(refine ao ?_ ?_<;>intro hc<;>try exact jz)|refine bz 4 ?_|refine bf 5 ?_|(refine cE (R:=R) (R':=Z.1) (pre:=[]) (post:=[]) (pre':=[]) (post':=[]) hx rfl P'.1 P'.2 rfl rfl aM rfl jD ?_;refine S ?_)|refine ap ?_|exact jI|(clear hK K)))
 all_goals
  subst hE;exact c7 (R':=Z.1) (pre':=[]) (post':=[]) rfl hB [.tmp 8] aM rfl rfl rfl
def My(h:bY p)(R:RS)(hd:bo p R)(inp:PY)(hk:(aJ p (aW p R.st)).kind=13) :
  af prog 37 [.agg (bp p),.pt 0 0 0 0,rI (aW p R.st),ax eI 1 inp] (R.e 39 [] [] []) (fun r l=>r=rI (R.call p (nth (aJ p (aW p R.st)).l 0)).2/\l=((R.call p (nth (aJ p (aW p R.st)).l 0)).1).e 39 [] [] []):=by
 have hok:=hd.inv.ok;have Qy:=hok.nf;have h1:=hd.one;have Rt:=hd.inv.ak;have Qi:=gX R.heap;have Rv:=hd.cells;have J':=hd.fy h;obtain⟨s0,s1,s2,s3,s4,s5⟩:=hd.stmt h;have QH:=J'.sl;have QN:=hd.gr h;generalize aW p R.st=a at*;obtain⟨x,Qa,Q7⟩:=(h.ok.aa.shape a.toNat s1).1.oN hk;have hb:=(h.ok.aa.shape a.toNat s1).2.1 x (by rw[Qa];simp);have Qc:nth (nth p.aa.nodes a.toNat).l 0=x:=by rw[Qa];rfl
 have Qj:(nth p.aa.nodes a.toNat).l.length=1:=by rw[Qa];rfl
 rw[show nth (aJ p a).l 0=x from Qc];have hx:=E5 h R hd x hb.1 jB Q7;have P':=uQ R p x;generalize R.call p x=Z at*;have O':(nth p.aa.nodes a.toNat).kind=13:=hk;refine aO func37 ntmps37 ?_;generalize hB:ids (R.e 39 [] [] [])=B;generalize hE:(Z.1).e 39 [] [] []=E;refine S ?_
 (have W:=jA O' (jA Qc (Qj));repeat' (first|refine aq fun K hK=>?_|refine am ?_|(with_reducible refine gR 7 ?_);refine dE 7 (au 0 8) mixed ?_|(with_reducible refine gR 13 ?_);refine dL 13 [] [10] (au 0 13) mixed ?_|(with_reducible refine gR 19 ?_);refine dL 19 [] [10] (au 0 13) mixed ?_|(with_reducible refine gR 26 ?_);refine dQ 26 mixed ?_|(refine hK _ _ ?_;clear hK K)|(refine ao ?_ ?_<;>intro hc<;>try exact jz)|refine bz 4 ?_|refine bf 5 ?_|(refine cE (R:=R) (R':=Z.1) (pre:=[]) (post:=[]) (pre':=[]) (post':=[]) hx rfl P'.1 P'.2 rfl rfl aM rfl jD ?_;refine S ?_)|refine ap ?_|exact jI|(clear hK K)))
 subst hE;exact c7 (R':=Z.1) (pre':=[]) (post':=[]) rfl hB [.tmp 8] aM rfl rfl rfl
def Nk(h:bY p)(R:RS)(hd:bo p R)(inp:PY)(hk:(aJ p (aW p R.st)).kind=12) :
  af prog 37 [.agg (bp p),.pt 0 0 0 0,rI (aW p R.st),ax eI 1 inp] (R.e 39 [] [] []) (fun r l=>r=rI (R.put p (aW p R.st)).2/\l=((R.put p (aW p R.st)).1).e 39 [] [] []):=by
 have hok:=hd.inv.ok;have Qy:=hok.nf;have h1:=hd.one;have Rt:=hd.inv.ak;have Qi:=gX R.heap;have Rv:=hd.cells;have J':=hd.fy h;obtain⟨s0,s1,s2,s3,s4,s5⟩:=hd.stmt h;have QH:=J'.sl;have QN:=hd.gr h;have hx:=Js h R hd hk;have P':=OX R p (aW p R.st);generalize R.put p (aW p R.st)=Z at*;generalize aW p R.st=a at*;have O':(nth p.aa.nodes a.toNat).kind=12:=hk;refine aO func37 ntmps37 ?_;generalize hB:ids (R.e 39 [] [] [])=B;generalize hE:(Z.1).e 39 [] [] []=E;refine S ?_
 (have W:=O';repeat' (first|refine aq fun K hK=>?_|refine am ?_|(with_reducible refine gR 7 ?_);refine dE 7 (au 0 8) mixed ?_|(with_reducible refine gR 13 ?_);refine dL 13 [] [10] (au 0 13) mixed ?_|(with_reducible refine gR 19 ?_);refine dL 19 [] [10] (au 0 13) mixed ?_|(with_reducible refine gR 26 ?_);refine dQ 26 mixed ?_|(refine hK _ _ ?_;clear hK K)|(refine ao ?_ ?_<;>intro hc<;>try exact jz)|refine bz 4 ?_|refine bf 5 ?_|(refine cE (R:=R) (R':=Z.1) (pre:=[]) (post:=[]) (pre':=[]) (post':=[]) hx rfl P'.1 P'.2 rfl rfl aM rfl jD ?_;refine S ?_)|refine ap ?_|exact jI|(clear hK K)))
 subst hE;exact c7 (R':=Z.1) (pre':=[]) (post':=[]) rfl hB [.tmp 8] aM rfl rfl rfl
end Go.Proofs.YtghoellpinmenaaGreatDoor