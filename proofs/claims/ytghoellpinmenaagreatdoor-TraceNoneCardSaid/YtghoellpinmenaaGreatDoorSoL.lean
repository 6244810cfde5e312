/- Lemmas. No conditions. -/
import Derived.Test.YtghoellpinmenaaGreatDoorSo9
set_option linter.all false
set_option maxHeartbeats 4000000
set_option maxRecDepth 10000
namespace Go.Gd
open Go
def RS.rows(R:RS):PV:=
 (1,.aG 87 3 (dh R.ak.length R.fr))::(2,.aG 22 1 (dh R.heap.length fun k=>[.rs (bj 2 k) (nth R.heap k).length 1 (nth R.heap k).length]))::(3,.aG 9 1 (R.aS.map eS)) ::
  bE 0 R.ak.length R.sl (bE 1 R.ak.length R.pt (bE 2 R.heap.length R.hp []))
variable{n:Nat}{W:List (Nat×Nat)}{F:PW}{B:PZ}{l:PV}
def xR{S:Type}{ok:S->Prop}{J:S->List (Nat×AV)}{G:S->Hp}{μ:S->Nat}{F₀:PW}(l':PV)(D:P5)(s:S)(h1:ok s)(h2:μ s<n)(RE:∀i,aB l i=aB l' i)(hB:B.all (df D)=true)(hl:eL D l')(h4:⟨B,dq D l'⟩=G s)(h3:bc D ⟨B,l'⟩ F (jL (J s) (lm W F₀))):Next n W ok J G μ F₀ F ⟨B,l⟩:=
 ⟨s,h2,(cY.perm l' RE).trans (by rw[<-h4];exact cY.free D hB hl h3),h1⟩
theorem FC(D:P5)(a:Nat)(f:P7)(l:PV):∀(n k:Nat),(∀j,k<=j->j<k+n->nq (df D) (f j))->eL D l->eL D (fi a f k n l)
 |0,k,_,h=>h
 |n+1,k,hf,h=>⟨.inr (hf k jl jB),FC D a f l n (k+1) (fun j h1 h2=>hf j jB jB) h⟩
def oG{D:P5}{a:Nat}{f:P7}(hf:∀j,j<n->nq (df D) (f j))(h:eL D l):eL D (bE a n f l):=FC D a f l n 0 (fun j _ h2=>hf j jB) h
theorem DG(D:P5)(a:Nat)(f:P7)(l:PV)(hD:∀k,D (bj a k)=false):∀(n k:Nat),dq D (fi a f k n l)=fi a f k n (dq D l)
 |0,k=>rfl
 |n+1,k=>by show(bif D (bj a k)then _ else(bj a k,f k)::dq D (fi a f (k+1) n l))=_;rw[hD k,DG D a f l hD n (k+1)];rfl
def oD{D:P5}{a:Nat}{f:P7}(hD:∀k,D (bj a k)=false):dq D (bE a n f l)=bE a n f (dq D l):=DG D a f l hD n 0
def lc{L:PZ}(h:L.all (fun i=>decide (i<1000))=true)(a k:Nat):L.contains (bj a k)=false:=by
 cases e:L.contains (bj a k)with
 |false=>rfl
 |true=> have:=List.all_eq_true.1 h _ (List.contains_iff_mem.1 e);simp only[decide_eq_true_eq]at this;have:=gW a k;omega
variable{P:P6}{l0 l':PV}
def GX{fn:Func}{out:PW}{e:Exit}{r:AV}(RE:∀i,aB l0 i=aB l' i)(rs:List ResultVar)(hv:fZ out=r)(hl:eL dn l')(hq:(fZ out).all (df dn)=true)(h2:dq dn l'=l)(RB:fn.results.toList=rs:=by rfl)(he:e=.normal\/e=.ret:=by first|exact Or.inr rfl|exact Or.inl rfl|fail)
  (ho:fP P ⟨[],l0⟩ F rs=some out:=by first|(simp(disch:=first|omega|fail) only[go_sem,↓reduceIte,Nat.reduceEqDiff,Nat.reduceLeDiff,Nat.reduceSub,Nat.reduceAdd];rfl)|rfl) (hok:gx P ⟨[],l0⟩ F rs:=by first|exact jI|(simp(disch:=first|omega|fail) only[go_sem,↓reduceIte,Nat.reduceEqDiff,Nat.reduceLeDiff,Nat.reduceSub,Nat.reduceAdd])):hU P fn (fun r' l'=>r'=r/\l'=l) e F ⟨[],l0⟩:=by
 subst RB;refine rk he ho hok r ⟨[],l⟩ ((Bi l' RE).trans ?_) ⟨rfl,rfl⟩;have:=hJ.free (H:=⟨[],l'⟩) dn rfl hl (p5 hv hq);rw[h2]at this;exact this
variable{H:Hp}{t:P1}
def OC{A:AS}(i:Nat){e:P1}{sz:Nat}{x:AV}{c:Prop}{ys:PU}{zs:P4}{f:PT}{d:fz fun r H'=>c8 A H H'/\f r H'}{q:Prop}(k:q)(ht:gk P t=some e:=by(simp only[go_sem];rfl))(hs:cW P e=some sz:=by(simp only[go_sem];done))(hz:dU P e=some zs:=by(simp only[go_sem];rfl))(SR:zs.length=sz:=by rfl)(h0:0<sz:=by decide)
  (hx:o9 H x=some (c,ys):=by rfl) (hc:c:=by trivial) (hg:gh sz ys:=by(simp(disch:=first|omega|assumption|fail) only[go_sem];done)) (hr:room (im P e) ys.length:=by(simp only[go_sem];omega)) (hi:H.get i=none:=by first|rfl|(simp(disch:=first|omega|assumption|fail) only[go_sem,↓reduceIte,Nat.reduceEqDiff,Nat.reduceAdd];done))
  (e:f (.rs i ys.length sz ys.length) (H.put i (.aG e sz ys))=q:=by(simp(disch:=first|omega|assumption|fail) only[go_sem,qc,↓reduceIte,Int.reduceToNat,Nat.reduceMul,Nat.reduceAdd,Nat.reduceLeDiff,Nat.reduceSub,Nat.reduceEqDiff,Nat.reduceBEq];rfl)):pn P t t (.sl true sz [] []) x H (AP (fun r H'=>c8 A H H'/\f r H') d):=M6 (b:=true) (d:=d) i k ht hs hz SR h0 hx hc hg hr hi e
def wI(D:P5)(R:RS)(k:Nat):nq (df D) (R.sl k):=iW (enc:=bk) (sz:=3) _
def wx(D:P5)(R:RS)(k:Nat):nq (df D) (R.pt k):=iW (enc:=ej) (sz:=2) _
def Ga(D:P5)(R:RS)(k:Nat):nq (df D) (R.hp k):=iW (enc:=eI) (sz:=1) _
def RS.cI(R:RS)(tl:PV):PV:=
 (1,.aG 87 3 (dh R.ak.length R.fr))::(2,.aG 22 1 (dh R.heap.length fun k=>[.rs (bj 2 k) (nth R.heap k).length 1 (nth R.heap k).length]))::(3,.aG 9 1 (R.aS.map eS)) ::
  bE 0 R.ak.length R.sl (bE 1 R.ak.length R.pt (bE 2 R.heap.length R.hp tl))
def RS.jy(R:RS):R.cI []=R.rows:=rfl
variable{R:RS}{tl:PV}
def RS.nI{pre post:PW}:R.e t pre post tl=(0,.var t (pre++R.c++post))::R.cI tl:=rfl
def RS.cF(R:RS)(tl:PV):R.cI tl=R.rows++tl:=by rw[<-RS.jy];unfold RS.cI;rw[show tl=[]++tl from rfl,pQ,pQ,pQ];rfl
def RS.ei(i:Nat)(h:i=0\/4<=i)(h':i<1000):aB R.rows i=none:=by rw[<-RS.jy];unfold RS.cI;simp only[aB];rw[jN,jN,jN,pj _ _ _ _ _ h',pj _ _ _ _ _ h',pj _ _ _ _ _ h'];rfl
@[go_sem] def RS.jW(R:RS)(tl:PV)(i:Nat)(h:i=0\/4<=i)(h':i<1000):aB (R.cI tl) i=aB tl i:=by rw[RS.cF,jc,RS.ei i h h'];rfl
@[go_sem] def RS.rowsT_put(R:RS)(tl:PV)(i:Nat)(r:Row)(h:i=0\/4<=i)(h':i<1000):eD (R.cI tl) i r=R.cI (eD tl i r):=by unfold RS.cI;simp only[eD];rw[jN,jN,jN,Bs _ _ _ _ _ _ h',Bs _ _ _ _ _ _ h',Bs _ _ _ _ _ _ h']
theorem An:∀(l:PV),eL (fun _=>true) l
 |[]=>trivial
 |_::l=>⟨.inl rfl,An l⟩
theorem AL:∀(l:PV),dq (fun _=>true) l=[]
 |[]=>rfl
 |x::l=>AL l
variable{f:FuncId}{r0:AV}
def aA.Gj{args:PW}{r1:AV}(hc:af P f args [] fun r l=>r=r0/\l=l0)(hv:db (fun _=>true) ⟨[],l0⟩ r0 r1):aA P f args r1:=fun w vs h1 h2=>by refine(hc w vs h1 h2).mono ?_;rintro e W ⟨v,r,⟨B,l⟩,w',rfl,e1,⟨rfl,rfl⟩,g1,g2,g3⟩;have hB:B=[]:=g3.base;subst hB;obtain⟨w2,k1,k2,k3,k4⟩:=hJ.free (fun _=>true) rfl (An _) hv w' v g1 g2;refine⟨v,r1,_,w2,k1.symm,e1,⟨rfl,AL _⟩,k2,k3,g3.trans k4⟩
def RS.e9(R:RS):(ids R.rows).Nodup:=by have:=RS.nodup (t:=0) (pre:=[]) (post:=[]) (R:=R);exact(List.nodup_cons.1 this).2
def RS.e_perm{pre post:PW}{c:PW}(hc:c=pre++R.c++post)(h0:aB tl 0=none)(i:Nat):aB (R.cI (tl++[(0,.var t c)])) i=aB (R.e t pre post tl) i:=by subst hc;rw[RS.nI,RS.cF,<-List.append_assoc,<-RS.cF];exact B9 (by rw[RS.jW _ _ _ (.inl rfl) jB,h0]) i
variable{K:PT}
def cR{args:PW}(hc:af P f args [] fun r l=>r=r0/\l=R.rows)(hH:H=⟨[],tl⟩)(hl:low tl)(h2:aU cV args=true)(h0:aQ P f=true)(k:K r0 ⟨[],R.cI tl⟩):dp P (.raw (.func (.func f) #[] #[])) args H K:=by
 subst hH;refine ko h0 fun w vs h1 h3=>?_
 have Qe:∀i r,aB R.rows i=some r->aB tl i=none:=fun i r hi=>by
  cases e:aB tl i with
  |none=>rfl
  |some x=> have:=hl i x e;rw[RS.ei i (.inr this.1) this.2]at hi;cases hi
 refine(vt (H:=⟨[],tl⟩) (K:=fun r H'=>r=r0/\∃l',H'=⟨[],l'⟩/\∀i,aB l' i=aB (R.cI tl) i) hc (fun i r hi=>by cases hi) (by simpa[ids]using h2) (fun i r hi=>by cases hi) (fun r l' ⟨e1,e2⟩=>⟨fun i s hs=>?_,by rw[e2];exact R.e9,e1,_,rfl,fun i=>?_⟩) h1 h3).mono ?_
 ·subst e2;exact .inr (Qe i s hs)
 ·subst e2;rw[qY _ _ _ (fun _ _ _=>trivial) R.e9,RS.cF,jc]
 ·rintro e W ⟨v,r,H',w',rfl,rfl,⟨rfl,l',rfl,Rb⟩,g1,g2,g3⟩;exact⟨v,_,⟨[],R.cI tl⟩,w',rfl,rfl,k,wF Rb g1,g2,{ g3 with base:=rfl }⟩
def FZ{args:PW}(h:∀i,aB l i=aB l' i)(k:cw P f args ⟨B,l'⟩ K):cw P f args ⟨B,l⟩ K:=fun w vs h1 h2=>by refine(k w vs (wF h h1) h2).mono ?_;rintro e W ⟨v,r,H',w',e0,e1,k,g1,g2,g3⟩;exact⟨v,r,H',w',e0,e1,k,g1,g2,{ g3.toExtQ with base:=g3.base }⟩
def RS.kc{pre post:PW}{tl':PV}{c:PW}(h0:aB tl 0=some (.var t c))(hc:c=pre++R.c++post)(h:∀i,i≠0->aB tl i=aB tl' i)(i:Nat):aB (R.cI tl) i=aB (R.e t pre post tl') i:=by
 subst hc;by_cases e:i=0
 ·subst e;rw[RS.jW _ _ _ (.inl rfl) jB,h0,RS.lS]
 ·rw[RS.nI];show _=if i=0 then _ else _
  rw[if_neg e,RS.cF,RS.cF,jc,jc,h i e]
def rc{args:PW}{pre post pre' post':PW}{R':RS}(hc:af P f args (R.e t pre post []) fun r l'=>r=r0/\l'=R'.e t pre' post' [])(hH:H=⟨B,l⟩)(RE:∀i,aB l i=aB (R.e t pre post tl) i)
  (h1:R.ak.length<=R'.ak.length) (h2:R.heap.length<=R'.heap.length) (hp:aU cV pre=true) (hq:aU cV post=true) (hl:low tl) (ha:aU (fun i=>decide (i=0)) args=true) (h0:aQ P f=true) (k:K r0 ⟨B,R'.e t pre' post' tl⟩):dp P (.raw (.func (.func f) #[] #[])) args H K:=by
 subst hH;refine ko h0 (FZ RE (tJ (E:=fun tl=>R.e t pre post tl) (E':=fun tl=>R'.e t pre' post' tl) hc (RS.iJ hl) (RS.iJ hl) RS.nodup (iN (fun i hi=>?_) _ ha) (RS.closed hp hq) k (RS.size h1 h2)));have:i=0:=of_decide_eq_true hi;subst this;exact mo RS.lS
def RS.u0(h:R.Ok):db (fun _=>true) ⟨[],R.rows⟩ (.agg R.c) (.agg (bv R.st)):=by
 have Qy:=h.nf;have g:∀{i:Nat} {r:Row},aB (R.e 0 [] [] []) i=some r->i≠0->(Hp.mk [] R.rows).get i=some r:=fun{i r} e h=>by have e:(if i=0 then _ else aB R.rows i)=some r:=e;rw[if_neg h]at e;exact e
 have gf:∀{a k:Nat} {r:Row},aB (R.e 0 [] [] []) (bj a k)=some r->(Hp.mk [] R.rows).get (bj a k)=some r:=fun{a k r} e=>g e (by have:=gW a k;omega)
 refine bc.agg (ds:=bv R.st) ⟨?_,?_,.same _ rfl,?_,.same _ rfl,.same _ rfl,.same _ rfl,jI⟩
 ·refine .uv _ 1 3 _ _ 87 _ _ rfl (g RS.mT jC) (by simp[go_sem]) Qy (by show(List.map _ (R.ak.take R.nf)).length=_;simp;omega) (fun ds RX=>?_) (iW (enc:=fa) (sz:=3) _) fun k j c d hk h1 h2=>?_
  ·obtain⟨x,_,rfl⟩:=List.mem_map.1 RX;rfl
  ·rw[vF _ _ _ jB]at h1;have O':k<(R.ak.take R.nf).length:=by simp;omega
   have e2:(List.map fa (R.ak.take R.nf)).getD k []=fa (nth R.ak k):=by rw[tH _ _ _ O',gD O',gD jB];simp
   have h2:((List.map fa (R.ak.take R.nf)).getD k [])[j]?=some d:=h2;rw[e2]at h2;unfold RS.fr at h1;match j with
   |0=>cases h1;cases h2;exact .same _ rfl
   |1=>cases h1;cases h2;exact .row _ rfl (gf (RS.nG jB)) rfl
   |2=>cases h1;cases h2;exact .lF _ _ rfl (gf (RS.qU jB)) rfl rfl
   |j+3=>simp at h1
 ·refine .rs _ 2 1 _ 22 _ _ rfl (g RS.lH jC) (by simp[go_sem]) (by simp[go_sem];rfl) (fun ds RX=>?_) (iW (enc:=gu) (sz:=1) _) fun k j c d hk h1 h2=>?_
  ·obtain⟨x,_,rfl⟩:=List.mem_map.1 RX;rfl
  ·have hk:k<R.heap.length:=by simpa[go_sem]using hk
   rw[vF _ _ _ hk]at h1;have h2:((List.map gu R.heap).getD k [])[j]?=some d:=h2;rw[tH _ _ _ hk]at h2;match j with
   |0=>cases h1;cases h2;exact .row _ rfl (gf (RS.o0 hk)) rfl
   |j+1=>simp at h1
 ·exact .row _ rfl (g RS.mz jC) rfl
def oO{fn:Func}{out:PW}{e:Exit}{r:AV}(rs:List ResultVar)(hH:H=⟨[],l⟩)(hv:db (fun _=>true) H (fZ out) r)(RB:fn.results.toList=rs:=by rfl)(he:e=.normal\/e=.ret:=by first|exact Or.inr rfl|exact Or.inl rfl|fail)
  (ho:fP P H F rs=some out:=by first|rfl|(simp(disch:=first|omega|fail) only[go_sem,↓reduceIte,Nat.reduceEqDiff,Nat.reduceLeDiff,Nat.reduceSub,Nat.reduceAdd];rfl)) (hok:gx P H F rs:=by first|exact jI|(simp(disch:=first|omega|fail) only[go_sem,↓reduceIte,Nat.reduceEqDiff,Nat.reduceLeDiff,Nat.reduceSub,Nat.reduceAdd])):hU P fn (fun r' l'=>r'=r/\l'=[]) e F H:=by
 subst RB hH;refine rk he ho hok r ⟨[],[]⟩ ?_ ⟨rfl,rfl⟩;have:=hJ.free (H:=⟨[],l⟩) (fun _=>true) rfl (An _) hv;rw[AL]at this;exact this
def PQ{S:Type}{ok:S->Prop}{J:S->List (Nat×AV)}{G:S->Hp}{μ:S->Nat}{F₀:PW}(l':PV)(s:S)(h1:ok s)(h2:μ s<n)(RE:∀i,aB l i=aB l' i)(h4:⟨B,l'⟩=G s)(h3:gU F (jL (J s) (lm W F₀))):Next n W ok J G μ F₀ F ⟨B,l⟩:=
 ⟨s,h2,(cY.perm l' RE).trans (by rw[<-h4];exact cY.pt _ h3),h1⟩
end Go.Gd
namespace Go.Proofs.YtghoellpinmenaaGreatDoor
open Go Go.Gd Tryz
variable{p:ae}
def Lo(h:bY p)(R:RS)(hd:bo p R)(inp:PY)(hk:(aJ p (aW p R.st)).kind=17)(R':RS)(tr:Int)(u':(R',tr)=R.bF p (aW p R.st) inp) :
  af prog 37 [.agg (bp p),.pt 0 0 0 0,rI (aW p R.st),ax eI 1 inp] (R.e 39 [] [] []) (fun r l=>r=rI tr/\l=R'.e 39 [] [] []):=by
 have hok:=hd.inv.ok;have Qy:=hok.nf;have h1:=hd.one;have Rt:=hd.inv.ak;have Qi:=gX R.heap;have Rv:=hd.cells;have J':=hd.fy h;obtain⟨s0,s1,s2,s3,s4,s5⟩:=hd.stmt h;have QH:=J'.sl;have QN:=hd.gr h;generalize aW p R.st=a at*;have O':(nth p.aa.nodes a.toNat).kind=17:=hk;have RL:∀v,af prog 67 [.agg (bp p),.pt 0 0 0 0,.agg (bk v)] (R.e 39 [] [] []) (fun r l=>r=.bt []/\l=(R.bh p v).e 39 [] [] []):=fun v=>B7 p v R hok h1 jB (hd.inv.at_ h)
 have g':=fun v=>ud R p v
 unfold RS.bF at u';simp only[hk]at u';rw[jN,jN,jN,if_pos trivial]at u';rcases(h.ok.aa.shape a.toNat s1).1.ret O' with Qa|⟨x,Qa,Sz⟩
 ·have Qj:(nth p.aa.nodes a.toNat).l.length=0:=by rw[Qa];rfl
  rw[if_pos (show(aJ p a).l.length=0 from Qj)]at u';obtain⟨rfl,rfl⟩:=Prod.mk.inj u';have ht:=RL v0;have QC:=g' v0;generalize R.bh p v0=Z at*;refine aO func37 ntmps37 ?_;generalize hB:ids (R.e 39 [] [] [])=B;generalize hE:Z.e 39 [] [] []=E;refine S ?_
  (have W:=jA O' Qj;repeat' (first|refine aq fun K hK=>?_|refine am ?_|(with_reducible refine gR 7 ?_);refine dE 7 (au 0 8) mixed ?_|(with_reducible refine gR 13 ?_);refine dL 13 [] [10] (au 0 13) mixed ?_|(with_reducible refine gR 19 ?_);refine dL 19 [] [10] (au 0 13) mixed ?_|(with_reducible refine gR 26 ?_);refine dQ 26 mixed ?_|(refine hK _ _ ?_;clear hK K)|(refine ao ?_ ?_<;>intro hc<;>try exact jz)|refine bz 4 ?_|refine bf 5 ?_|refine bf 6 ?_|refine bf 7 ?_|(refine cE (R:=R) (R':=Z) (pre:=[]) (post:=[]) (pre':=[]) (post':=[]) ht rfl (Nat.le_of_eq QC.1.symm) (Nat.le_of_eq (congrArg List.length QC.2.symm)) rfl rfl aM rfl jD ?_;refine S ?_)|refine ap ?_|exact jI|(clear hK K)))
  subst hE;exact c7 (R':=Z) (pre':=[]) (post':=[]) rfl hB [.tmp 8] aM rfl rfl rfl
 ·have hb:=(h.ok.aa.shape a.toNat s1).2.1 x (by rw[Qa];simp);have Qc:nth (nth p.aa.nodes a.toNat).l 0=x:=by rw[Qa];rfl
  have Qj:(nth p.aa.nodes a.toNat).l.length=1:=by rw[Qa];rfl
  have QB:=oY h R hok h1 jB jB x hb.1 jB Sz;rw[if_neg (fun e=>by rw[show(aJ p a).l.length=1 from Qj]at e;omega),show nth (aJ p a).l 0=x from Qc]at u';generalize R.val p x=X at*;by_cases hz:X.2=0
  ·rw[if_neg (fun e=>e hz)]at u';obtain⟨rfl,rfl⟩:=Prod.mk.inj u';have ht:=RL X.1;have QC:=g' X.1;generalize R.bh p X.1=Z at*;refine aO func37 ntmps37 ?_;generalize hB:ids (R.e 39 [] [] [])=B;generalize hE:Z.e 39 [] [] []=E;refine S ?_
   (have W:=jA O' (jA Qj (Qc));repeat' (first|refine aq fun K hK=>?_|refine am ?_|(with_reducible refine gR 7 ?_);refine dE 7 (au 0 8) mixed ?_|(with_reducible refine gR 13 ?_);refine dL 13 [] [10] (au 0 13) mixed ?_|(with_reducible refine gR 19 ?_);refine dL 19 [] [10] (au 0 13) mixed ?_|(with_reducible refine gR 26 ?_);refine dQ 26 mixed ?_|(refine hK _ _ ?_;clear hK K)|(refine ao ?_ ?_<;>intro hc<;>try exact jz)|refine bz 4 ?_|refine bf 5 ?_|refine bf 6 ?_|refine bf 7 ?_|(refine cE (R:=R) (R':=R) (pre:=[]) (post:=[]) (pre':=[]) (post':=[]) QB rfl jl jl rfl rfl aM rfl jD ?_;refine S ?_)|(refine cE (R:=R) (R':=Z) (pre:=[]) (post:=[]) (pre':=[]) (post':=[]) ht rfl (Nat.le_of_eq QC.1.symm) (Nat.le_of_eq (congrArg List.length QC.2.symm)) rfl rfl aM rfl jD ?_;refine S ?_)|refine ap ?_|exact jI|(clear hK K)))
   subst hE;exact c7 (R':=Z) (pre':=[]) (post':=[]) rfl hB [.tmp 8] aM rfl rfl rfl
  ·rw[if_pos hz]at u';obtain⟨rfl,rfl⟩:=Prod.mk.inj u';suffices key2:∀R2:RS,R2=R'->af prog 37 [.agg (bp p),.pt 0 0 0 0,rI a,ax eI 1 inp] (R'.e 39 [] [] []) (fun r l=>r=rI X.2/\l=R2.e 39 [] [] []) from key2 R' rfl
   intro R2 Q9;refine aO func37 ntmps37 ?_;generalize hB:ids (R'.e 39 [] [] [])=B;generalize hE:R2.e 39 [] [] []=E;refine S ?_
   (have W:=jA O' (jA Qj (Qc));repeat' (first|refine aq fun K hK=>?_|refine am ?_|(with_reducible refine gR 7 ?_);refine dE 7 (au 0 8) mixed ?_|(with_reducible refine gR 13 ?_);refine dL 13 [] [10] (au 0 13) mixed ?_|(with_reducible refine gR 19 ?_);refine dL 19 [] [10] (au 0 13) mixed ?_|(with_reducible refine gR 26 ?_);refine dQ 26 mixed ?_|(refine hK _ _ ?_;clear hK K)|(refine ao ?_ ?_<;>intro hc<;>try exact jz)|refine bz 4 ?_|refine bf 5 ?_|refine bf 6 ?_|refine bf 7 ?_|(refine cE (R:=R') (R':=R') (pre:=[]) (post:=[]) (pre':=[]) (post':=[]) QB rfl jl jl rfl rfl aM rfl jD ?_;refine S ?_)|refine ap ?_|exact jI|(clear hK K)))
   subst hE;subst Q9;exact c7 (R':=R2) (pre':=[]) (post':=[]) rfl hB [.tmp 8] aM rfl rfl rfl
def _root_.Go.Gd.RS.fl(R:RS)(w:P0):RS:={ R with aS:=R.aS++[w] }
def Gt{t:P1}{pre post:PW}{R:RS}{tl:PV}{w:P0}{c0:PW}{o:PU}(hc:c0=pre++(R.fl w).c++post)(ho:o=R.aS.map eS++[[rS w]]) :
  (0,.var t c0)::(1,.aG 87 3 (dh R.ak.length R.fr))::(2,.aG 22 1 (dh R.heap.length fun k=>[.rs (bj 2 k) (nth R.heap k).length 1 (nth R.heap k).length]))::(3,.aG 9 1 o) ::
   bE 0 R.ak.length R.sl (bE 1 R.ak.length R.pt (bE 2 R.heap.length R.hp tl))=(R.fl w).e t pre post tl:=
 RS.mR (R:=R.fl w) hc rfl (fun _ _=>rfl) rfl (fun _ _=>rfl) (by rw[ho];simp[RS.fl];rfl) rfl rfl rfl (fun _ _=>rfl) (fun _ _=>rfl) (fun _ _=>rfl) rfl
def JP(h:bY p)(R:RS)(hd:bo p R)(inp:PY)(hk:(aJ p (aW p R.st)).kind=14)(Sb:∀x:Int,0<=x->x.toNat<p.aa.nodes.length->cr (bJ p.aa.nodes x)->bn (R.val p x).1.n)(R':RS)(tr:Int)(u':(R',tr)=R.bF p (aW p R.st) inp) :
  af prog 37 [.agg (bp p),.pt 0 0 0 0,rI (aW p R.st),ax eI 1 inp] (R.e 39 [] [] []) (fun r l=>r=rI tr/\l=R'.e 39 [] [] []):=by
 have hok:=hd.inv.ok;have Qy:=hok.nf;have h1:=hd.one;have Rt:=hd.inv.ak;have Qi:=gX R.heap;have Rv:=hd.cells;have UR:=hd.outs;have J':=hd.fy h;obtain⟨s0,s1,s2,s3,s4,s5⟩:=hd.stmt h;have QH:=J'.sl;have QN:=hd.gr h;have UD:=hd.iC;have SO:=J'.gV;rw[UD]at SO;have RM:=hd.jp (R.nf-1) jB;generalize aW p R.st=a at*;have O':(nth p.aa.nodes a.toNat).kind=14:=hk;unfold RS.bF at u';simp only[hk]at u';rw[jN,jN,jN,jN]at u';obtain⟨x,Qa,Sz⟩:=(h.ok.aa.shape a.toNat s1).1.one jB;have hb:=(h.ok.aa.shape a.toNat s1).2.1 x (by rw[Qa];simp);have Qc:nth (nth p.aa.nodes a.toNat).l 0=x:=by rw[Qa];rfl
 have Qj:(nth p.aa.nodes a.toNat).l.length=1:=by rw[Qa];rfl
 have QB:=oY h R hok h1 jB jB x hb.1 jB Sz;have V2:=Sb x hb.1 jB Sz;rw[show nth (aJ p a).l 0=x from Qc]at u';generalize R.val p x=X at*;have XW:=LR X.1 V2;by_cases hz:X.2=0
 rotate_left
 ·rw[if_pos hz]at u';obtain⟨rfl,rfl⟩:=Prod.mk.inj u';suffices key2:∀R2:RS,R2=R'->af prog 37 [.agg (bp p),.pt 0 0 0 0,rI a,ax eI 1 inp] (R'.e 39 [] [] []) (fun r l=>r=rI (X.2)/\l=R2.e 39 [] [] []) from key2 R' rfl
  intro R2 Q9;refine aO func37 ntmps37 ?_;generalize hB:ids (R'.e 39 [] [] [])=B;generalize hE:R2.e 39 [] [] []=E;refine S ?_
  (have W:=jA O' (jA Qj (Qc));repeat' (first|refine aq fun K hK=>?_|refine am ?_|(with_reducible refine gR 7 ?_);refine dE 7 (au 0 8) mixed ?_|(with_reducible refine gR 13 ?_);refine dL 13 [] [10] (au 0 13) mixed ?_|(with_reducible refine gR 19 ?_);refine dL 19 [] [10] (au 0 13) mixed ?_|(with_reducible refine gR 26 ?_);refine dC 26 ([],[100],[]) [] (au 0 12) mixed ?_|(refine hK _ _ ?_;clear hK K)|(refine ao ?_ ?_<;>intro hc<;>try exact jz)|refine bz 4 ?_|refine bf 5 ?_|refine bf 6 ?_|refine bf 7 ?_|(refine cE (R:=R') (R':=R') (pre:=[]) (post:=[]) (pre':=[]) (post':=[]) QB rfl jl jl rfl rfl aM rfl jD ?_;refine S ?_)|refine ap ?_|exact jI|(clear hK K)))
  subst hE;subst Q9;exact c7 (R':=R2) (pre':=[]) (post':=[]) rfl hB [.tmp 8] aM rfl rfl rfl
 rw[if_neg (fun e=>e hz),if_pos trivial]at u';by_cases ho:24<=R.aS.length
 ·rw[if_pos ho]at u';obtain⟨rfl,rfl⟩:=Prod.mk.inj u';suffices key2:∀R2:RS,R2=R'->af prog 37 [.agg (bp p),.pt 0 0 0 0,rI a,ax eI 1 inp] (R'.e 39 [] [] []) (fun r l=>r=rI (5)/\l=R2.e 39 [] [] []) from key2 R' rfl
  intro R2 Q9;refine aO func37 ntmps37 ?_;generalize hB:ids (R'.e 39 [] [] [])=B;generalize hE:R2.e 39 [] [] []=E;refine S ?_
  (have W:=jA O' (jA Qj (Qc));repeat' (first|refine aq fun K hK=>?_|refine am ?_|(with_reducible refine gR 7 ?_);refine dE 7 (au 0 8) mixed ?_|(with_reducible refine gR 13 ?_);refine dL 13 [] [10] (au 0 13) mixed ?_|(with_reducible refine gR 19 ?_);refine dL 19 [] [10] (au 0 13) mixed ?_|(with_reducible refine gR 26 ?_);refine dC 26 ([],[100],[]) [] (au 0 12) mixed ?_|(refine hK _ _ ?_;clear hK K)|(refine ao ?_ ?_<;>intro hc<;>try exact jz)|refine bz 4 ?_|refine bf 5 ?_|refine bf 6 ?_|refine bf 7 ?_|(refine cE (R:=R') (R':=R') (pre:=[]) (post:=[]) (pre':=[]) (post':=[]) QB rfl jl jl rfl rfl aM rfl jD ?_;refine S ?_)|refine ap ?_|exact jI|(clear hK K)))
  subst hE;subst Q9;exact c7 (R':=R2) (pre':=[]) (post':=[]) rfl hB [.tmp 8] aM rfl rfl rfl
 rw[if_neg ho]at u';obtain⟨rfl,rfl⟩:=Prod.mk.inj u';have S9:=rF (R.fl (kn X.1)) (sj QN rfl rfl rfl);show af _ _ _ _ (fun r l=>r=rI 0/\l=(R.fl (kn X.1)).on.e 39 [] [] []);refine aO func37 ntmps37 ?_;generalize hB:ids (R.e 39 [] [] [])=B;generalize hE:((R.fl (kn X.1)).on).e 39 [] [] []=E;refine S ?_
 (have W:=jA O' (jA Qj (Qc));repeat' (first|refine aq fun K hK=>?_|refine am ?_|(with_reducible refine gR 7 ?_);refine dE 7 (au 0 8) mixed ?_|(with_reducible refine gR 13 ?_);refine dL 13 [] [10] (au 0 13) mixed ?_|(with_reducible refine gR 19 ?_);refine dL 19 [] [10] (au 0 13) mixed ?_|(with_reducible refine gR 26 ?_);refine dC 26 ([],[100],[]) [] (au 0 12) mixed ?_|(refine hK _ _ ?_;clear hK K)|(refine ao ?_ ?_<;>intro hc<;>try exact jz)|refine bz 4 ?_|refine bf 5 ?_|refine bf 6 ?_|refine bf 7 ?_|(refine cE (R:=R) (R':=R) (pre:=[]) (post:=[]) (pre':=[]) (post':=[]) QB rfl jl jl rfl rfl aM rfl jD ?_;refine S ?_)|refine cq (XW) ?_|(refine cE (R:=R.fl (kn X.1)) (R':=(R.fl (kn X.1)).on) (pre:=[]) (post:=[]) (pre':=[]) (post':=[]) S9 (congrArg (Hp.mk B) (Gt (by simp[RS.c,RS.fl]) rfl)) (Nat.le_of_eq RS.aT) jl rfl rfl aM rfl jD ?_;refine S ?_)|refine ap ?_|exact jI|(clear hK K)))
 subst hE;exact c7 (R':=(R.fl (kn X.1)).on) (pre':=[]) (post':=[]) rfl hB [.tmp 8] aM rfl rfl rfl
def NS(h:bY p)(R:RS)(hd:bo p R)(inp:PY)(hk:(aJ p (aW p R.st)).kind=16)(R':RS)(tr:Int)(u':(R',tr)=R.bF p (aW p R.st) inp) :
  af prog 37 [.agg (bp p),.pt 0 0 0 0,rI (aW p R.st),ax eI 1 inp] (R.e 39 [] [] []) (fun r l=>r=rI tr/\l=R'.e 39 [] [] []):=by
 have hok:=hd.inv.ok;have Qy:=hok.nf;have h1:=hd.one;have Rt:=hd.inv.ak;have Qi:=gX R.heap;have Rv:=hd.cells;have UR:=hd.outs;have J':=hd.fy h;obtain⟨s0,s1,s2,s3,s4,s5⟩:=hd.stmt h;have QH:=J'.sl;have QN:=hd.gr h;have UD:=hd.iC;have SO:=J'.gV;rw[UD]at SO;have RM:=hd.jp (R.nf-1) jB;generalize aW p R.st=a at*;have O':(nth p.aa.nodes a.toNat).kind=16:=hk;unfold RS.bF at u';simp only[hk]at u';rw[jN,jN,jN,jN]at u';obtain⟨x,y,Qa,Sz,XX⟩:=(h.ok.aa.shape a.toNat s1).1.dH O';have hb:=(h.ok.aa.shape a.toNat s1).2.1 x (by rw[Qa];simp);have Qc:nth (nth p.aa.nodes a.toNat).l 0=x:=by rw[Qa];rfl
 have Rg:nth (nth p.aa.nodes a.toNat).l 1=y:=by rw[Qa];rfl
 have Qj:(nth p.aa.nodes a.toNat).l.length=2:=by rw[Qa];rfl
 have QB:=oY h R hok h1 jB jB x hb.1 jB Sz;rw[show nth (aJ p a).l 0=x from Qc,show nth (aJ p a).l 1=y from Rg]at u';generalize R.val p x=X at*;by_cases hz:X.2=0
 rotate_left
 ·rw[if_pos hz]at u';obtain⟨rfl,rfl⟩:=Prod.mk.inj u';suffices key2:∀R2:RS,R2=R'->af prog 37 [.agg (bp p),.pt 0 0 0 0,rI a,ax eI 1 inp] (R'.e 39 [] [] []) (fun r l=>r=rI (X.2)/\l=R2.e 39 [] [] []) from key2 R' rfl
  intro R2 Q9;refine aO func37 ntmps37 ?_;generalize hB:ids (R'.e 39 [] [] [])=B;generalize hE:R2.e 39 [] [] []=E;refine S ?_
  (have W:=jA O' (jA Qj (Qc));repeat' (first|refine aq fun K hK=>?_|refine am ?_|(with_reducible refine gR 7 ?_);refine dE 7 (au 0 8) mixed ?_|(with_reducible refine gR 13 ?_);refine dL 13 [] [10] (au 0 13) mixed ?_|(with_reducible refine gR 19 ?_);refine dL 19 [] [10] (au 0 13) mixed ?_|(with_reducible refine gR 26 ?_);refine dC 26 ([],[100],[]) [] (au 0 12) mixed ?_|(refine hK _ _ ?_;clear hK K)|(refine ao ?_ ?_<;>intro hc<;>try exact jz)|refine bz 4 ?_|refine bf 5 ?_|refine bf 6 ?_|refine bf 7 ?_|(refine cE (R:=R') (R':=R') (pre:=[]) (post:=[]) (pre':=[]) (post':=[]) QB rfl jl jl rfl rfl aM rfl jD ?_;refine S ?_)|refine ap ?_|exact jI|(clear hK K)))
  subst hE;subst Q9;exact c7 (R':=R2) (pre':=[]) (post':=[]) rfl hB [.tmp 8] aM rfl rfl rfl
 rw[if_neg (fun e=>e hz),jN,jN,if_pos trivial]at u';by_cases Rw:X.1.n=1
 ·rw[if_pos Rw]at u';obtain⟨rfl,rfl⟩:=Prod.mk.inj u';have VQ:=Dj R y hok h1 jB RM SO;refine aO func37 ntmps37 ?_;generalize hB:ids (R.e 39 [] [] [])=B;generalize hE:(R.aZ y).e 39 [] [] []=E;refine S ?_
  (have W:=jA O' (jA Qj (jA Qc (Rg)));repeat' (first|refine aq fun K hK=>?_|refine am ?_|(with_reducible refine gR 7 ?_);refine dE 7 (au 0 8) mixed ?_|(with_reducible refine gR 13 ?_);refine dL 13 [] [10] (au 0 13) mixed ?_|(with_reducible refine gR 19 ?_);refine dL 19 [] [10] (au 0 13) mixed ?_|(with_reducible refine gR 26 ?_);refine dC 26 ([],[100],[]) [] (au 0 12) mixed ?_|(refine hK _ _ ?_;clear hK K)|(refine ao ?_ ?_<;>intro hc<;>try exact jz)|refine bz 4 ?_|refine bf 5 ?_|refine bf 6 ?_|refine bf 7 ?_|(refine cE (R:=R) (R':=R) (pre:=[]) (post:=[]) (pre':=[]) (post':=[]) QB rfl jl jl rfl rfl aM rfl jD ?_;refine S ?_)|(refine cE (R:=R) (R':=(R).aZ y) (pre:=[]) (post:=[]) (pre':=[]) (post':=[]) VQ rfl (Nat.le_of_eq RS.aT) jl rfl rfl aM rfl jD ?_;refine S ?_)|refine ap ?_|exact jI|(clear hK K)))
  subst hE;exact c7 (R':=R.aZ y) (pre':=[]) (post':=[]) rfl hB [.tmp 8] aM rfl rfl rfl
 ·rw[if_neg Rw]at u';obtain⟨rfl,rfl⟩:=Prod.mk.inj u';have S9:=rF R QN;refine aO func37 ntmps37 ?_;generalize hB:ids (R.e 39 [] [] [])=B;generalize hE:(R.on).e 39 [] [] []=E;refine S ?_
  (have W:=jA O' (jA Qj (jA Qc (Rg)));repeat' (first|refine aq fun K hK=>?_|refine am ?_|(with_reducible refine gR 7 ?_);refine dE 7 (au 0 8) mixed ?_|(with_reducible refine gR 13 ?_);refine dL 13 [] [10] (au 0 13) mixed ?_|(with_reducible refine gR 19 ?_);refine dL 19 [] [10] (au 0 13) mixed ?_|(with_reducible refine gR 26 ?_);refine dC 26 ([],[100],[]) [] (au 0 12) mixed ?_|(refine hK _ _ ?_;clear hK K)|(refine ao ?_ ?_<;>intro hc<;>try exact jz)|refine bz 4 ?_|refine bf 5 ?_|refine bf 6 ?_|refine bf 7 ?_|(refine cE (R:=R) (R':=R) (pre:=[]) (post:=[]) (pre':=[]) (post':=[]) QB rfl jl jl rfl rfl aM rfl jD ?_;refine S ?_)|(refine cE (R:=R) (R':=(R).on) (pre:=[]) (post:=[]) (pre':=[]) (post':=[]) S9 rfl (Nat.le_of_eq RS.aT) jl rfl rfl aM rfl jD ?_;refine S ?_)|refine ap ?_|exact jI|(clear hK K)))
  subst hE;exact c7 (R':=R.on) (pre':=[]) (post':=[]) rfl hB [.tmp 8] aM rfl rfl rfl
def Ir(h:bY p)(R:RS)(hd:bo p R)(inp:PY)(hk:(aJ p (aW p R.st)).kind=15)(R':RS)(tr:Int)(u':(R',tr)=R.bF p (aW p R.st) inp) :
  af prog 37 [.agg (bp p),.pt 0 0 0 0,rI (aW p R.st),ax eI 1 inp] (R.e 39 [] [] []) (fun r l=>r=rI tr/\l=R'.e 39 [] [] []):=by
 have hok:=hd.inv.ok;have Qy:=hok.nf;have h1:=hd.one;have Rt:=hd.inv.ak;have Qi:=gX R.heap;have Rv:=hd.cells;have J':=hd.fy h;obtain⟨s0,s1,s2,s3,s4,s5⟩:=hd.stmt h;have QH:=J'.sl;have QN:=hd.gr h;have UD:=hd.iC;have SO:=J'.gV;rw[UD]at SO;have RM:=hd.jp (R.nf-1) jB;generalize aW p R.st=a at*;have O':(nth p.aa.nodes a.toNat).kind=15:=hk;unfold RS.bF at u';simp only[hk]at u';rw[jN,jN,jN,jN]at u';obtain⟨x,y,Sz,XX,Qr⟩:=(h.ok.aa.shape a.toNat s1).1.jM O';have Qc:nth (nth p.aa.nodes a.toNat).l 0=x:=by rcases Qr with e|⟨d,e,_⟩<;>(rw[e];rfl)
 have Rg:nth (nth p.aa.nodes a.toNat).l 1=y:=by rcases Qr with e|⟨d,e,_⟩<;>(rw[e];rfl)
 have XY:2<=(nth p.aa.nodes a.toNat).l.length:=by rcases Qr with e|⟨d,e,_⟩<;>(rw[e];simp)
 have hb:=(h.ok.aa.shape a.toNat s1).2.1 x (by rcases Qr with e|⟨d,e,_⟩<;>(rw[e];simp));have QB:=oY h R hok h1 jB jB x hb.1 jB Sz;rw[show nth (aJ p a).l 0=x from Qc,show nth (aJ p a).l 1=y from Rg]at u';generalize R.val p x=X at*;have S9:=rF R QN;have VQ:∀b,af prog 70 [.pt 0 0 0 0,rI b] (R.on.e 39 [] [] []) (fun r l=>r=.bt []/\l=(R.on.aZ b).e 39 [] [] []):=fun b=>by have g':R.on.ak.length=R.ak.length:=RS.aT.symm;have QJ:R.on.aF=nN R.aF:=RS.gq hok h1 _;refine Dj R.on b ⟨by show R.nf<=R.on.ak.length;omega,by show R.jp.length=R.on.ak.length;rw[g'];exact hok.jp⟩ h1 jB RM ?_;rw[QJ];show(R.aF.path.set _ _).length<=1000;rw[List.length_set];exact SO
 by_cases hz:X.2=0
 rotate_left
 ·rw[if_pos hz]at u';obtain⟨rfl,rfl⟩:=Prod.mk.inj u';suffices key2:∀R2:RS,R2=R'->af prog 37 [.agg (bp p),.pt 0 0 0 0,rI a,ax eI 1 inp] (R'.e 39 [] [] []) (fun r l=>r=rI (X.2)/\l=R2.e 39 [] [] []) from key2 R' rfl
  intro R2 Q9;refine aO func37 ntmps37 ?_;generalize hB:ids (R'.e 39 [] [] [])=B;generalize hE:R2.e 39 [] [] []=E;refine S ?_
  (have W:=jA O' Qc;repeat' (first|refine aq fun K hK=>?_|refine am ?_|(with_reducible refine gR 7 ?_);refine dE 7 (au 0 8) mixed ?_|(with_reducible refine gR 13 ?_);refine dL 13 [] [10] (au 0 13) mixed ?_|(with_reducible refine gR 19 ?_);refine dL 19 [] [10] (au 0 13) mixed ?_|(with_reducible refine gR 26 ?_);refine dQ 26 mixed ?_|(refine hK _ _ ?_;clear hK K)|(refine ao ?_ ?_<;>intro hc<;>try exact jz)|refine bz 4 ?_|refine bf 5 ?_|refine bf 6 ?_|refine bf 7 ?_|(refine cE (R:=R') (R':=R') (pre:=[]) (post:=[]) (pre':=[]) (post':=[]) QB rfl jl jl rfl rfl aM rfl jD ?_;refine S ?_)|refine ap ?_|exact jI|(clear hK K)))
  subst hE;subst Q9;exact c7 (R':=R2) (pre':=[]) (post':=[]) rfl hB [.tmp 8] aM rfl rfl rfl
 rw[if_neg (fun e=>e hz),jN,if_pos trivial]at u';by_cases Rw:X.1.n=1
 ·rw[if_pos Rw]at u';obtain⟨rfl,rfl⟩:=Prod.mk.inj u';have Zr:=VQ y;refine aO func37 ntmps37 ?_;generalize hB:ids (R.e 39 [] [] [])=B;generalize hE:(R.on.aZ y).e 39 [] [] []=E;refine S ?_
  (have W:=jA O' (jA Qc (Rg));repeat' (first|refine aq fun K hK=>?_|refine am ?_|(with_reducible refine gR 7 ?_);refine dE 7 (au 0 8) mixed ?_|(with_reducible refine gR 13 ?_);refine dL 13 [] [10] (au 0 13) mixed ?_|(with_reducible refine gR 19 ?_);refine dL 19 [] [10] (au 0 13) mixed ?_|(with_reducible refine gR 26 ?_);refine dQ 26 mixed ?_|(refine hK _ _ ?_;clear hK K)|(refine ao ?_ ?_<;>intro hc<;>try exact jz)|refine bz 4 ?_|refine bf 5 ?_|refine bf 6 ?_|refine bf 7 ?_|(refine cE (R:=R) (R':=R) (pre:=[]) (post:=[]) (pre':=[]) (post':=[]) QB rfl jl jl rfl rfl aM rfl jD ?_;refine S ?_)|(refine cE (R:=R) (R':=(R).on) (pre:=[]) (post:=[]) (pre':=[]) (post':=[]) S9 rfl (Nat.le_of_eq RS.aT) jl rfl rfl aM rfl jD ?_;refine S ?_)|(refine cE (R:=R.on) (R':=R.on.aZ y) (pre:=[]) (post:=[]) (pre':=[]) (post':=[]) Zr rfl (Nat.le_of_eq RS.aT) jl rfl rfl aM rfl jD ?_;refine S ?_)|refine ap ?_|exact jI|(clear hK K)))
  subst hE;exact c7 (R':=R.on.aZ y) (pre':=[]) (post':=[]) rfl hB [.tmp 8] aM rfl rfl rfl
 rw[if_neg Rw]at u';rcases Qr with e|⟨d,e,hdB⟩
 ·have Qj:(nth p.aa.nodes a.toNat).l.length=2:=by rw[e];rfl
  rw[if_neg (fun e=>by rw[show(aJ p a).l.length=2 from Qj]at e;omega)]at u';obtain⟨rfl,rfl⟩:=Prod.mk.inj u';refine aO func37 ntmps37 ?_;generalize hB:ids (R.e 39 [] [] [])=B;generalize hE:(R.on).e 39 [] [] []=E;refine S ?_
  (have W:=jA O' (jA Qc (Qj));repeat' (first|refine aq fun K hK=>?_|refine am ?_|(with_reducible refine gR 7 ?_);refine dE 7 (au 0 8) mixed ?_|(with_reducible refine gR 13 ?_);refine dL 13 [] [10] (au 0 13) mixed ?_|(with_reducible refine gR 19 ?_);refine dL 19 [] [10] (au 0 13) mixed ?_|(with_reducible refine gR 26 ?_);refine dQ 26 mixed ?_|(refine hK _ _ ?_;clear hK K)|(refine ao ?_ ?_<;>intro hc<;>try exact jz)|refine bz 4 ?_|refine bf 5 ?_|refine bf 6 ?_|refine bf 7 ?_|(refine cE (R:=R) (R':=R) (pre:=[]) (post:=[]) (pre':=[]) (post':=[]) QB rfl jl jl rfl rfl aM rfl jD ?_;refine S ?_)|(refine cE (R:=R) (R':=(R).on) (pre:=[]) (post:=[]) (pre':=[]) (post':=[]) S9 rfl (Nat.le_of_eq RS.aT) jl rfl rfl aM rfl jD ?_;refine S ?_)|refine ap ?_|exact jI|(clear hK K)))
  subst hE;exact c7 (R':=R.on) (pre':=[]) (post':=[]) rfl hB [.tmp 8] aM rfl rfl rfl
 ·have Qj:(nth p.aa.nodes a.toNat).l.length=3:=by rw[e];rfl
  have YG:nth (nth p.aa.nodes a.toNat).l 2=d:=by rw[e];rfl
  rw[if_pos (by rw[show(aJ p a).l.length=3 from Qj]),show nth (aJ p a).l 2=d from YG]at u';obtain⟨rfl,rfl⟩:=Prod.mk.inj u';have Xv:=VQ d;refine aO func37 ntmps37 ?_;generalize hB:ids (R.e 39 [] [] [])=B;generalize hE:(R.on.aZ d).e 39 [] [] []=E;refine S ?_
  (have W:=jA O' (jA Qc (jA Qj (YG)));repeat' (first|refine aq fun K hK=>?_|refine am ?_|(with_reducible refine gR 7 ?_);refine dE 7 (au 0 8) mixed ?_|(with_reducible refine gR 13 ?_);refine dL 13 [] [10] (au 0 13) mixed ?_|(with_reducible refine gR 19 ?_);refine dL 19 [] [10] (au 0 13) mixed ?_|(with_reducible refine gR 26 ?_);refine dQ 26 mixed ?_|(refine hK _ _ ?_;clear hK K)|(refine ao ?_ ?_<;>intro hc<;>try exact jz)|refine bz 4 ?_|refine bf 5 ?_|refine bf 6 ?_|refine bf 7 ?_|(refine cE (R:=R) (R':=R) (pre:=[]) (post:=[]) (pre':=[]) (post':=[]) QB rfl jl jl rfl rfl aM rfl jD ?_;refine S ?_)|(refine cE (R:=R) (R':=(R).on) (pre:=[]) (post:=[]) (pre':=[]) (post':=[]) S9 rfl (Nat.le_of_eq RS.aT) jl rfl rfl aM rfl jD ?_;refine S ?_)|(refine cE (R:=R.on) (R':=R.on.aZ d) (pre:=[]) (post:=[]) (pre':=[]) (post':=[]) Xv rfl (Nat.le_of_eq RS.aT) jl rfl rfl aM rfl jD ?_;refine S ?_)|refine ap ?_|exact jI|(clear hK K)))
  subst hE;exact c7 (R':=R.on.aZ d) (pre':=[]) (post':=[]) rfl hB [.tmp 8] aM rfl rfl rfl
def KU(h:bY p)(R:RS)(hd:bo p R)(inp:PY)(hn:inp.length<=1000)(hw:¬ik p R.st (aW p R.st) inp)(Sb:∀x:Int,0<=x->x.toNat<p.aa.nodes.length->cr (bJ p.aa.nodes x)->bn (R.val p x).1.n) :
  af prog 37 [.agg (bp p),.pt 0 0 0 0,rI (aW p R.st),ax eI 1 inp] (R.e 39 [] [] []) (fun r l=>r=rI (R.bF p (aW p R.st) inp).2/\l=(R.bF p (aW p R.st) inp).1.e 39 [] [] []):=by
 obtain⟨s0,s1,s2,_⟩:=hd.stmt h;have s2:10<=(aJ p (aW p R.st)).kind/\(aJ p (aW p R.st)).kind<=17:=s2;by_cases k1:(aJ p (aW p R.st)).kind=10\/(aJ p (aW p R.st)).kind=11
 ·have:=JO h R hd inp hn k1 hw;rw[show R.bF p (aW p R.st) inp=R.right p (aW p R.st) inp by unfold RS.bF;simp only;rw[if_pos k1]];exact this
 by_cases k2:(aJ p (aW p R.st)).kind=13
 ·have:=My h R hd inp k2;rw[show R.bF p (aW p R.st) inp=R.call p (nth (aJ p (aW p R.st)).l 0) by unfold RS.bF;simp only;rw[if_neg k1,if_pos k2]];exact this
 by_cases k3:(aJ p (aW p R.st)).kind=12
 ·have:=Nk h R hd inp k3;rw[show R.bF p (aW p R.st) inp=R.put p (aW p R.st) by unfold RS.bF;simp only;rw[if_neg k1,if_neg k2,if_pos k3]];exact this
 by_cases k4:(aJ p (aW p R.st)).kind=17
 ·exact Lo h R hd inp k4 _ _ rfl
 by_cases k5:(aJ p (aW p R.st)).kind=14
 ·exact JP h R hd inp k5 Sb _ _ rfl
 by_cases k6:(aJ p (aW p R.st)).kind=15
 ·exact Ir h R hd inp k6 _ _ rfl
 ·exact NS h R hd inp jB _ _ rfl
def PG(s:aw)(h1:s.ah.length<=1000)(h2:s.heap.length<=1000)(h3:s.aS.length<=1000)(h4:∀k,k<s.ah.length->(nth s.ah k).ab.length<=1000/\(nth s.ah k).path.length<=1000)(h5:∀k,k<s.heap.length->(nth s.heap k).length<=1000) :
  af prog 36 [.agg (bv s)] [] (fun r l=>r=.agg (RS.of s).c/\l=(RS.of s).rows):=by
 generalize hR:RS.of s=R;refine aO func36 ntmps36 ?_
 (repeat' (first|refine aq fun K hK=>?_|refine am ?_|(with_reducible refine gR 15 ?_);refine dC 15 ([],[],[58,59]) [] (au 0 13) mixed ?_|(refine hK _ _ ?_;clear hK K)|(refine ao ?_ ?_<;>intro hc<;>try exact jz)|refine bz 4 ?_|refine bf 5 ?_|refine bf 6 ?_|refine lb 3 ?_|refine ap ?_|exact jI|(clear hK K)))
 refine gj (cY.fL 1 6 0 87 3 rfl jC rfl rfl) ?_;refine gj (cY.fL 2 6 1 22 1 rfl jC rfl rfl) ?_
 (refine S ?_;try exact jI)
 have M':=hK;clear hK;refine de (S:=Nat) [(4,2),(15,28)] (fun k=>k<=s.ah.length) (fun k=>[(4,rI k)])
  (fun k=>⟨[],(4,.var 39 (bv s))::(5,.var 39 [.raw (.slice none 0 0),.raw (.slice none 0 0),rI 0,.raw (.slice none 0 0),rI 0,rI 0,rI 0])::(6,.var 39 [.rs 1 k 3 k,.rs 2 0 1 0,rI s.in_,.rs 3 s.aS.length 1 s.aS.length,rI s.status,rI s.bL,rI s.time])::(3,.aG 9 1 (s.aS.map eS))::(1,.aG 87 3 (dh k R.fr))::(2,.aG 22 1 [])::bE 0 k R.sl (bE 1 k R.pt [])⟩)
  (fun k=>s.ah.length-k) 0 jB (dc ?_ bK) ?_
 ·rfl
 rintro k hk Kr P9;by_cases Rc:k<s.ah.length
 ·obtain⟨g1,g2⟩:=h4 k Rc;have Rt:fa (nth s.ah k)=[rI (nth s.ah k).fn,ax bk 3 (nth s.ah k).ab,ax ej 2 (nth s.ah k).path]:=rfl;refine S ?_
  (have W:=Rt;repeat' (first|refine aq fun K hK=>?_|refine am ?_|(with_reducible refine gR 15 ?_);refine dC 15 ([],[],[58,59]) [] (au 0 13) mixed ?_|(refine hK _ _ ?_;clear hK K)|(refine ao ?_ ?_<;>intro hc<;>try exact jz)|refine bf 7 ?_|refine lb (bj 0 k) ?_|refine lb (bj 1 k) ?_|refine lb 8 ?_|refine ap ?_|exact jI|(clear hK K)))
  have XZ:∀j,j<k+1->(if j=k then[rI (nth s.ah k).fn,.rs (bj 0 k) (nth s.ah k).ab.length 3 (nth s.ah k).ab.length,.rs (bj 1 k) (nth s.ah k).path.length 2 (nth s.ah k).path.length]else R.fr j)=R.fr j:=fun j hj=>by
   split
   ·rename_i e;subst e;subst hR;unfold RS.fr;rw[show nth (RS.of s).jp j=[] from vA _ _ _ Rc];rfl
   ·rfl
  have W5:=gW 0 k;have QA:=gW 1 k;have Q8:bj 1 k≠bj 0 k:=fun e=>by have:=(nz jB jB e).1;omega
  refine P9 _ _ (xR ((4,.var 39 (bv s))::(5,.var 39 [.raw (.slice none 0 0),.raw (.slice none 0 0),rI 0,.raw (.slice none 0 0),rI 0,rI 0,rI 0])::(6,.var 39 [.rs 1 (k+1) 3 (k+1),.rs 2 0 1 0,rI s.in_,.rs 3 s.aS.length 1 s.aS.length,rI s.status,rI s.bL,rI s.time])::(3,.aG 9 1 (s.aS.map eS))::(1,.aG 87 3 (dh (k+1) R.fr))::(2,.aG 22 1 []) ::
   bE 0 (k+1) R.sl (bE 1 (k+1) R.pt [(7,.var 87 [rI (nth s.ah k).fn,.rs (bj 0 k) (nth s.ah k).ab.length 3 (nth s.ah k).ab.length,.rs (bj 1 k) (nth s.ah k).path.length 2 (nth s.ah k).path.length]),(8,.aG 87 3 [[rI (nth s.ah k).fn,.rs (bj 0 k) (nth s.ah k).ab.length 3 (nth s.ah k).ab.length,.rs (bj 1 k) (nth s.ah k).path.length 2 (nth s.ah k).path.length]])]))
   (fun i=>[7,8].contains i) (k+1) jB (by show s.ah.length-(k+1)<s.ah.length-k;omega) (jn _ _ (jn _ _ (jn _ _ (jn _ _ (nb _ ?_ (jn _ _ fun i=>?_)))))) rfl ?_ ?_ ?_)
  ·exact congrArg (Row.aG _ _) (oM rfl XZ)
  ·refine(kj 0 k R.sl (fun i=>kj 1 k R.pt (l':=[_,_]++[(bj 1 k,.aG 89 2 ((nth s.ah k).path.map ej)),(bj 0 k,.aG 50 3 ((nth s.ah k).ab.map bk))]) (fun i=>?_) i) i).trans (zZ (h:=0) (q:=R.hp) R.sl R.pt (fun _ _=>rfl) (fun _ _=>rfl) ?_ ?_ aM i)
   ·simp only[aB,List.cons_append,List.nil_append];repeat' split
    all_goals first
     |rfl
     |omega
   ·subst hR;rfl
   ·subst hR;unfold RS.pt;rw[show nth (RS.of s).jp k=[] from vA _ _ _ Rc,List.append_nil];rfl
  ·refine⟨.inr (qW _ _),.inr rfl,.inr rfl,.inr (iW (enc:=eS) (sz:=1) _),.inr (qj fun j _=>?_),.inr (xo _),oG (fun j _=>wI _ _ _) (oG (fun j _=>wx _ _ _) ⟨.inl rfl,.inl rfl,trivial⟩)⟩;simp only[RS.fr,aU,AV.all,df,lc (L:=[7,8]) rfl];rfl
  ·show Hp.mk [] (_::_::_::_::_::_::dq _ (bE 0 _ _ _))=_;rw[oD (lc rfl 0),oD (lc rfl 1)];rfl
  ·exact gJ
 ·have RT:k=s.ah.length:=jB;subst RT;refine S ?_
  (repeat' (first|refine aq fun K hK=>?_|refine am ?_|(with_reducible refine gR 15 ?_);refine dC 15 ([],[],[58,59]) [] (au 0 13) mixed ?_|(refine hK _ _ ?_;clear hK K)|(refine ao ?_ ?_<;>intro hc<;>try exact jz)|refine M' _ _ ?_|refine ap ?_|exact jI|(clear hK K)))
  have X0:=hK;clear hK;refine de (S:=Nat) [(6,1),(43,19)] (fun j=>j<=s.heap.length) (fun j=>[(6,rI j)])
   (fun j=>⟨[],(4,.var 39 (bv s))::(5,.var 39 [.raw (.slice none 0 0),.raw (.slice none 0 0),rI 0,.raw (.slice none 0 0),rI 0,rI 0,rI 0])::(6,.var 39 [.rs 1 s.ah.length 3 s.ah.length,.rs 2 j 1 j,rI s.in_,.rs 3 s.aS.length 1 s.aS.length,rI s.status,rI s.bL,rI s.time])::(3,.aG 9 1 (s.aS.map eS))::(1,.aG 87 3 (dh s.ah.length R.fr))::(2,.aG 22 1 (dh j fun k=>[.rs (bj 2 k) (nth s.heap k).length 1 (nth s.heap k).length]))::bE 0 s.ah.length R.sl (bE 1 s.ah.length R.pt (bE 2 j R.hp []))⟩)
   (fun j=>s.heap.length-j) 0 jB (dc rfl bK) ?_
  rintro j hj Ks UC;by_cases TF:j<s.heap.length
  ·have g3:=h5 j TF;refine S ?_
   (repeat' (first|refine aq fun K hK=>?_|refine am ?_|(with_reducible refine gR 15 ?_);refine dC 15 ([],[],[58,59]) [] (au 0 13) mixed ?_|(refine hK _ _ ?_;clear hK K)|(refine ao ?_ ?_<;>intro hc<;>try exact jz)|refine OC (bj 2 j) ?_|refine tI 8 ?_|refine ap ?_|exact jI|(clear hK K)))
   have X1:∀i,i<j+1->(if i=j then[AV.rs (bj 2 j) (nth s.heap j).length 1 (nth s.heap j).length]else[AV.rs (bj 2 i) (nth s.heap i).length 1 (nth s.heap i).length])=[AV.rs (bj 2 i) (nth s.heap i).length 1 (nth s.heap i).length]:=fun i hi=>by
    split
    ·rename_i e;subst e;rfl
    ·rfl
   have Q8:=gW 2 j;refine UC _ _ (xR ((4,.var 39 (bv s))::(5,.var 39 [.raw (.slice none 0 0),.raw (.slice none 0 0),rI 0,.raw (.slice none 0 0),rI 0,rI 0,rI 0])::(6,.var 39 [.rs 1 s.ah.length 3 s.ah.length,.rs 2 (j+1) 1 (j+1),rI s.in_,.rs 3 s.aS.length 1 s.aS.length,rI s.status,rI s.bL,rI s.time])::(3,.aG 9 1 (s.aS.map eS))::(1,.aG 87 3 (dh s.ah.length R.fr))::(2,.aG 22 1 (dh (j+1) fun k=>[.rs (bj 2 k) (nth s.heap k).length 1 (nth s.heap k).length])) ::
    bE 0 s.ah.length R.sl (bE 1 s.ah.length R.pt (bE 2 (j+1) R.hp [(8,.aG 22 1 [[.rs (bj 2 j) (nth s.heap j).length 1 (nth s.heap j).length]])])))
    (fun i=>[8].contains i) (j+1) jB (by show s.heap.length-(j+1)<s.heap.length-j;omega) (jn _ _ (jn _ _ (jn _ _ (jn _ _ (jn _ _ (nb _ ?_ fun i=>?_)))))) rfl ?_ ?_ ?_)
   ·exact congrArg (Row.aG _ _) (oM rfl X1)
   ·refine(kj 0 _ R.sl (fun i=>kj 1 _ R.pt (fun i=>kj 2 j R.hp (l':=[_]++[(bj 2 j,.aG 3 1 ((nth s.heap j).map eI))]) (fun i=>?_) i) i) i).trans (zQ R.hp (fun _ _=>rfl) ?_ aM i)
    ·simp only[aB,List.cons_append,List.nil_append];repeat' split
     all_goals first
      |rfl
      |omega
    ·subst hR;unfold RS.hp;rfl
   ·refine⟨.inr (qW _ _),.inr rfl,.inr rfl,.inr (iW (enc:=eS) (sz:=1) _),.inr (qj fun j _=>?_),.inr (qj fun j _=>?_),oG (fun j _=>wI _ _ _) (oG (fun j _=>wx _ _ _) (oG (fun j _=>Ga _ _ _) ⟨.inl rfl,trivial⟩))⟩
    ·simp only[RS.fr,aU,AV.all,df,lc (L:=[8]) rfl];rfl
    ·simp only[aU,AV.all,df,lc (L:=[8]) rfl];rfl
   ·show Hp.mk [] (_::_::_::_::_::_::dq _ (bE 0 _ _ _))=_;rw[oD (lc rfl 0),oD (lc rfl 1),oD (lc rfl 2)];rfl
   ·exact gJ
  ·have Zs:j=s.heap.length:=jB;subst Zs;refine S ?_
   (repeat' (first|refine aq fun K hK=>?_|refine am ?_|(with_reducible refine gR 15 ?_);refine dC 15 ([],[],[58,59]) [] (au 0 13) mixed ?_|(refine hK _ _ ?_;clear hK K)|(refine ao ?_ ?_<;>intro hc<;>try exact jz)|(refine X0 _ _ ?_)|refine ap ?_|exact jI|(clear hK K)))
   refine GX (l':=R.cI [(4,.var 39 (bv s)),(5,.var 39 R.c),(6,.var 39 R.c)]) (fun i=>?_) [.cell 2 39] ?_ ?_ ?_ ?_
   ·subst hR;rw[RS.cF,jc];by_cases i4:i=4
    ·subst i4;rw[RS.ei 4 jB jB];rfl
    by_cases i5:i=5
    ·subst i5;rw[RS.ei 5 jB jB];rfl
    by_cases i6:i=6
    ·subst i6;rw[RS.ei 6 jB jB];rfl
    rw[show aB [(4,Row.var 39 (bv s)),(5,.var 39 (RS.of s).c),(6,.var 39 (RS.of s).c)] i=none by simp only[aB,if_neg i4,if_neg i5,if_neg i6],Option.or_none];unfold RS.rows;simp only[aB,if_neg i4,if_neg i5,if_neg i6];by_cases i1:i=1
    ·subst i1;rfl
    by_cases i2:i=2
    ·subst i2;rfl
    by_cases i3:i=3
    ·subst i3;rfl
    simp only[if_neg i1,if_neg i2,if_neg i3];rfl
   ·subst hR;rfl
   ·exact(RS.free (t:=0) (pre:=[]) (post:=[]) (R:=R) (t':=0) (pre':=[]) (post':=[]) (R':=R) rfl aM rfl rfl).2.1.2
   ·rfl
   ·have:=(RS.free (t:=0) (pre:=[]) (post:=[]) (R:=R) (t':=0) (pre':=[]) (post':=[]) (R':=R) (tl:=[(4,.var 39 (bv s)),(5,.var 39 R.c),(6,.var 39 R.c)]) rfl aM rfl rfl).2.2;exact(List.cons.inj this).2
def so{α:Type}[Inhabited α]{a b:List α}(hl:a.length=b.length)(h:∀j,j<a.length->nth a j=nth b j):a=b:=by apply List.ext_getElem hl;intro i h1 h2;have:=h i h1;rwa [gD h1,gD h2]at this
def Hr(a b:PY)(ha:a.length<=1000000000):aA prog 33 [ax eI 1 a,ax eI 1 b] (rB (decide (a=b))):=by
 refine bI func33 ntmps33 ?_
 (repeat' (first|refine aq fun K hK=>?_|refine am ?_|(with_reducible refine gR 6 ?_);refine dE 6 (au 0 9) mixed ?_|(refine hK _ _ ?_;clear hK K)|(refine ao ?_ ?_<;>intro hc<;>try exact jz)|refine ap ?_|exact jI|(clear hK K)))
 ·(refine aY [.tmp 4] ?_;try simp only[go_sem])
  rw[show decide (a=b)=false from decide_eq_false fun h=>hc (by rw[h])]
 have hl:a.length=b.length:=jB;have M':=hK;clear hK;refine de (S:=Nat) [(4,2),(11,15)] (fun k=>k<=a.length/\∀j,j<k->nth a j=nth b j) (fun k=>[(5,rI k)]) (fun k=>⟨[],[]⟩) (fun k=>a.length-k) 0 ⟨jB,fun j h=>jB⟩ (dc jD bK) ?_;rintro k ⟨Qt,Qf⟩ Kr P9;refine S ?_
 (repeat' (first|refine aq fun K hK=>?_|refine am ?_|(with_reducible refine gR 6 ?_);refine dE 6 (au 0 9) mixed ?_|(refine hK _ _ ?_;clear hK K)|(refine ao ?_ ?_<;>intro hc<;>try exact jz)|refine M' _ _ ?_|refine ap ?_|exact jI|(clear hK K)))
 ·(refine aY [.tmp 4] ?_;try simp only[go_sem])
  rw[show decide (a=b)=false from decide_eq_false fun h=>hc (by rw[h])]
 ·refine P9 _ _ (dI (k+1) ⟨jB,fun j hj=>?_⟩ jJ jD bK);by_cases h:j<k
  ·exact Qf j h
  ·rw[show j=k from jB];exact hc
 ·(refine aY [.tmp 4] ?_;try simp only[go_sem])
  rw[show decide (a=b)=true from decide_eq_true (so hl fun j hj=>Qf j jB)]
def K4(s:P0){a b:Int}(ha:bn a):bn (oU s a b).1.n:=by
 unfold oU
 (repeat' split)<;>first|exact Ft _|exact mg|exact yl _|exact Pp ha
def Nh(s:P0){a b:ai}(ha:bn a.n):bn (jw s a b).1.n:=by
 unfold jw
 (repeat' split)<;>first|exact K4 _ ha|exact mg|exact yl _
def KV{h:PX}(hr:Ac h)(v:ai)(k:Nat)(hk:k<(fq h v).length):bn (nth (fq h v) k):=by
 unfold fq at hk ⊢;split at hk
 ·simp at hk
 ·rename_i e;rw[if_neg e];exact hr _ (dZ jB) _ (dZ hk)
def mF{c:Prop}[Decidable c]{x y:ai×Int}(h:c->bn x.1.n)(k:¬c->bn y.1.n):bn (if c then x else y).1.n:=by
 by_cases e:c
 ·rw[if_pos e];exact h e
 ·rw[if_neg e];exact k e
theorem G4{p:ae}(h:iY p){ab:List ai}{heap:PX}(h1:mZ ab)(h2:Ac heap)(h3:∀l∈heap,l.length<=1000000):∀(n:Nat) (a:Int),0<=a->a.toNat<p.aa.nodes.length->a.toNat<n->cr (bJ p.aa.nodes a)->bn (da p ab heap n a).1.n
 |0,a,_,_,hn,_=>by omega
 |n+1,a,h0,hl,hn,hk=>by
  have sh:=h.aa.shape a.toNat hl;have hk:1<=(nth p.aa.nodes a.toNat).kind/\(nth p.aa.nodes a.toNat).kind<=9:=hk;have g':∀v:ai,((fq heap v).length:Int)<=1000000:=fun v=>by
   unfold fq;split
   ·simp
   ·have:=h3 _ (dZ (l:=heap) (k:=(v.n-1).toNat) jB);omega
  have hX:(∃x y,(nth p.aa.nodes a.toNat).l=[x,y]/\cr (bJ p.aa.nodes x))\/(∃x,(nth p.aa.nodes a.toNat).l=[x]/\cr (bJ p.aa.nodes x))\/(nth p.aa.nodes a.toNat).kind<=4:=by
   by_cases e:(nth p.aa.nodes a.toNat).kind=9
   ·obtain⟨x,y,g1,g2,_⟩:=sh.1.two (.inl e);exact .inl ⟨x,y,g1,g2⟩
   ·by_cases e4:(nth p.aa.nodes a.toNat).kind<=4
    ·exact .inr (.inr e4)
    ·obtain⟨x,g1,g2⟩:=sh.1.one jB;exact .inr (.inl ⟨x,g1,g2⟩)
  have Zt:4<(nth p.aa.nodes a.toNat).kind->bn (da p ab heap n (nth (nth p.aa.nodes a.toNat).l 0)).1.n/\(da p ab heap n (nth (nth p.aa.nodes a.toNat).l 0)).1.s.size<=40:=fun hk4=>by
   have:∃x,nth (nth p.aa.nodes a.toNat).l 0=x/\x∈(nth p.aa.nodes a.toNat).l/\cr (bJ p.aa.nodes x):=by
    rcases hX with⟨x,y,g1,g2⟩|⟨x,g1,g2⟩|g
    ·exact⟨x,by rw[g1];rfl,by rw[g1];simp,g2⟩
    ·exact⟨x,by rw[g1];rfl,by rw[g1];simp,g2⟩
    ·omega
   obtain⟨x,g1,g2,g3⟩:=this;rw[g1];have hb:=sh.2.1 x g2;exact⟨G4 h h1 h2 h3 n x hb.1 jB jB g3,(qA h ab heap n x hb.1 jB jB g3).size⟩
  unfold da;dsimp only;generalize da p ab heap n (nth (nth p.aa.nodes a.toNat).l 0)=X at*;generalize da p ab heap n (nth (nth p.aa.nodes a.toNat).l 1)=Y at*;refine mF (fun e=>h.bn _ hl e) fun e1=>mF (fun _=>yl _) fun e2=>mF (fun _=>mg) fun e3=>mF (fun _=>L4 h1 _ _) fun e4=>?_
  obtain⟨x1,x2⟩:=Zt jB;refine mF (fun _=>mg) fun e5=>mF (fun _=>mF (fun _=>mg) fun e=>KV h2 _ _ jB) fun e6=>mF (fun _=>mF (fun _=>x1) fun _=>mF (fun _=>mg) fun _=>Nh _ x1) fun e7=>mF (fun _=>mF (fun _=>?_) fun _=>?_) fun e8=>mF (fun _=>C6 _ _) fun _=>C6 _ _
  ·show Go.Gd.bn (_:Int);unfold vI Go.Gd.bn;simp only;omega
  ·have:=g' X.1;show Go.Gd.bn (_:Int);unfold vI Go.Gd.bn;simp only;omega
structure bN(R:RS):Prop where
 sl:∀f∈R.ak,mZ f.ab
 hp:Ac R.heap
def lL(s:aw):Prop:=bN (RS.of s)
theorem bN.dY{R:RS}(h:bN R)(k:Nat){f:aP}(hf:mZ f.ab):bN (R.dY k f):=⟨fun g hg=>by
 rcases qT hg with rfl|hg
 ·exact hf
 ·exact h.sl g hg,h.hp⟩
def bN.at_{R:RS}(h:bN R)(k:Nat):mZ (nth R.ak k).ab:=by
 rcases zy R.ak k with e|e
 ·exact h.sl _ e
 ·rw[e];intro v hv;cases hv
theorem bN.on{R:RS}(h:bN R):bN R.on:=h.dY _ (h.at_ _)
theorem bN.br{R:RS}(h:bN R)(p:ae)(a:Int){v:ai}(hv:bn v.n):bN (R.br p a v):=h.dY _ (Ds (h.at_ _) _ hv)
theorem bN.store{R:RS}(h:bN R)(p:ae)(a:Int){v:ai}(hv:bn v.n):bN (R.store p a v):=(h.br p a hv).on
theorem bN.bh{R:RS}(h:bN R)(p:ae){v:ai}(hv:bn v.n):bN (R.bh p v):=by
 have hp:bN R.pop:=⟨h.sl,h.hp⟩;unfold RS.bh;split
 ·exact⟨h.sl,h.hp⟩
 split
 ·exact(hp.br p _ hv).on
 ·exact hp.on
theorem bN.cut{R:RS}(h:bN R):bN R.cut:=⟨fun g hg=>by
 rcases qT hg with rfl|hg
 ·exact h.at_ _
 ·exact h.sl g hg,h.hp⟩
theorem bN.settle{p:ae}:∀(n:Nat) {R:RS},bN R->bN (io p n R)
 |0,R,h=>h
 |n+1,R,h=>by
  unfold io;split
  ·exact h
  split
  ·exact bN.settle n (h.bh p mg)
  split
  ·exact h
  ·exact bN.settle n h.cut
theorem bN.push{R:RS}(h:bN R){f:aP}(hf:mZ f.ab):bN (R.push f):=⟨fun g hg=>by
 have hg:g∈R.ak++[f]:=hg;rcases List.mem_append.1 hg with hg|hg
 ·exact h.sl g hg
 ·rw[List.mem_singleton]at hg;subst hg;exact hf,h.hp⟩
theorem bN.aZ{R:RS}(h:bN R)(b:Int):bN (R.aZ b):=h.dY _ (h.at_ _)
theorem Ed{p:ae}(R:RS):∀(l:PY) (a:List ai),(∀x∈l,bn (R.val p x).1.n)->mZ a->mZ (R.args p l a).1
 |[],a,_,h=>by unfold RS.args;exact h
 |x::l,a,hl,h=>by
  unfold RS.args;split
  ·exact h
  ·refine Ed R l _ (fun y hy=>hl y (by simp[hy])) fun v hv=>?_
   rcases List.mem_append.1 hv with hv|hv
   ·exact h v hv
   ·rw[List.mem_singleton]at hv;subst hv;exact hl x jE
def DT(p:ae)(fn:Int){a:List ai}(h:mZ a):mZ (fk p fn a).ab:=fun v hv=>by
 have hv:v∈a++List.replicate _ v0:=hv;rcases List.mem_append.1 hv with hv|hv
 ·exact h v hv
 ·rw[(List.mem_replicate.1 hv).2];exact mg
theorem bN.val{p:ae}(hs:bY p){R:RS}(h:bN R)(hc:fj R.heap<=40){x:Int}(h0:0<=x)(hl:x.toNat<p.aa.nodes.length)(hE:cr (bJ p.aa.nodes x)):bn (R.val p x).1.n:=
 G4 hs.ok (h.at_ _) h.hp (fun l hm=>by obtain⟨k,hk,rfl⟩:=List.getElem_of_mem hm;have:=sZ R.heap k hk;rw[gD hk]at this;omega) _ x h0 hl jB hE
theorem bN.call{p:ae}(hs:bY p){R:RS}(h:bN R)(hc:fj R.heap<=40){a:Int}(hl:a.toNat<p.aa.nodes.length)(hk:(aJ p a).kind=21):bN (R.call p a).1:=by
 have sh:=hs.ok.aa.shape a.toNat hl;unfold RS.call;simp only;split
 ·exact h
 split
 ·exact h
 ·refine h.push (DT p _ (Ed R _ _ (fun x hx=>?_) fun v hv=>by cases hv));have:=sh.2.1 x hx;exact h.val hs hc this.1 jB (sh.1.call hk x hx)
theorem bN.bF{p:ae}(hs:bY p){R:RS}(h:bN R)(hc:fj R.heap<=40){node:Int}(h0:0<=node)(hl:node.toNat<p.aa.nodes.length){inp:PY}(hi:∀x∈inp,bn x):bN (R.bF p node inp).1:=by
 have sh:=hs.ok.aa.shape node.toNat hl;have aC:∀x∈(aJ p node).l,0<=x/\x.toNat<p.aa.nodes.length:=fun x hx=>by have:=sh.2.1 x hx;omega
 have hv:∀x∈(aJ p node).l,cr (bJ p.aa.nodes x)->bn (R.val p x).1.n:=fun x hx hE=>h.val hs hc (aC x hx).1 (aC x hx).2 hE
 unfold RS.bF;simp only;split
 ·rename_i e;obtain⟨a,ha,hr⟩:=sh.1.right e;have Qa:(aJ p node).l=[a]:=ha;have Rx:=aC a (by rw[Qa];simp);have hx:nth (aJ p node).l 0=a:=by rw[Qa];rfl
  unfold RS.right;simp only[hx];split
  ·rename_i e1;exact h.call hs hc Rx.2 e1
  split
  ·refine bN.store (R:={ R with in_:=R.in_+1 }) ⟨h.sl,h.hp⟩ p node ?_;show bn (nth inp _);rcases zy inp R.in_.toNat with e|e
   ·exact hi _ e
   ·rw[e];exact mg
  split
  ·unfold RS.fresh;simp only;have hf:∀(n:Nat),bN { R with heap:=R.heap++[List.replicate n 0] }:=fun n=>⟨h.sl,fun l hm=>by
    have hm:l∈R.heap++[List.replicate n 0]:=hm;rcases List.mem_append.1 hm with hm|hm
    ·exact h.hp l hm
    ·rw[List.mem_singleton]at hm;subst hm;intro x hx;rw[(List.mem_replicate.1 hx).2];exact mg⟩
   have g':=gX R.heap;have key:∀r:RS×ai×Int,bN r.1->bn r.2.1.n->bN (if r.2.2=0 then(r.1.store p node r.2.1,(0:Int))else(r.1,r.2.2)).1:=fun r g1 g2=>by
    split
    ·exact g1.store p node g2
    ·exact g1
   refine key _ ?_ ?_
   ·(repeat' split)<;>first|exact h|exact hf _
   ·(repeat' split)<;>first|exact mg|(show bn (_:Int);unfold bn;simp only;omega)
  rename_i e1 e2 e3;split
  ·refine h.store p node (hv a (by rw[Qa];simp) ?_);have e1:bJ p.aa.nodes a≠21:=e1;have e2:bJ p.aa.nodes a≠19:=e2;have e3:bJ p.aa.nodes a≠20:=e3;rcases hr with hr|hr|hr|hr
   ·exact hr
   ·exact(e2 hr).elim
   ·exact(e3 hr).elim
   ·exact(e1 hr).elim
  ·exact h
 split
 ·rename_i e1;obtain⟨a,ha,hr⟩:=sh.1.oN e1;have Qa:(aJ p node).l=[a]:=ha;have Rx:=aC a (by rw[Qa];simp);have hx:nth (aJ p node).l 0=a:=by rw[Qa];rfl
  rw[hx];exact h.call hs hc Rx.2 hr
 split
 ·rename_i e2;obtain⟨x,y,VO,hx,hy⟩:=sh.1.two (.inr e2);have VO:(aJ p node).l=[x,y]:=VO;unfold RS.put;simp only;split
  ·exact h
  split
  ·exact h
  split
  ·exact h
  ·refine bN.on ⟨h.sl,fun l hm=>?_⟩;rcases qT hm with rfl|hm
   ·intro z hz;rcases qT hz with rfl|hz
    ·rw[show nth (aJ p node).l 1=y by rw[VO];rfl];exact hv y (by rw[VO];simp) hy
    ·rcases zy R.heap (((gA R.aF.ab (nth p.ab node.toNat) 4).n)-1).toNat with e|e
     ·exact h.hp _ e z hz
     ·rw[e]at hz;cases hz
   ·exact h.hp l hm
 split
 ·rename_i e3;split
  ·exact h.bh p mg
  rename_i e4;split
  ·exact h
  ·rcases sh.1.ret e3 with RD|⟨a,RD,hE⟩
   ·exact(e4 (by unfold aJ;rw[RD];rfl)).elim
   ·have RD:(aJ p node).l=[a]:=RD;rw[show nth (aJ p node).l 0=a by rw[RD];rfl];exact h.bh p (hv a (by rw[RD];simp) hE)
 split
 ·exact h
 split
 ·split
  ·exact h
  ·exact bN.on ⟨h.sl,h.hp⟩
 split
 ·split
  ·exact h.on.aZ _
  split
  ·exact h.on.aZ _
  ·exact h.on
 split
 ·split
  ·exact h.aZ _
  ·exact h.on
 ·exact h
theorem bN.st{R:RS}(h:bN R):lL R.st:=⟨fun f hf=>h.sl f (List.mem_of_mem_take hf),h.hp⟩
theorem lL.with{s:aw}(h:lL s)(c t n:Int):lL { s with status:=c,bL:=t,time:=n }:=⟨h.sl,h.hp⟩
variable{s:aw}{inp:PY}
def LN(hs:bY p)(hI:bC p s)(h:lL s)(hi:∀x∈inp,bn x):lL (dO p s inp):=by
 unfold dO;split
 ·exact h
 rename_i h0;split
 ·exact⟨h.sl,h.hp⟩
 simp only;split
 ·exact⟨h.sl,h.hp⟩
 ·have h2:¬(s.status=2\/s.status=3):=fun hh=>h0 (by unfold bq;rw[if_pos hh];decide)
  have hd:=hI.eF (fun hh=>h2 (.inl hh)) 0 jC;obtain⟨s0,s1,_⟩:=hd.stmt hs;have QF:aW p (RS.of { s with status:=0 }).st=bq p s:=by rw[RS.dt];unfold bq;rw[if_neg h2];rfl
  rw[QF]at s0 s1;have hr:bN (RS.of { s with status:=0 }):=⟨h.sl,h.hp⟩;have:=hr.bF hs hI.cells s0 s1 hi;exact(bN.settle _ (R:={ ((RS.of { s with status:=0 }).bF p (bq p s) inp).1 with time:=s.time+1 }) ⟨this.sl,this.hp⟩).st
structure Fits(s:aw):Prop where
 ak:s.ah.length<=8
 heap:s.heap.length<=40
 out:s.aS.length<=24
 fr:∀k,k<s.ah.length->(nth s.ah k).ab.length<=24/\(nth s.ah k).path.length<=300
 hp:∀k,k<s.heap.length->(nth s.heap k).length<=40
def qO(a b:aw)(hf:Fits a):aA prog 14 [.agg (bv a),.agg (bv b)] (rB (decide (a=b))):=by
 have h1:=hf.ak;have h2:=hf.heap;have h3:=hf.out;have no:∀{q:Prop},¬q->(a=b->q)->rB false=rB (decide (a=b)):=fun h1 h2=>by rw[decide_eq_false fun h=>h1 (h2 h)]
 refine bI func14 ntmps14 ?_
 (repeat' (first|refine aq fun K hK=>?_|refine am ?_|(with_reducible refine gR 6 ?_);refine dE 6 (au 0 11) mixed ?_|(with_reducible refine gR 11 ?_);refine dE 11 (au 0 12) mixed ?_|(with_reducible refine gR 24 ?_);refine dE 24 (au 0 11) mixed ?_|(with_reducible refine gR 29 ?_);refine dE 29 (au 0 11) mixed ?_|(refine hK _ _ ?_;clear hK K)|(refine ao ?_ ?_<;>intro hc<;>try exact jz)|refine ap ?_|exact jI|(clear hK K)))
 ·(refine aY [.tmp 4] ?_;try simp only[go_sem])
  exact(no (fun h=>h) fun e=>by subst e;revert hc;simp)
 have SB:(((((a.in_=b.in_/\a.status=b.status)/\a.bL=b.bL)/\a.time=b.time)/\a.ah.length=b.ah.length)/\a.heap.length=b.heap.length)/\a.aS.length=b.aS.length:=by revert hc;simp only[Classical.not_not,not_or,Int.natCast_inj];exact id
 obtain⟨⟨⟨⟨⟨⟨q1,q2⟩,q3⟩,q4⟩,q5⟩,q6⟩,q7⟩:=SB;clear hc;have M':=hK;clear hK;refine de (S:=Nat) [(4,2),(66,18)] (fun k=>k<=a.aS.length/\∀j,j<k->nth a.aS j=nth b.aS j) (fun k=>[(5,rI k)]) (fun k=>⟨[],[(0,.var 39 (bv a)),(1,.var 39 (bv b))]⟩) (fun k=>a.aS.length-k) 0 ⟨jB,fun j h=>jB⟩ (dc rfl bK) ?_;rintro k ⟨Qt,Qf⟩ Kr P9;by_cases hk:k<a.aS.length
 ·(refine S ?_;try exact jI)
  (repeat' (first|refine aq fun K hK=>?_|refine am ?_|(with_reducible refine gR 6 ?_);refine dE 6 (au 0 11) mixed ?_|(with_reducible refine gR 11 ?_);refine dE 11 (au 0 12) mixed ?_|(with_reducible refine gR 24 ?_);refine dE 24 (au 0 11) mixed ?_|(with_reducible refine gR 29 ?_);refine dE 29 (au 0 11) mixed ?_|(refine hK _ _ ?_;clear hK K)|(refine ao ?_ ?_<;>intro hc<;>try exact jz)|refine M' _ _ ?_|refine ap ?_|exact jI|(clear hK K)))
  ·(refine aY [.tmp 4] ?_;try simp only[go_sem])
   exact no hc (fun e=>by rw[e])
  ·refine P9 _ _ (dI (k+1) ⟨jB,fun j hj=>?_⟩ jJ jD bK);by_cases h:j<k
   ·exact Qf j h
   ·rw[show j=k from jB];exact hc
 have e3:a.aS=b.aS:=so q7 fun j hj=>Qf j jB
 have RT:k=a.aS.length:=jB;subst RT;refine S ?_
 (repeat' (first|refine aq fun K hK=>?_|refine am ?_|(with_reducible refine gR 6 ?_);refine dE 6 (au 0 11) mixed ?_|(with_reducible refine gR 11 ?_);refine dE 11 (au 0 12) mixed ?_|(with_reducible refine gR 24 ?_);refine dE 24 (au 0 11) mixed ?_|(with_reducible refine gR 29 ?_);refine dE 29 (au 0 11) mixed ?_|(refine hK _ _ ?_;clear hK K)|(refine ao ?_ ?_<;>intro hc<;>try exact jz)|refine M' _ _ ?_|refine ap ?_|exact jI|(clear hK K)))
 have M':=hK;clear hK;refine de (S:=Nat) [(4,1),(6,2),(84,20)] (fun k=>k<=a.heap.length/\∀j,j<k->nth a.heap j=nth b.heap j) (fun k=>[(6,rI k)]) (fun k=>⟨[],[(0,.var 39 (bv a)),(1,.var 39 (bv b))]⟩) (fun k=>a.heap.length-k) 0 ⟨jB,fun j h=>jB⟩ (dc rfl bK) ?_;rintro k ⟨Qt,Qf⟩ Kr P9;by_cases hk:k<a.heap.length
 ·have Ra:=Hr (nth a.heap k) (nth b.heap k) (by have:=hf.hp k hk;omega);refine S ?_
  (repeat' (first|refine aq fun K hK=>?_|refine am ?_|(with_reducible refine gR 6 ?_);refine dE 6 (au 0 11) mixed ?_|(with_reducible refine gR 11 ?_);refine dE 11 (au 0 12) mixed ?_|(with_reducible refine gR 24 ?_);refine dE 24 (au 0 11) mixed ?_|(with_reducible refine gR 29 ?_);refine dE 29 (au 0 11) mixed ?_|(refine hK _ _ ?_;clear hK K)|(refine ao ?_ ?_<;>intro hc<;>try exact jz)|refine M' _ _ ?_|refine cp (Ra) ?_|refine ap ?_|exact jI|(clear hK K)))
  ·(refine aY [.tmp 4] ?_;try simp only[go_sem])
   exact no hc (fun e=>by rw[e])
  ·refine P9 _ _ (dI (k+1) ⟨jB,fun j hj=>?_⟩ jJ jD bK);by_cases h:j<k
   ·exact Qf j h
   ·rw[show j=k from jB];exact hc
 have e4:a.heap=b.heap:=so q6 fun j hj=>Qf j jB
 have RT:k=a.heap.length:=jB;subst RT;refine S ?_
 (repeat' (first|refine aq fun K hK=>?_|refine am ?_|(with_reducible refine gR 6 ?_);refine dE 6 (au 0 11) mixed ?_|(with_reducible refine gR 11 ?_);refine dE 11 (au 0 12) mixed ?_|(with_reducible refine gR 24 ?_);refine dE 24 (au 0 11) mixed ?_|(with_reducible refine gR 29 ?_);refine dE 29 (au 0 11) mixed ?_|(refine hK _ _ ?_;clear hK K)|(refine ao ?_ ?_<;>intro hc<;>try exact jz)|refine M' _ _ ?_|refine ap ?_|exact jI|(clear hK K)))
 have M':=hK;clear hK;refine de (S:=Nat) [(4,1),(8,5),(104,76)] (fun k=>k<=a.ah.length/\∀j,j<k->nth a.ah j=nth b.ah j) (fun k=>[(8,rI k)]) (fun k=>⟨[],[(0,.var 39 (bv a)),(1,.var 39 (bv b))]⟩) (fun k=>a.ah.length-k) 0 ⟨jB,fun j h=>jB⟩ (dc rfl bK) ?_;rintro k ⟨Qt,Qf⟩ Kr P9;by_cases hk:k<a.ah.length
 rotate_left
 ·have e5:a.ah=b.ah:=so q5 fun j hj=>Qf j jB
  have RT:k=a.ah.length:=jB;subst RT;refine S ?_
  (repeat' (first|refine aq fun K hK=>?_|refine am ?_|(with_reducible refine gR 6 ?_);refine dE 6 (au 0 11) mixed ?_|(with_reducible refine gR 11 ?_);refine dE 11 (au 0 12) mixed ?_|(with_reducible refine gR 24 ?_);refine dE 24 (au 0 11) mixed ?_|(with_reducible refine gR 29 ?_);refine dE 29 (au 0 11) mixed ?_|(refine hK _ _ ?_;clear hK K)|(refine ao ?_ ?_<;>intro hc<;>try exact jz)|refine M' _ _ ?_|refine ap ?_|exact jI|(clear hK K)))
  (refine aY [.tmp 4] ?_;try simp only[go_sem])
  rw[decide_eq_true];cases a;cases b;simp_all
 obtain⟨g1,g2⟩:=hf.fr k hk;generalize hx:nth a.ah k=x at*;generalize hy:nth b.ah k=y at*;refine S ?_
 (have W:=jA hx hy;repeat' (first|refine aq fun K hK=>?_|refine am ?_|(with_reducible refine gR 6 ?_);refine dE 6 (au 0 11) mixed ?_|(with_reducible refine gR 11 ?_);refine dE 11 (au 0 12) mixed ?_|(with_reducible refine gR 24 ?_);refine dE 24 (au 0 11) mixed ?_|(with_reducible refine gR 29 ?_);refine dE 29 (au 0 11) mixed ?_|(refine hK _ _ ?_;clear hK K)|(refine ao ?_ ?_<;>intro hc<;>try exact jz)|refine M' _ _ ?_|refine al 2 ?_|refine al 3 ?_|refine ap ?_|exact jI|(clear hK K)))
 ·(refine aY [.tmp 4] ?_;try simp only[go_sem])
  exact no (fun h=>h) fun e=>by rw[e,hy]at hx;subst hx;revert hc;simp
 have SB:(x.fn=y.fn/\x.ab.length=y.ab.length)/\x.path.length=y.path.length:=by revert hc;simp only[Classical.not_not,not_or,Int.natCast_inj];exact id
 obtain⟨⟨r1,r2⟩,r3⟩:=SB;clear hc;have TY:=hK;clear hK;refine de (S:=Nat) [(4,1),(11,1),(144,18)] (fun i=>i<=x.ab.length/\∀j,j<i->nth x.ab j=nth y.ab j) (fun i=>[(11,rI i)]) (fun i=>⟨[],[(0,.var 39 (bv a)),(1,.var 39 (bv b)),(2,.var 87 (fa x)),(3,.var 87 (fa y))]⟩) (fun i=>x.ab.length-i) 0 ⟨jB,fun j h=>jB⟩ (dc rfl bK) ?_;rintro i ⟨So,Tb⟩ Ks UC;by_cases hi:i<x.ab.length
 ·(refine S ?_;try exact jI)
  (repeat' (first|refine aq fun K hK=>?_|refine am ?_|(with_reducible refine gR 6 ?_);refine dE 6 (au 0 11) mixed ?_|(with_reducible refine gR 11 ?_);refine dE 11 (au 0 12) mixed ?_|(with_reducible refine gR 24 ?_);refine dE 24 (au 0 11) mixed ?_|(with_reducible refine gR 29 ?_);refine dE 29 (au 0 11) mixed ?_|(refine hK _ _ ?_;clear hK K)|(refine ao ?_ ?_<;>intro hc<;>try exact jz)|refine TY _ _ ?_|refine ap ?_|exact jI|(clear hK K)))
  ·(refine aY [.tmp 4] ?_;try simp only[go_sem])
   exact no hc (fun e=>by rw[<-hx,<-hy,e])
  ·refine UC _ _ (dI (i+1) ⟨jB,fun j hj=>?_⟩ jJ jD bK);by_cases h:j<i
   ·exact Tb j h
   ·rw[show j=i from jB];exact hc
 have e6:x.ab=y.ab:=so r2 fun j hj=>Tb j jB
 have Wp:i=x.ab.length:=jB;subst Wp;refine S ?_
 (repeat' (first|refine aq fun K hK=>?_|refine am ?_|(with_reducible refine gR 6 ?_);refine dE 6 (au 0 11) mixed ?_|(with_reducible refine gR 11 ?_);refine dE 11 (au 0 12) mixed ?_|(with_reducible refine gR 24 ?_);refine dE 24 (au 0 11) mixed ?_|(with_reducible refine gR 29 ?_);refine dE 29 (au 0 11) mixed ?_|(refine hK _ _ ?_;clear hK K)|(refine ao ?_ ?_<;>intro hc<;>try exact jz)|refine TY _ _ ?_|refine ap ?_|exact jI|(clear hK K)))
 have TY:=hK;clear hK;refine de (S:=Nat) [(4,1),(12,1),(162,18)] (fun i=>i<=x.path.length/\∀j,j<i->nth x.path j=nth y.path j) (fun i=>[(12,rI i)]) (fun i=>⟨[],[(0,.var 39 (bv a)),(1,.var 39 (bv b)),(2,.var 87 (fa x)),(3,.var 87 (fa y))]⟩) (fun i=>x.path.length-i) 0 ⟨jB,fun j h=>jB⟩ (dc rfl bK) ?_;rintro i ⟨So,Tb⟩ Ks UC;by_cases hi:i<x.path.length
 ·(refine S ?_;try exact jI)
  (repeat' (first|refine aq fun K hK=>?_|refine am ?_|(with_reducible refine gR 6 ?_);refine dE 6 (au 0 11) mixed ?_|(with_reducible refine gR 11 ?_);refine dE 11 (au 0 12) mixed ?_|(with_reducible refine gR 24 ?_);refine dE 24 (au 0 11) mixed ?_|(with_reducible refine gR 29 ?_);refine dE 29 (au 0 11) mixed ?_|(refine hK _ _ ?_;clear hK K)|(refine ao ?_ ?_<;>intro hc<;>try exact jz)|refine TY _ _ ?_|refine ap ?_|exact jI|(clear hK K)))
  ·(refine aY [.tmp 4] ?_;try simp only[go_sem])
   exact no hc (fun e=>by rw[<-hx,<-hy,e])
  ·refine UC _ _ (dI (i+1) ⟨jB,fun j hj=>?_⟩ jJ jD bK);by_cases h:j<i
   ·exact Tb j h
   ·rw[show j=i from jB];exact hc
 have e7:x.path=y.path:=so r3 fun j hj=>Tb j jB
 have Wp:i=x.path.length:=jB;subst Wp;refine S ?_
 (repeat' (first|refine aq fun K hK=>?_|refine am ?_|(with_reducible refine gR 6 ?_);refine dE 6 (au 0 11) mixed ?_|(with_reducible refine gR 11 ?_);refine dE 11 (au 0 12) mixed ?_|(with_reducible refine gR 24 ?_);refine dE 24 (au 0 11) mixed ?_|(with_reducible refine gR 29 ?_);refine dE 29 (au 0 11) mixed ?_|(refine hK _ _ ?_;clear hK K)|(refine ao ?_ ?_<;>intro hc<;>try exact jz)|refine TY _ _ ?_|refine ap ?_|exact jI|(clear hK K)))
 refine P9 _ _ (oP [2,3] (k+1) ⟨jB,fun j hj=>?_⟩ jJ rfl Sd (by simp only[go_sem];(try rfl)) gJ);by_cases h:j<k
 ·exact Qf j h
 ·rw[show j=k from jB,hx,hy];cases x;cases y;simp_all
def fm(p:ae):RS:=RS.of { qJ with ah:=[fk p (mB p) []] }
def sn(hs:bY p):dF p (fm p):=by
 obtain⟨m,hm,T8,_,Ty⟩:=yY hs;have hf:=(xY hs hm (args:=[]) (by rw[Ty];rfl)).1;refine⟨⟨RS.kM _,?_,fun k hk=>?_,fun k hk=>?_,fun _=>?_⟩,?_,?_,?_,?_⟩
 ·show 1<=8;omega
 ·have hk:k<1:=hk;have:k=0:=jB;subst this;show dM p (fk p (mB p) []);rw[T8];exact hf
 ·have hk:k+1<1:=hk;omega
 ·show 1<=1;omega
 ·show fj []<=40;decide
 ·show 0<=24;omega
 ·show(0:Int)<=0;omega
 ·show(0:Int)<=1000;omega
def MX:bN (fm p):=⟨fun f hf=>by have hf:f∈[fk p (mB p) []]:=hf;rw[List.mem_singleton]at hf;subst hf;exact DT p _ fun v hv=>(by cases hv),fun l hl=>by cases hl⟩
def yp(p:ae):dx p=((fm p).settle p).st:=rfl
structure gh(p:ae)(n:Nat)(s:aw):Prop where
 inv:bC p s
 bn:lL s
 t0:0<=s.time
 t1:s.time<=n
def BU(hs:bY p):gh p 0 (dx p):=by have k:=pi p ((fm p).left+1) (fm p);have e:(dx p).time=0:=k.time;exact⟨(sn hs).settled,(bN.settle _ MX).st,jB,jB⟩
structure dT(R R':RS):Prop where
 time:R'.time=R.time
 ak:R.ak.length<=R'.ak.length
 heap:R.heap.length<=R'.heap.length
def dT.refl(R:RS):dT R R:=⟨rfl,Nat.le_refl _,Nat.le_refl _⟩
theorem dT.trans{a b c:RS}(h:dT a b)(k:dT b c):dT a c:=⟨k.time.trans h.time,Nat.le_trans h.ak k.ak,Nat.le_trans h.heap k.heap⟩
def vL(R:RS)(k:Nat)(f:aP):dT R (R.dY k f):=⟨rfl,Nat.le_of_eq RS.aT,Nat.le_refl _⟩
def qm(R:RS):dT R R.on:=vL _ _ _
def Av(R:RS)(p:ae)(a:Int)(v:ai):dT R (R.store p a v):=(vL R _ _).trans (qm _)
def Gz(R:RS)(p:ae)(v:ai):dT R (R.bh p v):=by
 have hp:dT R R.pop:=⟨rfl,Nat.le_refl _,Nat.le_refl _⟩;unfold RS.bh;split
 ·exact⟨rfl,Nat.le_refl _,Nat.le_refl _⟩
 split
 ·exact hp.trans ((vL _ _ _).trans (qm _))
 ·exact hp.trans (qm _)
def Mj(R:RS)(f:aP):dT R (R.push f):=⟨rfl,by show R.ak.length<=(R.ak++[f]).length;simp,Nat.le_refl _⟩
def FJ(R:RS)(p:ae)(a:Int):dT R (R.call p a).1:=by
 unfold RS.call;simp only;split
 ·exact .refl _
 split
 ·exact .refl _
 ·exact Mj _ _
def Gr(R:RS)(p:ae)(a:Int):dT R (R.fresh p a).1:=by
 unfold RS.fresh;simp only
 (repeat' split)<;>first|exact .refl _|exact⟨rfl,Nat.le_refl _,jE⟩
def Ko(R:RS)(p:ae)(a:Int)(inp:PY):dT R (R.right p a inp).1:=by
 unfold RS.right;simp only;split
 ·exact FJ _ _ _
 split
 ·exact(show dT R { R with in_:=R.in_+1 } from⟨rfl,Nat.le_refl _,Nat.le_refl _⟩).trans (Av _ _ _ _)
 split
 ·split
  ·exact(Gr _ _ _).trans (Av _ _ _ _)
  ·exact Gr _ _ _
 split
 ·exact Av _ _ _ _
 ·exact .refl _
def KZ(R:RS)(p:ae)(a:Int):dT R (R.put p a).1:=by
 unfold RS.put;simp only
 (repeat' split)<;>first|exact .refl _|exact(show dT R { R with heap:=R.heap.set _ _ } from⟨rfl,Nat.le_refl _,jE⟩).trans (qm _)
def vY(R:RS)(p:ae)(a:Int)(inp:PY):dT R (R.bF p a inp).1:=by
 unfold RS.bF;simp only;split
 ·exact Ko _ _ _ _
 split
 ·exact FJ _ _ _
 split
 ·exact KZ _ _ _
 split
 ·(repeat' split)<;>first|exact .refl _|exact Gz _ _ _
 split
 ·exact .refl _
 split
 ·split
  ·exact .refl _
  ·exact(show dT R { R with aS:=R.aS++[_] } from⟨rfl,Nat.le_refl _,Nat.le_refl _⟩).trans (qm _)
 split
 ·(repeat' split)<;>first|exact(qm _).trans (vL _ _ _)|exact qm _
 split
 ·(repeat' split)<;>first|exact vL _ _ _|exact qm _
 ·exact .refl _
theorem sY(p:ae):∀(n:Nat) (R:RS),dT R (io p n R)
 |0,R=>.refl R
 |n+1,R=>by
  unfold io;split
  ·exact .refl R
  split
  ·exact(Gz R p _).trans (sY p n _)
  split
  ·exact .refl R
  ·exact(show dT R R.cut from⟨rfl,by show R.ak.length<=(R.ak.set _ _).length;simp,Nat.le_refl _⟩).trans (sY p n _)
def Cj:(dO p s inp).time=s.time\/(dO p s inp).time=s.time+1:=by
 unfold dO;split
 ·exact .inl rfl
 split
 ·exact .inl rfl
 simp only;split
 ·exact .inr rfl
 ·exact .inr (pi p _ _).time
def yv(hs:bY p){n:Nat}(h:gh p n s)(hn:inp.length<=1000)(hi:∀x∈inp,Go.Gd.bn x):gh p (n+1) (dO p s inp):=by have ht:=@Cj p s inp;have:=h.t0;have:=h.t1;exact⟨CK hs h.inv hn,LN hs h.inv h.bn hi,jB,jB⟩
theorem zd{p:ae}(hs:bY p){inp:PY}(hn:inp.length<=1000)(hi:∀x∈inp,Go.Gd.bn x):∀n,gh p n (oz p inp n)
 |0=>BU hs
 |n+1=>yv hs (zd hs hn hi n) hn hi
def bC.fits(hs:bY p)(h:bC p s):Fits s:=by
 have h2:=gX s.heap;have h3:=h.cells;refine⟨h.inv.ak,jB,h.outs,fun k hk=>?_,fun k hk=>?_⟩
 ·have hf:dM p (nth s.ah k):=h.inv.fr k hk;have h0:=hf.f0;have h1:=hf.f1;have hz:=(hs.av (nth s.ah k).fn.toNat jB).hi;have:=hf.sl;exact⟨jB,hf.len hs⟩
 ·have:=sZ s.heap k hk;omega
def bC.copy(hs:bY p)(h:bC p s):af prog 36 [.agg (bv s)] [] (fun r l=>r=.agg (RS.of s).c/\l=(RS.of s).rows):=by
 have h1:s.ah.length<=8:=h.inv.ak;have h2:=gX s.heap;have h3:=h.cells;refine PG s jB jB (by have:=h.outs;omega) (fun k hk=>?_) fun k hk=>?_
 ·have hf:dM p (nth s.ah k):=h.inv.fr k hk;have:=hf.len hs;exact⟨by have:=(hs.av (nth s.ah k).fn.toNat (by have:=hf.f0;have:=hf.f1;omega)).hi;have:=hf.sl;omega,jB⟩
 ·have:=sZ s.heap k hk;omega
def zq(hs:bY p)(h:bC p s):aA prog 36 [.agg (bv s)] (.agg (bv s)):=by have:=aA.Gj (bC.copy hs h) (RS.u0 h.inv.ok);rw[RS.dt]at this;exact this
def Nb(hs:bY p)(h:bC p s)(inp:PY)(hn:inp.length<=1000)(h0:bq p s<0):aA prog 17 [.agg (bp p),.agg (bv s),ax eI 1 inp] (.agg (bv s)):=by
 have Rm:=zr hs h;have R6:=zq hs h;generalize bq p s=a at*;refine bI func17 ntmps17 ?_
 (repeat' (first|refine aq fun K hK=>?_|refine am ?_|(with_reducible refine gR 7 ?_);refine dE 7 (au 0 21) mixed ?_|(refine hK _ _ ?_;clear hK K)|(refine ao ?_ ?_<;>intro hc<;>try exact jz)|refine cp (Rm) ?_|refine cp (R6) ?_|refine ap ?_|exact jI|(clear hK K)))
 all_goals(refine aY [.cell 6 39] ?_;try simp only[go_sem])
def HJ(hs:bY p)(h:bC p s)(inp:PY)(hn:inp.length<=1000)(h0:¬bq p s<0)(hw:ik p s (bq p s) inp):aA prog 17 [.agg (bp p),.agg (bv s),ax eI 1 inp] (.agg (bv { s with status:=1 })):=by
 have Rm:=zr hs h;have R6:=zq hs h;have h2:¬(s.status=2\/s.status=3):=fun hh=>h0 (by unfold bq;rw[if_pos hh];decide)
 have hd:=h.eF (fun hh=>h2 (.inl hh)) 0 jC;have QF:aW p (RS.of { s with status:=0 }).st=bq p s:=by rw[RS.dt];unfold bq;rw[if_neg h2];rfl
 obtain⟨s0,s1,s2,s3,s4,s5⟩:=hd.stmt hs;rw[QF]at s0 s1;obtain⟨Qr,Vs,Ra⟩:=hw;have T7:=h.iS;generalize bq p s=a at*;obtain⟨x,Qa,SD⟩:=(hs.ok.aa.shape a.toNat s1).1.right Qr;have Q7:=(hs.ok.aa.shape a.toNat s1).2.1 x (by rw[Qa];simp);have Qc:nth (nth p.aa.nodes a.toNat).l 0=x:=by rw[Qa];rfl
 have Qj:(nth p.aa.nodes a.toNat).l.length=1:=by rw[Qa];rfl
 have SM:x.toNat<p.aa.nodes.length:=jB;have k19':(nth p.aa.nodes x.toNat).kind=19:=by rw[<-Qc];exact Vs
 have X2:(nth p.aa.nodes a.toNat).kind=10\/(nth p.aa.nodes a.toNat).kind=11:=Qr;rcases X2 with hk|hk<;>
 ·refine bI func17 ntmps17 ?_
  (have W:=jA Qc (jA Qj (jA k19' (hk)));repeat' (first|refine aq fun K hK=>?_|refine am ?_|(with_reducible refine gR 7 ?_);refine dE 7 (au 0 21) mixed ?_|(refine hK _ _ ?_;clear hK K)|(refine ao ?_ ?_<;>intro hc<;>try exact jz)|refine cp (Rm) ?_|refine cp (R6) ?_|refine ap ?_|exact jI|(clear hK K)))
  all_goals(refine aY [.cell 6 39] ?_;try simp only[go_sem])
def JW(hs:bY p)(h:bC p s)(inp:PY)(hn:inp.length<=1000)(ht:0<=s.time/\s.time<=1000000)(h0:¬bq p s<0)(hw:¬ik p s (bq p s) inp)
  (Sb:∀x:Int,0<=x->x.toNat<p.aa.nodes.length->cr (bJ p.aa.nodes x)->bn ((RS.of { s with status:=0 }).val p x).1.n):aA prog 17 [.agg (bp p),.agg (bv s),ax eI 1 inp] (.agg (bv (dO p s inp))):=by
 have Rm:=zr hs h;have R6:=zq hs h;have TE:=bC.copy hs h;have h2:¬(s.status=2\/s.status=3):=fun hh=>h0 (by unfold bq;rw[if_pos hh];decide)
 have hd:=h.eF (fun hh=>h2 (.inl hh)) 0 jC;have J':(RS.of { s with status:=0 }).st={ s with status:=0 }:=RS.dt _;have QF:aW p (RS.of { s with status:=0 }).st=bq p s:=by rw[RS.dt];unfold bq;rw[if_neg h2];rfl
 obtain⟨s0,s1,s2,s3,s4,s5⟩:=hd.stmt hs;have SE:=KU hs _ hd inp hn (by rw[QF,J'];exact hw) Sb;have Wq:=hd.bF hs hn (by rw[QF,J'];exact hw);rw[QF]at s0 s1 SE Wq;have hnw:¬(((nth p.aa.nodes (bq p s).toNat).kind=10\/(nth p.aa.nodes (bq p s).toNat).kind=11)/\(nth p.aa.nodes (nth (nth p.aa.nodes (bq p s).toNat).l 0).toNat).kind=19/\(inp.length:Int)<=s.in_):=hw;have TZ:((nth p.aa.nodes (bq p s).toNat).kind=10\/(nth p.aa.nodes (bq p s).toNat).kind=11)->(nth p.aa.nodes (bq p s).toNat).l.length=1/\0<=nth (nth p.aa.nodes (bq p s).toNat).l 0/\(nth (nth p.aa.nodes (bq p s).toNat).l 0).toNat<p.aa.nodes.length:=fun hk=>by obtain⟨x,Qa,SD⟩:=(hs.ok.aa.shape (bq p s).toNat s1).1.right hk;have:=(hs.ok.aa.shape (bq p s).toNat s1).2.1 x (by rw[Qa];simp);rw[Qa];exact⟨rfl,this.1,by show x.toNat<_;omega⟩
 have T7:=h.iS;unfold dO;rw[if_neg h0,if_neg hw];simp only;have RP:=vY (RS.of { s with status:=0 }) p (bq p s) inp;generalize (RS.of { s with status:=0 }).bF p (bq p s) inp=D at*;generalize bq p s=a at*;have TA:∀i,aB ((RS.of s).cI [(4,.var 29 (bp p)),(5,.var 39 (bv s)),(6,.var 39 [.raw (.slice none 0 0),.raw (.slice none 0 0),rI 0,.raw (.slice none 0 0),rI 0,rI 0,rI 0]),(0,.var 39 (RS.of { s with status:=0 }).c),(7,.var 78 (bX (nth p.aa.nodes a.toNat)))]) i=aB ((RS.of { s with status:=0 }).e 39 [] [] [(4,.var 29 (bp p)),(5,.var 39 (bv s)),(6,.var 39 [.raw (.slice none 0 0),.raw (.slice none 0 0),rI 0,.raw (.slice none 0 0),rI 0,rI 0,rI 0]),(7,.var 78 (bX (nth p.aa.nodes a.toNat)))]) i:=RS.kc (R:=RS.of { s with status:=0 }) rfl jE fun i hi=>by simp only[aB,if_neg hi]
 by_cases hz:D.2=0
 ·rw[if_neg (fun e=>e hz)];have hD:=Wq hz;have N':=CQ hs { D.1 with time:=s.time+1 } ⟨⟨hD.inv.ok.nf,hD.inv.ok.jp⟩,hD.inv.ak,hD.inv.fr,hD.inv.busy,hD.inv.go⟩;have SP:=sY p (RS.left { D.1 with time:=s.time+1 }+1) { D.1 with time:=s.time+1 };change dT _ (({ D.1 with time:=s.time+1 }:RS).settle p)at SP
  have Sh:(({ D.1 with time:=s.time+1 }:RS).settle p).Ok:=(pq (RS.left { D.1 with time:=s.time+1 }+1) { D.1 with time:=s.time+1 } ⟨⟨hD.inv.ok.nf,hD.inv.ok.jp⟩,hD.inv.ak,hD.inv.fr,hD.inv.busy,hD.inv.go⟩ jB).1.ok;generalize hT:({ D.1 with time:=s.time+1 }:RS).settle p=T at*;rcases Classical.em ((nth p.aa.nodes a.toNat).kind=10\/(nth p.aa.nodes a.toNat).kind=11)with hk|hk
  ·obtain⟨g1,g2,g3⟩:=TZ hk;refine bI func17 ntmps17 ?_
   (have W:=jA hz g1;repeat' (first|refine aq fun K hK=>?_|refine am ?_|(with_reducible refine gR 7 ?_);refine dE 7 (au 0 21) mixed ?_|(refine hK _ _ ?_;clear hK K)|(refine ao ?_ ?_<;>intro hc<;>try exact jz)|refine cp (Rm) ?_|(refine cR (R:=RS.of s) TE rfl aM rfl jD ?_;refine S ?_)|(refine rc (R:=RS.of { s with status:=0 }) (R':=D.1) (pre:=[]) (post:=[]) (pre':=[]) (post':=[]) (tl:=[(4,.var 29 (bp p)),(5,.var 39 (bv s)),(6,.var 39 [.raw (.slice none 0 0),.raw (.slice none 0 0),rI 0,.raw (.slice none 0 0),rI 0,rI 0,rI 0]),(7,.var 78 (bX (nth p.aa.nodes a.toNat)))]) SE rfl TA RP.ak RP.heap rfl rfl aM rfl jD ?_;refine S ?_)|(refine cE (R:={ D.1 with time:=s.time+1 }) (R':=T) (pre:=[]) (post:=[]) (pre':=[]) (post':=[]) N' rfl SP.ak SP.heap rfl rfl aM rfl jD ?_;refine S ?_)|refine cp (R6) ?_|refine bz 4 ?_|refine bz 5 ?_|refine bf 6 ?_|refine bf 0 ?_|refine bf 7 ?_|refine ap ?_|exact jI|(clear hK K)))
   exact oO [.cell 6 39] rfl (bc.agg (ds:=bv T.st) (RS.qo (t:=39) (pre:=[]) (post:=[]) (R:=T) Sh fun _=>rfl))
  ·refine bI func17 ntmps17 ?_
   (have W:=hz;repeat' (first|refine aq fun K hK=>?_|refine am ?_|(with_reducible refine gR 7 ?_);refine dE 7 (au 0 21) mixed ?_|(refine hK _ _ ?_;clear hK K)|(refine ao ?_ ?_<;>intro hc<;>try exact jz)|refine cp (Rm) ?_|(refine cR (R:=RS.of s) TE rfl aM rfl jD ?_;refine S ?_)|(refine rc (R:=RS.of { s with status:=0 }) (R':=D.1) (pre:=[]) (post:=[]) (pre':=[]) (post':=[]) (tl:=[(4,.var 29 (bp p)),(5,.var 39 (bv s)),(6,.var 39 [.raw (.slice none 0 0),.raw (.slice none 0 0),rI 0,.raw (.slice none 0 0),rI 0,rI 0,rI 0]),(7,.var 78 (bX (nth p.aa.nodes a.toNat)))]) SE rfl TA RP.ak RP.heap rfl rfl aM rfl jD ?_;refine S ?_)|(refine cE (R:={ D.1 with time:=s.time+1 }) (R':=T) (pre:=[]) (post:=[]) (pre':=[]) (post':=[]) N' rfl SP.ak SP.heap rfl rfl aM rfl jD ?_;refine S ?_)|refine cp (R6) ?_|refine bz 4 ?_|refine bz 5 ?_|refine bf 6 ?_|refine bf 0 ?_|refine bf 7 ?_|refine ap ?_|exact jI|(clear hK K)))
   exact oO [.cell 6 39] rfl (bc.agg (ds:=bv T.st) (RS.qo (t:=39) (pre:=[]) (post:=[]) (R:=T) Sh fun _=>rfl))
 ·rw[if_pos hz];rcases Classical.em ((nth p.aa.nodes a.toNat).kind=10\/(nth p.aa.nodes a.toNat).kind=11)with hk|hk
  ·obtain⟨g1,g2,g3⟩:=TZ hk;refine bI func17 ntmps17 ?_
   (have W:=jA hz g1;repeat' (first|refine aq fun K hK=>?_|refine am ?_|(with_reducible refine gR 7 ?_);refine dE 7 (au 0 21) mixed ?_|(refine hK _ _ ?_;clear hK K)|(refine ao ?_ ?_<;>intro hc<;>try exact jz)|refine cp (Rm) ?_|(refine cR (R:=RS.of s) TE rfl aM rfl jD ?_;refine S ?_)|(refine rc (R:=RS.of { s with status:=0 }) (R':=D.1) (pre:=[]) (post:=[]) (pre':=[]) (post':=[]) (tl:=[(4,.var 29 (bp p)),(5,.var 39 (bv s)),(6,.var 39 [.raw (.slice none 0 0),.raw (.slice none 0 0),rI 0,.raw (.slice none 0 0),rI 0,rI 0,rI 0]),(7,.var 78 (bX (nth p.aa.nodes a.toNat)))]) SE rfl TA RP.ak RP.heap rfl rfl aM rfl jD ?_;refine S ?_)|refine cp (R6) ?_|refine bz 4 ?_|refine bz 5 ?_|refine bf 6 ?_|refine bf 0 ?_|refine bf 7 ?_|refine ap ?_|exact jI|(clear hK K)))
   exact oO [.cell 6 39] rfl (.same (.agg (bv { s with status:=3,bL:=D.2,time:=s.time+1 })) (by simp only[AV.all];exact qW _ _))
  ·refine bI func17 ntmps17 ?_
   (have W:=hz;repeat' (first|refine aq fun K hK=>?_|refine am ?_|(with_reducible refine gR 7 ?_);refine dE 7 (au 0 21) mixed ?_|(refine hK _ _ ?_;clear hK K)|(refine ao ?_ ?_<;>intro hc<;>try exact jz)|refine cp (Rm) ?_|(refine cR (R:=RS.of s) TE rfl aM rfl jD ?_;refine S ?_)|(refine rc (R:=RS.of { s with status:=0 }) (R':=D.1) (pre:=[]) (post:=[]) (pre':=[]) (post':=[]) (tl:=[(4,.var 29 (bp p)),(5,.var 39 (bv s)),(6,.var 39 [.raw (.slice none 0 0),.raw (.slice none 0 0),rI 0,.raw (.slice none 0 0),rI 0,rI 0,rI 0]),(7,.var 78 (bX (nth p.aa.nodes a.toNat)))]) SE rfl TA RP.ak RP.heap rfl rfl aM rfl jD ?_;refine S ?_)|refine cp (R6) ?_|refine bz 4 ?_|refine bz 5 ?_|refine bf 6 ?_|refine bf 0 ?_|refine bf 7 ?_|refine ap ?_|exact jI|(clear hK K)))
   exact oO [.cell 6 39] rfl (.same (.agg (bv { s with status:=3,bL:=D.2,time:=s.time+1 })) (by simp only[AV.all];exact qW _ _))
def I8(hs:bY p)(h:bC p s)(inp:PY)(hn:inp.length<=1000)(ht:0<=s.time/\s.time<=1000000)
  (Sb:∀x:Int,0<=x->x.toNat<p.aa.nodes.length->cr (bJ p.aa.nodes x)->bn ((RS.of { s with status:=0 }).val p x).1.n):aA prog 17 [.agg (bp p),.agg (bv s),ax eI 1 inp] (.agg (bv (dO p s inp))):=by
 by_cases h0:bq p s<0
 ·have:=Nb hs h inp hn h0;unfold dO;rw[if_pos h0];exact this
 by_cases hw:ik p s (bq p s) inp
 ·have:=HJ hs h inp hn h0 hw;unfold dO;rw[if_neg h0,if_pos hw];exact this
 exact JW hs h inp hn ht h0 hw Sb
def MY(hs:bY p):aA prog 34 [.agg (bp p)] (.agg (bv (dx p))):=by
 obtain⟨m,hm,T8,Qx,Ty⟩:=yY hs;have Rn:=yy (args:=[.agg (bp p),rI m,.raw (.slice none 0 0)]) (args':=[.agg (bp p),rI m,ax bk 3 []]) ⟨eV.refl _,eV.refl _,eV.nil,trivial⟩ (Gx hs m hm [] (by rw[Ty];rfl) 0);have N':=CQ hs (fm p) (sn hs).inv;have Wo:=hs.ok.aa.av;have Sh:=(pq ((fm p).left+1) (fm p) (sn hs).inv jB).1.ok;have SP:=sY p ((fm p).left+1) (fm p);change ((fm p).settle p).Ok at Sh
 change dT _ ((fm p).settle p)at SP
 rw[yp];have hR:RS.of { qJ with ah:=[fk p m []] }=fm p:=by unfold fm;rw[T8]
 generalize Zu:fm p=R at*;generalize hT:R.settle p=T at*;refine bI func34 ntmps34 ?_
 (repeat' (first|refine aq fun K hK=>?_|refine am ?_|(refine hK _ _ ?_;clear hK K)|(refine ao ?_ ?_<;>intro hc<;>try exact jz)|refine bz 4 ?_|refine bf 5 ?_|refine bf 0 ?_|refine ap ?_|exact jI|(clear hK K)))
 refine gj (cY.fL 2 0 1 22 1 rfl jC rfl rfl) ?_;refine gj (cY.fL 3 0 3 9 1 rfl jC rfl rfl) ?_
 (refine S ?_;try exact jI)
 have M':=hK;clear hK;refine de (S:=Nat) [(4,1),(6,21)] (fun k=>k<=p.aa.av.length) (fun k=>[(4,rI k)]) (fun k=>if k<=m then⟨[],[(4,.var 29 (bp p)),(5,.var 39 [.raw (.slice none 0 0),.raw (.slice none 0 0),rI 0,.raw (.slice none 0 0),rI 0,rI 0,rI 0]),(0,.var 39 [.raw (.slice none 0 0),.rs 2 0 1 0,rI 0,.rs 3 0 1 0,rI 0,rI 0,rI 0]),(2,.aG 22 1 []),(3,.aG 9 1 [])]⟩else⟨[],R.e 39 [] [] [(4,.var 29 (bp p)),(5,.var 39 [.raw (.slice none 0 0),.raw (.slice none 0 0),rI 0,.raw (.slice none 0 0),rI 0,rI 0,rI 0])]⟩)
  (fun k=>p.aa.av.length-k) 0 jB (dc ?_ bK) ?_
 ·rw[jP]
 rintro k hk Kr P9;by_cases h1:k<m
 ·have QD:=eq_false (hs.names.one k m h1 hm);rw[Qx]at QD;rw[jP];refine S ?_
  (have W:=QD;repeat' (first|refine aq fun K hK=>?_|refine am ?_|(refine hK _ _ ?_;clear hK K)|(refine ao ?_ ?_<;>intro hc<;>try exact jz)|refine M' _ _ ?_|refine ap ?_|exact jI|(clear hK K)))
  refine P9 _ _ (dI (k+1) jB jJ ?_ bK);rw[jP]
 by_cases h2:k=m
 ·subst h2;rw[jP];refine S ?_
  (have W:=Qx;repeat' (first|refine aq fun K hK=>?_|refine am ?_|(refine hK _ _ ?_;clear hK K)|(refine ao ?_ ?_<;>intro hc<;>try exact jz)|refine M' _ _ ?_|refine cm (Rn) ?_|refine lb 1 ?_|refine ap ?_|exact jI|(clear hK K)))
  have W5:=gW 0 0;have QA:=gW 1 0;have Q8:bj 1 0≠bj 0 0:=jC;refine P9 _ _ (PQ (R.e 39 [] [] [(4,.var 29 (bp p)),(5,.var 39 [.raw (.slice none 0 0),.raw (.slice none 0 0),rI 0,.raw (.slice none 0 0),rI 0,rI 0,rI 0])]) (k+1) jB (by show p.aa.av.length-(k+1)<p.aa.av.length-k;omega) ?_ ?_ bK)
  ·subst hR;intro i;show aB [_,_,_,_,_,_,_,_] i=aB [_,_,_,_,(bj 0 0,_),(bj 1 0,_),_,_] i;simp only[aB];repeat' split
   all_goals first
    |rfl
    |omega
  ·show _=(if k+1<=k then _ else _);rw[jN]
 ·rw[jN];by_cases h3:k<p.aa.av.length
  ·have QD:((nth p.aa.av k).name=(⟨#[109,97,105,110]⟩:P0))=False:=eq_false fun e=>hs.names.one m k jB h3 (by rw[Qx,e])
   refine S ?_
   (have W:=QD;repeat' (first|refine aq fun K hK=>?_|refine am ?_|(refine hK _ _ ?_;clear hK K)|(refine ao ?_ ?_<;>intro hc<;>try exact jz)|refine M' _ _ ?_|refine ap ?_|exact jI|(clear hK K)))
   refine P9 _ _ (dI (k+1) jB (by show p.aa.av.length-(k+1)<p.aa.av.length-k;omega) ?_ bK);show _=(if k+1<=m then _ else _);rw[jN];rfl
  ·(refine S ?_;try exact jI)
   (repeat' (first|refine aq fun K hK=>?_|refine am ?_|(refine hK _ _ ?_;clear hK K)|(refine ao ?_ ?_<;>intro hc<;>try exact jz)|refine M' _ _ ?_|(refine cE (R:=R) (R':=T) (pre:=[]) (post:=[]) (pre':=[]) (post':=[]) N' rfl SP.ak SP.heap rfl rfl aM rfl jD ?_;refine S ?_)|refine ap ?_|exact jI|(clear hK K)))
   exact oO [.cell 2 39] rfl (bc.agg (ds:=bv T.st) (RS.qo (t:=39) (pre:=[]) (post:=[]) (R:=T) Sh fun _=>rfl))
def GH(hs:bY p){n:Nat}(h:gh p n s)(S3:n<=1000000)(inp:PY)(hn:inp.length<=1000):aA prog 17 [.agg (bp p),.agg (bv s),ax eI 1 inp] (.agg (bv (dO p s inp))):=
 I8 hs h.inv inp hn ⟨h.t0,by have:=h.t1;omega⟩ fun x h0 hl hE=>bN.val hs (R:=RS.of { s with status:=0 }) ⟨h.bn.sl,h.bn.hp⟩ h.inv.cells h0 hl hE
def PD(hs:bY p)(inp:PY)(hn:inp.length<=1000)(hi:∀x∈inp,bn x)(n:Nat)(S3:n<=1000000):aA prog 15 [.agg (bp p),ax eI 1 inp,rI n] (.agg (bv (oz p inp n))):=by
 have J':=MY hs;refine bI func15 ntmps15 ?_
 (repeat' (first|refine aq fun K hK=>?_|refine am ?_|(refine hK _ _ ?_;clear hK K)|(refine ao ?_ ?_<;>intro hc<;>try exact jz)|refine bz 4 ?_|refine bf 5 ?_|refine bf 6 ?_|refine cp (J') ?_|refine ap ?_|exact jI|(clear hK K)))
 have M':=hK;clear hK;refine de (S:=Nat) [(8,1),(11,9)] (fun k=>k<=n) (fun k=>[(8,rI k)]) (fun k=>⟨[],[(4,.var 29 (bp p)),(5,.var 39 [.raw (.slice none 0 0),.raw (.slice none 0 0),rI 0,.raw (.slice none 0 0),rI 0,rI 0,rI 0]),(6,.var 39 (bv (oz p inp k)))]⟩) (fun k=>n-k) 0 jB (dc rfl bK) ?_;rintro k hk Kr P9;by_cases Qd:k<n
 ·have WQ:=GH hs (zd hs hn hi k) jB inp hn;refine S ?_
  (repeat' (first|refine aq fun K hK=>?_|refine am ?_|(refine hK _ _ ?_;clear hK K)|(refine ao ?_ ?_<;>intro hc<;>try exact jz)|refine M' _ _ ?_|refine cp (WQ) ?_|refine ap ?_|exact jI|(clear hK K)))
  refine P9 _ _ (dI (k+1) jB jJ rfl bK)
 ·have RT:k=n:=jB;subst RT;refine S ?_
  (repeat' (first|refine aq fun K hK=>?_|refine am ?_|(refine hK _ _ ?_;clear hK K)|(refine ao ?_ ?_<;>intro hc<;>try exact jz)|refine M' _ _ ?_|refine ap ?_|exact jI|(clear hK K)))
  (refine aY [.cell 6 39] ?_;try simp only[go_sem])
end Go.Proofs.YtghoellpinmenaaGreatDoor