/- Lemmas. No conditions. -/
import Derived.Test.YtbjookcdpondlaaGreatDoorSo9
set_option linter.all false
set_option maxHeartbeats 4000000
set_option maxRecDepth 10000
namespace Go.Gd
open Go
def RS.rows(R:RS):SF:=
 (1,.aK 76 3 (eT R.aw.length R.fr))::(2,.aK 22 1 (eT R.heap.length fun k=>[.rs (bJ 2 k) (nth R.heap k).length 1 (nth R.heap k).length]))::(3,.aK 9 1 (R.aC.map eS)) ::
  bX 0 R.aw.length R.sl (bX 1 R.aw.length R.pt (bX 2 R.heap.length R.hp []))
variable{n:Nat}{W:List (Nat×Nat)}{F:SG}{B:SJ}{l:SF}
def Ii{S:Type}{ok:S->Prop}{J:S->List (Nat×AV)}{G:S->Hp}{μ:S->Nat}{F₀:SG}(l':SF)(D:SP)(s:S)(h1:ok s)(h2:μ s<n)(UK:∀i,aD l i=aD l' i)(hB:B.all (fu D)=true)(hl:gp D l')(h4:⟨B,eP D l'⟩=G s)(h3:bK D ⟨B,l'⟩ F (mg (J s) (mT W F₀))):Next n W ok J G μ F₀ F ⟨B,l⟩:=
 ⟨s,h2,(dJ.perm l' UK).trans (by rw[<-h4];exact dJ.free D hB hl h3),h1⟩
theorem DT(D:SP)(a:Nat)(f:SR)(l:SF):∀(n k:Nat),(∀j,k<=j->j<k+n->qE (fu D) (f j))->gp D l->gp D (gl a f k n l)
 |0,k,_,h=>h
 |n+1,k,hf,h=>⟨.inr (hf k jl jB),DT D a f l n (k+1) (fun j h1 h2=>hf j jB jB) h⟩
variable{a:Nat}
def xk{D:SP}{f:SR}(hf:∀j,j<n->qE (fu D) (f j))(h:gp D l):gp D (bX a n f l):=DT D a f l n 0 (fun j _ h2=>hf j jB) h
theorem Hl(D:SP)(a:Nat)(f:SR)(l:SF)(hD:∀k,D (bJ a k)=false):∀(n k:Nat),eP D (gl a f k n l)=gl a f k n (eP D l)
 |0,k=>rfl
 |n+1,k=>by show(bif D (bJ a k)then _ else(bJ a k,f k)::eP D (gl a f (k+1) n l))=_;rw[hD k,Hl D a f l hD n (k+1)];rfl
def xt{D:SP}{f:SR}(hD:∀k,D (bJ a k)=false):eP D (bX a n f l)=bX a n f (eP D l):=Hl D a f l hD n 0
def tn{L:SJ}(h:L.all (fun i=>decide (i<1000))=true)(a k:Nat):L.contains (bJ a k)=false:=by
 cases e:L.contains (bJ a k)with
 |false=>rfl
 |true=> have:=List.all_eq_true.1 h _ (List.contains_iff_mem.1 e);simp only[decide_eq_true_eq]at this;have:=lK a k;omega
variable{P:SQ}{fn:Func}{l0 l':SF}
def RZ{out:SG}{e:Exit}{r:AV}(UK:∀i,aD l0 i=aD l' i)(rs:List ResultVar)(hv:iG out=r)(hl:gp fe l')(hq:(iG out).all (fu fe)=true)(h2:eP fe l'=l)(UI:fn.results.toList=rs:=by rfl)(he:e=.normal\/e=.ret:=by first|exact Or.inr rfl|exact Or.inl rfl|fail)
  (ho:iC P ⟨[],l0⟩ F rs=some out:=by first|(simp(disch:=first|omega|fail) only[go_sem,↓reduceIte,Nat.reduceEqDiff,Nat.reduceLeDiff,Nat.reduceSub,Nat.reduceAdd];rfl)|rfl) (hok:jb P ⟨[],l0⟩ F rs:=by first|exact jI|(simp(disch:=first|omega|fail) only[go_sem,↓reduceIte,Nat.reduceEqDiff,Nat.reduceLeDiff,Nat.reduceSub,Nat.reduceAdd])):ju P fn (fun r' l'=>r'=r/\l'=l) e F ⟨[],l0⟩:=by
 subst UI;refine rG he ho hok r ⟨[],l⟩ ((zd l' UK).trans ?_) ⟨rfl,rfl⟩;have:=gT.free (H:=⟨[],l'⟩) fe rfl hl (tE hv hq);rw[h2]at this;exact this
variable{H:Hp}{t:SL}
def NP{A:AS}(i:Nat){e:SL}{sz:Nat}{x:AV}{c:Prop}{ys:SE}{zs:SO}{f:SD}{d:io fun r H'=>eO A H H'/\f r H'}{q:Prop}(k:q)(ht:iT P t=some e:=by(simp only[go_sem];rfl))(hs:dx P e=some sz:=by(simp only[go_sem];done))(hz:ff P e=some zs:=by(simp only[go_sem];rfl))(Wc:zs.length=sz:=by rfl)(h0:0<sz:=by decide)
  (hx:tO H x=some (c,ys):=by rfl) (hc:c:=by trivial) (hg:lZ sz ys:=by(simp(disch:=first|omega|assumption|fail) only[go_sem];done)) (hr:room (jY P e) ys.length:=by(simp only[go_sem];omega)) (hi:H.get i=none:=by first|rfl|(simp(disch:=first|omega|assumption|fail) only[go_sem,↓reduceIte,Nat.reduceEqDiff,Nat.reduceAdd];done))
  (e:f (.rs i ys.length sz ys.length) (H.put i (.aK e sz ys))=q:=by(simp(disch:=first|omega|assumption|fail) only[go_sem,sM,↓reduceIte,Int.reduceToNat,Nat.reduceMul,Nat.reduceAdd,Nat.reduceLeDiff,Nat.reduceSub,Nat.reduceEqDiff,Nat.reduceBEq];rfl)):qs P t t (.sl true sz [] []) x H (AP (fun r H'=>eO A H H'/\f r H') d):=Qq (b:=true) (d:=d) i k ht hs hz Wc h0 hx hc hg hr hi e
def G8(D:SP)(R:RS)(k:Nat):qE (fu D) (R.sl k):=jo (enc:=bM) (sz:=3) _
def D6(D:SP)(R:RS)(k:Nat):qE (fu D) (R.pt k):=jo (enc:=iU) (sz:=2) _
def PY(D:SP)(R:RS)(k:Nat):qE (fu D) (R.hp k):=jo (enc:=eI) (sz:=1) _
def RS.fh(R:RS)(tl:SF):SF:=
 (1,.aK 76 3 (eT R.aw.length R.fr))::(2,.aK 22 1 (eT R.heap.length fun k=>[.rs (bJ 2 k) (nth R.heap k).length 1 (nth R.heap k).length]))::(3,.aK 9 1 (R.aC.map eS)) ::
  bX 0 R.aw.length R.sl (bX 1 R.aw.length R.pt (bX 2 R.heap.length R.hp tl))
def RS.lF(R:RS):R.fh []=R.rows:=rfl
variable{R:RS}{tl:SF}
def RS.pX{pre post:SG}:R.e t pre post tl=(0,.var t (pre++R.c++post))::R.fh tl:=rfl
def RS.eQ(R:RS)(tl:SF):R.fh tl=R.rows++tl:=by rw[<-RS.lF];unfold RS.fh;rw[show tl=[]++tl from rfl,sf,sf,sf];rfl
def RS.iz(i:Nat)(h:i=0\/4<=i)(h':i<1000):aD R.rows i=none:=by rw[<-RS.lF];unfold RS.fh;simp only[aD];rw[jN,jN,jN,si _ _ _ _ _ h',si _ _ _ _ _ h',si _ _ _ _ _ h'];rfl
@[go_sem] def RS.lA(R:RS)(tl:SF)(i:Nat)(h:i=0\/4<=i)(h':i<1000):aD (R.fh tl) i=aD tl i:=by rw[RS.eQ,oR,RS.iz i h h'];rfl
@[go_sem] def RS.rowsT_put(R:RS)(tl:SF)(i:Nat)(r:Row)(h:i=0\/4<=i)(h':i<1000):bD (R.fh tl) i r=R.fh (bD tl i r):=by unfold RS.fh;simp only[bD];rw[jN,jN,jN,Db _ _ _ _ _ _ h',Db _ _ _ _ _ _ h',Db _ _ _ _ _ _ h']
theorem BI:∀(l:SF),gp (fun _=>true) l
 |[]=>trivial
 |_::l=>⟨.inl rfl,BI l⟩
theorem Cn:∀(l:SF),eP (fun _=>true) l=[]
 |[]=>rfl
 |x::l=>Cn l
variable{f:FuncId}{r0:AV}
def aP.R4{args:SG}{r1:AV}(hc:ai P f args [] fun r l=>r=r0/\l=l0)(hv:dM (fun _=>true) ⟨[],l0⟩ r0 r1):aP P f args r1:=fun w vs h1 h2=>by refine(hc w vs h1 h2).mono ?_;rintro e W ⟨v,r,⟨B,l⟩,w',rfl,e1,⟨rfl,rfl⟩,g1,g2,g3⟩;have hB:B=[]:=g3.base;subst hB;obtain⟨w2,k1,k2,k3,k4⟩:=gT.free (fun _=>true) rfl (BI _) hv w' v g1 g2;refine⟨v,r1,_,w2,k1.symm,e1,⟨rfl,Cn _⟩,k2,k3,g3.trans k4⟩
def RS.kG(R:RS):(ids R.rows).Nodup:=by have:=RS.nodup (t:=0) (pre:=[]) (post:=[]) (R:=R);exact(List.nodup_cons.1 this).2
def RS.e_perm{pre post:SG}{c:SG}(hc:c=pre++R.c++post)(h0:aD tl 0=none)(i:Nat):aD (R.fh (tl++[(0,.var t c)])) i=aD (R.e t pre post tl) i:=by subst hc;rw[RS.pX,RS.eQ,<-List.append_assoc,<-RS.eQ];exact Js (by rw[RS.lA _ _ _ (.inl rfl) jB,h0]) i
variable{K:SD}
def cR{args:SG}(hc:ai P f args [] fun r l=>r=r0/\l=R.rows)(hH:H=⟨[],tl⟩)(hl:low tl)(h2:ba cZ args=true)(h0:bn P f=true)(k:K r0 ⟨[],R.fh tl⟩):fz P (.raw (.func (.func f) #[] #[])) args H K:=by
 subst hH;refine mZ h0 fun w vs h1 h3=>?_
 have Td:∀i r,aD R.rows i=some r->aD tl i=none:=fun i r hi=>by
  cases e:aD tl i with
  |none=>rfl
  |some x=> have:=hl i x e;rw[RS.iz i (.inr this.1) this.2]at hi;cases hi
 refine(zz (H:=⟨[],tl⟩) (K:=fun r H'=>r=r0/\∃l',H'=⟨[],l'⟩/\∀i,aD l' i=aD (R.fh tl) i) hc (fun i r hi=>by cases hi) (by simpa[ids]using h2) (fun i r hi=>by cases hi) (fun r l' ⟨e1,e2⟩=>⟨fun i s hs=>?_,by rw[e2];exact R.kG,e1,_,rfl,fun i=>?_⟩) h1 h3).mono ?_
 ·subst e2;exact .inr (Td i s hs)
 ·subst e2;rw[xV _ _ _ (fun _ _ _=>trivial) R.kG,RS.eQ,oR]
 ·rintro e W ⟨v,r,H',w',rfl,rfl,⟨rfl,l',rfl,Ur⟩,g1,g2,g3⟩;exact⟨v,_,⟨[],R.fh tl⟩,w',rfl,rfl,k,Cs Ur g1,g2,{ g3 with base:=rfl }⟩
def NZ{args:SG}(h:∀i,aD l i=aD l' i)(k:eu P f args ⟨B,l'⟩ K):eu P f args ⟨B,l⟩ K:=fun w vs h1 h2=>by refine(k w vs (Cs h h1) h2).mono ?_;rintro e W ⟨v,r,H',w',e0,e1,k,g1,g2,g3⟩;exact⟨v,r,H',w',e0,e1,k,g1,g2,{ g3.toExtQ with base:=g3.base }⟩
def RS.rE{pre post:SG}{tl':SF}{c:SG}(h0:aD tl 0=some (.var t c))(hc:c=pre++R.c++post)(h:∀i,i≠0->aD tl i=aD tl' i)(i:Nat):aD (R.fh tl) i=aD (R.e t pre post tl') i:=by
 subst hc;by_cases e:i=0
 ·subst e;rw[RS.lA _ _ _ (.inl rfl) jB,h0,RS.oB]
 ·rw[RS.pX];show _=if i=0 then _ else _
  rw[if_neg e,RS.eQ,RS.eQ,oR,oR,h i e]
def y9{args:SG}{pre post pre' post':SG}{R':RS}(hc:ai P f args (R.e t pre post []) fun r l'=>r=r0/\l'=R'.e t pre' post' [])(hH:H=⟨B,l⟩)(UK:∀i,aD l i=aD (R.e t pre post tl) i)
  (h1:R.aw.length<=R'.aw.length) (h2:R.heap.length<=R'.heap.length) (hp:ba cZ pre=true) (hq:ba cZ post=true) (hl:low tl) (ha:ba (fun i=>decide (i=0)) args=true) (h0:bn P f=true) (k:K r0 ⟨B,R'.e t pre' post' tl⟩):fz P (.raw (.func (.func f) #[] #[])) args H K:=by
 subst hH;refine mZ h0 (NZ UK (zI (E:=fun tl=>R.e t pre post tl) (E':=fun tl=>R'.e t pre' post' tl) hc (RS.bz hl) (RS.bz hl) RS.nodup (fM (fun i hi=>?_) _ ha) (RS.closed hp hq) k (RS.size h1 h2)));have:i=0:=of_decide_eq_true hi;subst this;exact gq RS.oB
def RS.Cb(h:R.Ok):dM (fun _=>true) ⟨[],R.rows⟩ (.agg R.c) (.agg (dD R.st)):=by
 have TB:=h.nf;have g:∀{i:Nat} {r:Row},aD (R.e 0 [] [] []) i=some r->i≠0->(Hp.mk [] R.rows).get i=some r:=fun{i r} e h=>by have e:(if i=0 then _ else aD R.rows i)=some r:=e;rw[if_neg h]at e;exact e
 have gf:∀{a k:Nat} {r:Row},aD (R.e 0 [] [] []) (bJ a k)=some r->(Hp.mk [] R.rows).get (bJ a k)=some r:=fun{a k r} e=>g e (by have:=lK a k;omega)
 refine bK.agg (ds:=dD R.st) ⟨?_,?_,.same _ rfl,?_,.same _ rfl,.same _ rfl,.same _ rfl,jI⟩
 ·refine .wM _ 1 3 _ _ 76 _ _ rfl (g RS.oF jC) (by simp[go_sem]) TB (by show(List.map _ (R.aw.take R.nf)).length=_;simp;omega) (fun ds U5=>?_) (jo (enc:=kS) (sz:=3) _) fun k j c d hk h1 h2=>?_
  ·obtain⟨x,_,rfl⟩:=List.mem_map.1 U5;rfl
  ·rw[wZ _ _ _ jB]at h1;have SW:k<(R.aw.take R.nf).length:=by simp;omega
   have e2:(List.map kS (R.aw.take R.nf)).getD k []=kS (nth R.aw k):=by rw[ye _ _ _ SW,dV SW,dV jB];simp
   have h2:((List.map kS (R.aw.take R.nf)).getD k [])[j]?=some d:=h2;rw[e2]at h2;unfold RS.fr at h1;match j with
   |0=>cases h1;cases h2;exact .same _ rfl
   |1=>cases h1;cases h2;exact .row _ rfl (gf (RS.mD jB)) rfl
   |2=>cases h1;cases h2;exact .qa _ _ rfl (gf (RS.uK jB)) rfl rfl
   |j+3=>simp at h1
 ·refine .rs _ 2 1 _ 22 _ _ rfl (g RS.nE jC) (by simp[go_sem]) (by simp[go_sem];rfl) (fun ds U5=>?_) (jo (enc:=kg) (sz:=1) _) fun k j c d hk h1 h2=>?_
  ·obtain⟨x,_,rfl⟩:=List.mem_map.1 U5;rfl
  ·have hk:k<R.heap.length:=by simpa[go_sem]using hk
   rw[wZ _ _ _ hk]at h1;have h2:((List.map kg R.heap).getD k [])[j]?=some d:=h2;rw[ye _ _ _ hk]at h2;match j with
   |0=>cases h1;cases h2;exact .row _ rfl (gf (RS.rl hk)) rfl
   |j+1=>simp at h1
 ·exact .row _ rfl (g RS.oV jC) rfl
def ui{out:SG}{e:Exit}{r:AV}(rs:List ResultVar)(hH:H=⟨[],l⟩)(hv:dM (fun _=>true) H (iG out) r)(UI:fn.results.toList=rs:=by rfl)(he:e=.normal\/e=.ret:=by first|exact Or.inr rfl|exact Or.inl rfl|fail)
  (ho:iC P H F rs=some out:=by first|rfl|(simp(disch:=first|omega|fail) only[go_sem,↓reduceIte,Nat.reduceEqDiff,Nat.reduceLeDiff,Nat.reduceSub,Nat.reduceAdd];rfl)) (hok:jb P H F rs:=by first|exact jI|(simp(disch:=first|omega|fail) only[go_sem,↓reduceIte,Nat.reduceEqDiff,Nat.reduceLeDiff,Nat.reduceSub,Nat.reduceAdd])):ju P fn (fun r' l'=>r'=r/\l'=[]) e F H:=by
 subst UI hH;refine rG he ho hok r ⟨[],[]⟩ ?_ ⟨rfl,rfl⟩;have:=gT.free (H:=⟨[],l⟩) (fun _=>true) rfl (BI _) hv;rw[Cn]at this;exact this
def Lo{S:Type}{ok:S->Prop}{J:S->List (Nat×AV)}{G:S->Hp}{μ:S->Nat}{F₀:SG}(l':SF)(s:S)(h1:ok s)(h2:μ s<n)(UK:∀i,aD l i=aD l' i)(h4:⟨B,l'⟩=G s)(h3:jL F (mg (J s) (mT W F₀))):Next n W ok J G μ F₀ F ⟨B,l⟩:=
 ⟨s,h2,(dJ.perm l' UK).trans (by rw[<-h4];exact dJ.pt _ h3),h1⟩
structure Lw(R R':RS):Prop where
 nf:R'.nf<=R.nf
 low:∀k,k+1<R'.nf->nth R'.aw k=nth R.aw k
 len:R'.aw.length=R.aw.length
 st:R'.status=R.status\/(R'.status=2/\R'.nf=0)
def Lw.refl(R:RS):Lw R R:=⟨Nat.le_refl _,fun _ _=>rfl,rfl,.inl rfl⟩
theorem Lw.trans{a b c:RS}(h:Lw a b)(k:Lw b c):Lw a c:=⟨Nat.le_trans k.nf h.nf,fun i hi=>(k.low i hi).trans (h.low i (by have:=k.nf;omega)),k.len.trans h.len,by
 rcases k.st with e|e
 ·rcases h.st with e'|e'
  ·exact .inl (e.trans e')
  ·exact .inr ⟨e.trans e'.1,by have:=k.nf;omega⟩
 ·exact .inr e⟩
def A5(h:R.nf<=R.aw.length)(h1:1<=R.nf)(f:aH):Lw R (R.aS (R.nf-1) f):=⟨Nat.le_refl _,fun k hk=>by have hk:k+1<R.nf:=hk;rw[RS.aY jB,jN],RS.aO.symm,.inl rfl⟩
def xz(h:R.nf<=R.aw.length)(h1:1<=R.nf):Lw R R.on:=A5 h h1 _
def zu(h:R.nf<=R.aw.length)(h1:1<=R.nf)(p:ab)(a:Int)(v:ak):Lw R (R.store p a v):=
 (A5 h h1 _).trans (xz (R:=R.dK p a v) (by show R.nf<=(R.aw.set _ _).length;simpa using h) h1)
def FU(h:R.nf<=R.aw.length)(h1:1<=R.nf)(b:Int):Lw R (R.aX b):=A5 h h1 _
def HF(R:RS):Lw R R.pop:=⟨Nat.sub_le _ _,fun _ _=>rfl,rfl,.inl rfl⟩
def Hi(h:R.nf<=R.aw.length)(p:ab)(v:ak):Lw R (R.bq p v):=by
 unfold RS.bq;split
 ·rename_i e;exact⟨Nat.sub_le _ _,fun _ _=>rfl,rfl,.inr ⟨rfl,by show R.nf-1=0;omega⟩⟩
 ·have h1:1<=R.pop.nf:=by show 1<=R.nf-1;omega
  have h2:R.pop.nf<=R.pop.aw.length:=by show R.nf-1<=R.aw.length;omega
  split
  ·exact(HF R).trans (zu h2 h1 _ _ _)
  ·exact(HF R).trans (xz h2 h1)
theorem xB(p:ab):∀(n:Nat) (R:RS),R.nf<=R.aw.length->(R.status≠2->1<=R.nf)->Lw R (js p n R)
 |0,R,_,_=>Lw.refl R
 |n+1,R,h,h1=>by
  unfold js;split
  ·exact Lw.refl R
  rename_i e;have hn:=h1 e;split
  ·have ht:=Hi h p (vZ (nth p.aa.aq R.ah.fn.toNat).ret);refine ht.trans (xB p n _ (by have:=ht.nf;have:=ht.len;omega) fun e2=>?_);unfold RS.bq at e2 ⊢;split
   ·rename_i e3;rw[if_pos e3]at e2;exact(e2 rfl).elim
   ·split<;>(show 1<=R.nf-1;omega)
  split
  ·exact Lw.refl R
  ·have hc:Lw R R.cut:=⟨Nat.le_refl _,fun k hk=>by
    have hk:k+1<R.nf:=hk;show nth (R.aw.set _ _) k=_;rw[Go.Gd.aY _ _ _ _ jB,jN],by show(R.aw.set _ _).length=_;simp,.inl rfl⟩
   exact hc.trans (xB p n _ (by show R.nf<=(R.aw.set _ _).length;simpa using h) h1)
def Ch(p:ab)(a:Int):Prop:=1<=(ao p a).l.length/\(ao p (nth (ao p a).l 0)).kind=21
structure Mv(p:ab)(inp:List Int)(a:Int)(R R':RS):Prop where
 out:∃o:List ByteArray,R'.aC=R.aC++o/\o.length<=1
 hl:R.heap.length<=R'.heap.length
 len:∀k,k<R.heap.length->(nth R'.heap k).length=(nth R.heap k).length
 i0:R.in_<=R'.in_
 i1:R'.in_=R.in_\/R'.in_<=inp.length
 nf:R'.nf<=R.nf\/(R'.nf<=R.nf+1/\Ch p a)
 low:∀k,k+1<R.nf->k+1<R'.nf->nth R'.aw k=nth R.aw k
 st:R'.status=R.status\/(R'.status=2/\R'.nf=0)
 bp:R'.bp=R.bp
def Mv.refl(p:ab)(inp:SI)(a:Int)(R:RS):Mv p inp a R R:=⟨⟨[],jE⟩,Nat.le_refl _,fun _ _=>rfl,Int.le_refl _,.inl rfl,.inl jl,fun _ _ _=>rfl,.inl rfl,rfl⟩
def Mv.lw{p:ab}{inp:SI}{a:Int}{R1 R2:RS}(h:Mv p inp a R R1)(k:Lw R1 R2)(c:Kept R1 R2):Mv p inp a R R2:=
 ⟨by rw[c.aC];exact h.out,by rw[c.heap];exact h.hl,by rw[c.heap];exact h.len,by rw[c.in_];exact h.i0,by rw[c.in_];exact h.i1,by have:=k.nf;exact h.nf.elim (fun e=>.inl jB) fun e=>.inr ⟨jB,e.2⟩,
  fun i h1 h2=>(k.low i h2).trans (h.low i h1 (by have:=k.nf;omega)),by
   rcases k.st with e|e
   ·rcases h.st with e'|e'
    ·exact .inl (e.trans e')
    ·exact .inr ⟨e.trans e'.1,by have:=k.nf;omega⟩
   ·exact .inr e,c.bp.trans h.bp⟩
def Ct(R:RS)(p:ab)(a:Int)(v:ak):Kept R (R.store p a v):=⟨rfl,rfl,rfl,rfl,rfl⟩
def HL(R:RS)(p:ab)(inp:SI)(a x:Int)(hf:R.nf=R.aw.length)(hc:Ch p a):Mv p inp a R (R.call p x).1:=by
 unfold RS.call;simp only;split
 ·exact Mv.refl _ _ _ R
 split
 ·exact Mv.refl _ _ _ R
 ·refine⟨⟨[],by simp[RS.push]⟩,Nat.le_refl _,fun _ _=>rfl,Int.le_refl _,.inl rfl,.inr ⟨Nat.le_refl _,hc⟩,fun k h1 h2=>?_,.inl rfl,rfl⟩;show nth (R.aw++[_]) k=_;rw[lM jB]
def L0(R:RS)(p:ab)(inp:SI)(a x:Int):Mv p inp a R (R.fresh p x).1:=by
 unfold RS.fresh;simp only;split
 ·exact Mv.refl _ _ _ R
 split
 ·exact Mv.refl _ _ _ R
 split
 ·exact Mv.refl _ _ _ R
 ·refine⟨⟨[],jE⟩,by show _<=(R.heap++[_]).length;simp,fun k hk=>?_,Int.le_refl _,.inl rfl,.inl jl,fun _ _ _=>rfl,.inl rfl,rfl⟩;show(nth (R.heap++[_]) k).length=_;rw[lM hk]
def Rw(R:RS)(p:ab)(x:Int):(R.fresh p x).1.nf=R.nf/\(R.fresh p x).1.aw=R.aw:=by
 unfold RS.fresh;simp only
 (repeat' split)<;>exact⟨rfl,rfl⟩
def P6(R:RS)(p:ab)(inp:SI)(a:Int)(h:R.nf<=R.aw.length)(h1:1<=R.nf):Mv p inp a R (R.put p a).1:=by
 unfold RS.put;simp only;split
 ·exact Mv.refl _ _ _ R
 split
 ·exact Mv.refl _ _ _ R
 split
 ·exact Mv.refl _ _ _ R
 ·have hm:∀(i:Nat) (j:Nat) (y:Int),Mv p inp a R { R with heap:=R.heap.set i ((nth R.heap i).set j y) }:=fun i j y=>by
   refine⟨⟨[],jE⟩,by show _<=(R.heap.set _ _).length;simp,fun k hk=>?_,Int.le_refl _,.inl rfl,.inl jl,fun _ _ _=>rfl,.inl rfl,rfl⟩;show(nth (R.heap.set _ _) k).length=_;by_cases e:i<R.heap.length
   ·rw[Go.Gd.aY _ _ _ _ e];split
    ·rename_i e2;subst e2;simp
    ·rfl
   ·rw[List.set_eq_of_length_le jB]
  exact(hm _ _ _).lw (xz (by exact h) h1) ⟨rfl,rfl,rfl,rfl,rfl⟩
structure gZ(lo:Nat)(e:List (Nat×Row)):Prop where
 no:∀i,lo<=i->i<1000->aD e i=none
 nodup:(ids e).Nodup
 closed:∀i r,aD e i=some r->ba (fun i=>(ids e).contains i) r.cells=true
def oq(lo:Nat)(tl:SF):Prop:=∀i r,aD tl i=some r->lo<=i/\i<1000
variable{lo:Nat}
def gZ.bz{e:SF}(h:gZ lo e)(hl:oq lo tl):Lays (fun tl=>e++tl) tl:=⟨fun i=>by rw[oR,List.append_nil],fun i r hi=>by show aD (e++[]) i=none;rw[List.append_nil];exact h.no i (hl i r hi).1 (hl i r hi).2⟩
variable{e':SF}
def cG{args:SG}{e:SF}(hc:ai P f args e fun r l'=>r=r0/\l'=e')(hH:H=⟨B,e++tl⟩)
  (h1:gZ lo e) (h2:gZ lo e') (hs:∀i,aD e i≠none->aD e' i≠none) (hl:oq lo tl) (ha:ba (fun i=>(ids e).contains i) args=true) (h0:bn P f=true) (k:K r0 ⟨B,e'++tl⟩):fz P (.raw (.func (.func f) #[] #[])) args H K:=by
 subst hH;refine mZ h0 (zI (E:=fun tl=>e++tl) (E':=fun tl=>e'++tl) ?_ (h1.bz hl) (h2.bz hl) ?_ ?_ ?_ k ?_)
 ·simp only[List.append_nil];exact hc
 ·simp only[List.append_nil];exact h2.nodup
 ·simp only[List.append_nil];exact ha
 ·simp only[List.append_nil];exact h1.closed
 ·simp only[List.append_nil];exact hs
def fR(lo:Nat):SP:=fun i=>decide (lo<=i/\i<1000)
theorem gZ.fR{lo:Nat}{e:SF}(h:gZ lo e){i:Nat}(hi:i∈ids e):fR lo i=false:=by
 unfold Go.Gd.fR;refine decide_eq_false fun h'=>?_
 exact(kz _ _).1 hi (h.no i h'.1 h'.2)
def gZ.free{e0:SF}(k1:gZ lo e0)(k2:gZ lo e')(hB:ids e0=B)(hl:oq lo tl) :
  B.all (fu (Go.Gd.fR lo))=true/\gp (Go.Gd.fR lo) (e'++tl)/\eP (Go.Gd.fR lo) (e'++tl)=e':=by
 have V8:∀i∈ids tl,Go.Gd.fR lo i=true:=fun i hi=>by obtain⟨r,hr⟩:=Option.ne_none_iff_exists'.1 ((kz _ _).1 hi);exact decide_eq_true (hl i r hr)
 refine⟨?_,?_,?_⟩
 ·rw[List.all_eq_true];intro i hi;rw[<-hB]at hi;unfold fu;rw[k1.fR hi];rfl
 ·refine vS _ _ _ (vo _ _ k2.nodup fun i r hi=>fM (fun j hj=>?_) _ (k2.closed i r hi)) (yu _ _ V8);unfold fu;rw[k2.fR (List.contains_iff_mem.1 hj)];rfl
 ·rw[wl,vW _ _ (fun i hi=>k2.fR hi),yF _ _ V8,List.append_nil]
def hn(a k:Nat):Nat:=1000+(32*k+a)
def ja(a k:Nat):1000<=hn a k:=Nat.le_add_right _ _
def xa{b k j:Nat}(ha:a<32)(hb:b<32)(h:hn a k=hn b j):a=b/\k=j:=by unfold hn at h;omega
@[go_sem] def j8v(a k n:Nat)(h:n<1000):(hn a k=n)=False:=by have:=ja a k;simp;omega
@[go_sem] def j8K(a k n:Nat)(h:n<1000):(n=hn a k)=False:=by have:=ja a k;simp;omega
@[go_sem] def j4G(a b k j:Nat)(ha:a<32)(hb:b<32)(h:a≠b):(hn a k=hn b j)=False:=by simp;intro e;exact h (xa ha hb e).1
def dq{b k j:Nat}(ha:a<32)(hb:b<32)(h:a≠b):hn a k≠hn b j:=fun e=>h (xa ha hb e).1
@[go_sem] def jyZ(l:SF)(a k:Nat)(r:Row)(i:Nat):aD (bD l (hn a k) r) i=if i=hn a k then some r else aD l i:=cd _ _ _ _
def o5:∀(l:SF) (i j:Nat) (r:Row),j∈ids (bD l i r)<->j=i\/j∈ids l:=fun l i j r=>by rw[kz,kz,cd];by_cases e:j=i<;>simp[e]
theorem Gz:∀(l:SF) (i:Nat) (r:Row),(ids l).Nodup->(ids (bD l i r)).Nodup
 |[],i,r,_=>by simp[bD,ids]
 |(j,s)::l,i,r,h=>by
  have hc:=List.nodup_cons.1 h;unfold bD;split
  ·rename_i e;subst e;exact h
  ·rename_i e;refine List.nodup_cons.2 ⟨fun hm=>?_,Gz l i r hc.2⟩;rcases(o5 l i j r).1 hm with h1|h1
   ·exact e h1.symm
   ·exact hc.1 h1
variable{i:Nat}
def gZ.put{e:SF}{r:Row}(h:gZ lo e)(hi:i<lo\/1000<=i)(hr:ba (fun j=>decide (j=i) || (ids e).contains j) r.cells=true):gZ lo (bD e i r):=by
 have hm:∀j,(decide (j=i) || (ids e).contains j)=true->(ids (bD e i r)).contains j=true:=fun j hj=>by
  rw[List.contains_iff_mem,o5];rcases Bool.or_eq_true _ _ ▸ hj with h1|h1
  ·exact .inl (of_decide_eq_true h1)
  ·exact .inr (List.contains_iff_mem.1 h1)
 refine⟨fun j h1 h2=>?_,Gz _ _ _ h.nodup,fun j s hs=>?_⟩
 ·rw[cd,jN];exact h.no j h1 h2
 ·rw[cd]at hs;split at hs
  ·cases hs;exact fM hm _ hr
  ·exact fM (fun k hk=>hm k (by rw[Bool.or_eq_true];exact .inr hk)) _ (h.closed j s hs)
structure Up(X:List Nat)(e l:List (Nat×Row)):Prop where
 bj:∀i,aD e i≠none->aD l i≠none
 new:∀i,aD l i≠none->aD e i≠none\/i ∉ X
def Up.refl(X:SJ)(e:SF):Up X e e:=⟨fun _ h=>h,fun _ h=>.inl h⟩
def Up.trans{X:SJ}{a b c:SF}(h:Up X a b)(k:Up X b c):Up X a c:=⟨fun i hi=>k.bj i (h.bj i hi),fun i hi=>(k.new i hi).elim (h.new i) .inr⟩
def Up.put{X:SJ}{e:SF}(r:Row)(h:aD e i≠none\/i ∉ X):Up X e (bD e i r):=⟨fun j hj=>by
 rw[cd];split
 ·simp
 ·exact hj,fun j hj=>by
 rw[cd]at hj;split at hj
 ·rename_i e';subst e';exact h
 ·exact .inl hj⟩
def ru(X:SJ):Nat:=1+X.foldl max 0
theorem EL:∀(X:SJ) (a:Nat),a<=X.foldl max a/\∀x∈X,x<=X.foldl max a
 |[],a=>⟨Nat.le_refl _,by simp⟩
 |y::X,a=>by
  obtain⟨h1,h2⟩:=EL X (max a y);refine⟨Nat.le_trans (Nat.le_max_left _ _) h1,fun x hx=>?_⟩;rcases List.mem_cons.1 hx with rfl|hx
  ·exact Nat.le_trans (Nat.le_max_right _ _) h1
  ·exact h2 x hx
def Ry(X:SJ){x:Nat}(h:x∈X):x<ru X:=by have:=(EL X 0).2 x h;unfold ru;omega
def A1(X:SJ)(a d:Nat):hn a (ru X+d) ∉ X:=fun h=>by have:=Ry X h;unfold hn at this;omega
def yt(e:SF)(X:SJ)(a d:Nat):aD e (hn a (ru (ids e++X)+d))=none:=by
 cases h:aD e (hn a (ru (ids e++X)+d))with
 |none=>rfl
 |some r=>exact(A1 (ids e++X) a d (List.mem_append_left _ ((kz _ _).2 (by rw[h];simp)))).elim
def yU(e:SF)(X:SJ)(a d:Nat):hn a (ru (ids e++X)+d) ∉ X:=fun h=>A1 (ids e++X) a d (List.mem_append_right _ h)
def ai.more{args:SG}{s e:SF}{R:AV->List SS->Prop}(hc:ai P f args s R)(hs:∀i r,aD s i=some r->aD e i=some r)(ha:ba (fun i=>(ids s).contains i) args=true)(S9:∀i r,aD s i=some r->ba (fun i=>(ids s).contains i) r.cells=true)
  (hn:∀r l,R r l->(ids l).Nodup/\∀i,aD l i≠none->aD s i≠none\/aD e i=none):ai P f args e fun r l=>∃l0,R r l0/\l=jR e l0:=fun w vs hw hv=>by
 refine(zz (H:=entry e) (K:=fun r H'=>∃l0,R r l0/\H'=⟨ids e,jR e l0⟩) hc (fun i r hi=>hs i r hi) ha S9 (fun r l' hR=>⟨fun i x hx=>?_,(hn r l' hR).1,l',hR,rfl⟩) hw hv).mono ?_
 ·rcases(hn r l' hR).2 i (by rw[hx];simp)with h|h
  ·obtain⟨y,hy⟩:=Option.ne_none_iff_exists'.1 h;exact .inl (x9 hy)
  ·exact .inr h
 ·rintro e' W ⟨v,r,H',w',rfl,rfl,⟨l0,hR,rfl⟩,g1,g2,g3⟩;exact⟨v,r,_,w',rfl,rfl,⟨l0,hR,rfl⟩,g1,g2,g3.qC⟩
def tie(e tl:SF):SF:=e++tl
def D1(e:SF):e=tie e []:=(List.append_nil e).symm
@[go_sem] def l7(e tl:SF)(i:Nat):aD (tie e tl) i=(aD e i).or (aD tl i):=oR _ _ _
theorem EH:∀(e tl:SF) (i:Nat) (r:Row),bD (e++tl) i r=if(aD e i).isSome=true then bD e i r++tl else e++bD tl i r
 |[],tl,i,r=>by simp[aD,bD]
 |(j,s)::e,tl,i,r=>by
  show(if i=j then(i,r)::(e++tl)else(j,s)::bD (e++tl) i r)=if((if i=j then some s else aD e i):Option Row).isSome=true then(if i=j then(i,r)::e else(j,s)::bD e i r)++tl else(j,s)::(e++bD tl i r)
  by_cases h:i=j
  ·subst h;simp
  ·simp only[if_neg h];rw[EH e tl i r];split<;>rfl
@[go_sem] def j4N(e tl:SF)(i:Nat)(r:Row):bD (tie e tl) i r=if(aD e i).isSome=true then tie (bD e i r) tl else tie e (bD tl i r):=EH _ _ _ _
attribute [go_sem] Option.some_or Option.none_or Option.isSome_some Option.isSome_none
def gZ.low{e:SF}(h:gZ 0 e):∀i,i<1000->aD e i=none:=fun i hi=>h.no i (Nat.zero_le _) hi
def fg:oq 0 []:=fun i r h=>by cases h
def fk{T:SF}{r:Row}(h:i<1000)(hT:oq 0 T):oq 0 ((i,r)::T):=fun j s hs=>by
 simp only[aD]at hs;split at hs
 ·omega
 ·exact hT j s hs
structure eY(P:Program)(f:FuncId)(args:List AV)(e:List (Nat×Row))(r0:AV)(l:List (Nat×Row)):Prop where
 c:ai P f args e fun r l'=>r=r0/\l'=l
 e1:gZ 0 e
 e2:gZ 0 l
 bj:∀i,aD e i≠none->aD l i≠none
 a:ba (fun i=>(ids e).contains i) args=true
def cT{args:SG}{e:SF}{q:Prop}(hd:eY P f args e r0 l)(k:q)(h0:bn P f=true:=by exact dT)(hl:oq 0 tl:=by(repeat' first|exact fg|(refine fk (by decide) ?_)|fail))(e0:K r0 ⟨B,tie l tl⟩=q:=by exact fq):fz P (.raw (.func (.func f) #[] #[])) args ⟨B,tie e tl⟩ K:=
 cG hd.c rfl hd.e1 hd.e2 hd.bj hl hd.a h0 (e0 ▸ k)
@[go_sem] def EB(a k:Nat):fR 0 (hn a k)=false:=decide_eq_false (by have:=ja a k;omega)
def fL{L:SF}{out:SG}{ex:Exit}{e:SF}(hB:ids e=B)(k1:gZ 0 e)(k2:gZ 0 l)(hp:∀i,aD L i=aD (tie l tl) i)(hl:oq 0 tl)(rs:List ResultVar)
  (hr:r0.all (fu (fR 0))=true:=by first|rfl|(simp only[go_sem,AV.all,ba,fu,EB];done))
  (UI:fn.results.toList=rs:=by rfl) (he:ex=.normal\/ex=.ret:=by first|exact Or.inr rfl|exact Or.inl rfl|fail) (ho:iC P ⟨B,L⟩ F rs=some out:=by first|rfl|(simp(disch:=first|omega|fail) only[go_sem,↓reduceIte,Nat.reduceEqDiff,Nat.reduceLeDiff,Nat.reduceSub,Nat.reduceAdd];rfl)) (hok:jb P ⟨B,L⟩ F rs:=by first|exact jI|(simp(disch:=first|omega|fail) only[go_sem,↓reduceIte,Nat.reduceEqDiff,Nat.reduceLeDiff,Nat.reduceSub,Nat.reduceAdd])) (hv:iG out=r0:=by first|rfl|(simp only[go_sem];done)):ju P fn (fun r l'=>r=r0/\l'=l) ex F ⟨B,L⟩:=by
 subst UI;obtain⟨h1,h2,h3⟩:=k1.free k2 hB hl;have:=gT.free (r:=iG out) (r':=r0) (H:=⟨B,l++tl⟩) (Go.Gd.fR 0) h1 h2 (tE hv (hv ▸ hr));rw[show(Hp.mk B (l++tl)).l=l++tl from rfl,h3]at this;exact rG he ho hok r0 ⟨B,l⟩ ((zd (B:=B) (l:=L) (l++tl) hp).trans this) ⟨rfl,rfl⟩
mutual
def AV.eW:AV->Bool
 |.raw _=>true
 |.any=>true
 |.agg cs=>lH cs
 |.bf cs=>lH cs
 |.gd _ v=>v.eW
 |.pt _ _ _ _=>true
 |.rs _ _ _ _=>true
 |.rv _ _ _ _ _=>true
 |.mr _=>true
 |_=>false
def lH:SG->Bool
 |[]=>true
 |a::l=>a.eW && lH l
end
theorem zo:∀{l:SG},lH l=true->∀{i:Nat} {a:AV},l[i]?=some a->a.eW=true
 |[],_,i,a,h=>by simp at h
 |x::l,hl,i,a,h=>by
  simp only[lH,Bool.and_eq_true]at hl;cases i with
  |zero=>simp at h;subst h;exact hl.1
  |succ i=>exact zo hl.2 (by simpa using h)
theorem Jb:∀(l m:SG),lH (l++m)=(lH l && lH m)
 |[],m=>by simp[lH]
 |a::l,m=>by simp only[List.cons_append,lH,Jb l m,Bool.and_assoc]
def RA{l:SE}(h:∀x∈l,lH x=true):lH l.flatten=true:=by
 induction l with
 |nil=>rfl
 |cons x l ih=>rw[List.flatten_cons,Jb,h x jE,ih fun y hy=>h y (by simp[hy])];rfl
theorem aB.eW{w:NW}{a:AV}{v:Value}(h:aB w a v):∀{w':NW},(∀i m z,w.nm i m=some z->w'.nm i m=some z)->a.eW=true->aB w' a v:=by
 induction h with
 |raw v=>intro w' _ _;exact .raw v
 |any v=>intro w' _ _;exact .any v
 |agg cs vs hl _ ih=>intro w' k ha;simp only[AV.eW]at ha;exact .agg cs vs hl fun i a v h1 h2=>ih i a v h1 h2 k (zo ha h1)
 |bf cs vs hl _ ih=>intro w' k ha;simp only[AV.eW]at ha;exact .bf cs vs hl fun i a v h1 h2=>ih i a v h1 h2 k (zo ha h1)
 |gd p a v _ hu ih=>intro w' k ha;exact .gd p a v (fun hp=>ih hp k (by simpa only[AV.eW]using ha)) hu
 |pt i m o j b t s h=>intro w' k _;exact .pt i m o j b t s (k _ _ _ h)
 |iV i m sz A h=>intro w' k _;exact .iV i m sz A (k _ _ _ h)
 |rs i m sz n b t c h hc hn hs=>intro w' k _;exact .rs i m sz n b t c (k _ _ _ h) hc hn hs
 |lV i m sz o c A=>intro w' _ _;exact .lV i m sz o c A
 |rv i m sz o n b t c h hn=>intro w' k _;exact .rv i m sz o n b t c (k _ _ _ h) hn
 |mr i b t s h=>intro w' k _;exact .mr i b t s (k _ _ _ h)
 |gw=>intro w' _ ha;simp only[AV.eW]at ha;cases ha
 |sl=>intro w' _ ha;simp only[AV.eW]at ha;cases ha
 |ip=>intro w' _ ha;simp only[AV.eW]at ha;cases ha
 |fZ=>intro w' _ ha;simp only[AV.eW]at ha;cases ha
 |bd=>intro w' _ ha;simp only[AV.eW]at ha;cases ha
 |kZ=>intro w' _ ha;simp only[AV.eW]at ha;cases ha
variable{P:SQ}{f:FuncId}{args':SG}{H:Hp}
def O0{args:SG}{R:AV->List SS->Prop}(hc:ai P f args' [] R)(hv:∀w vs,aT w H->bC w args vs->bC (w.cQ fun _=>true) args' vs)
  (hk:∀r l,R r l->(∀i,aD l i≠none->H.get i=none)/\r.eW=true/\(∀i row,aD l i=some row->lH row.cells=true)) {w:NW} {vs:SN} (h1:aT w H) (h2:bC w args vs) :
  Calls P f vs w.toWorld fun e W=>∃v r l w',W=NW.toWorld w'/\e=.returned v/\R r l/\aT w' ⟨H.B,l++H.l⟩/\aB w' r v/\Ext w H w' ⟨H.B,l++H.l⟩/\∀b,b<w.heap.size->w'.heap[b]?=w.heap[b]?:=by
 have XL:aT (w.cQ fun _=>true) (entry []):={
  rows:=fun i r h=>by cases h
  dZ:=fun i m z h=>by cases h
  inj:=fun i m j n b t s t' s' h _=>by cases h
  own:=fun i m b t s h=>by cases h
  fin:=fun b hb=>h1.fin b hb.1
  cv:=h1.cv.bj (rQ w fun _=>true) }
 refine(hc (w.cQ fun _=>true) vs XL (hv w vs h1 h2)).mono ?_;rintro e W ⟨v,r,H',w',rfl,rfl,hR,g1,g2,g3⟩;obtain⟨k1,k2,k3⟩:=hk r H'.l hR;have Uv:∀b,b<w.heap.size->w'.heap[b]?=w.heap[b]?:=fun b hb=>by
  classical
  by_cases hO:(w.cQ fun _=>true).O b
  ·exact(g3.rest b hb hO fun i m t s h=>by cases h).1
  ·exact(g3.free b hb hO).1
 have Tb:∀i m z,w.nm i m=some z->w'.nm i m=none:=fun i m z hz=>by
  obtain⟨r',Vj,_⟩:=h1.dZ i m z hz;cases e:w'.nm i m with
  |none=>rfl
  |some z'=> obtain⟨r2,WG,_⟩:=g1.dZ i m z' e;have:=k1 i (by show aD H'.l i≠none;have WG:aD H'.l i=some r2:=WG;rw[WG];simp);rw[this]at Vj;cases Vj
 have XQ:∀i m b t s,w.nm i m=some (.at b t s)->¬w'.O b:=fun i m b t s hz=>by refine(g3.free b (h1.lt hz) fun hO=>hO.2 i m t s rfl hz).2
 let w2:NW:={ w' with O:=fun b=>w.O b\/w'.O b,nm:=fun i m=>(w'.nm i m).or (w.nm i m) }
 have T8:∀i m,w2.nm i m=(w'.nm i m).or (w.nm i m):=fun _ _=>rfl
 have up:∀i m z,w'.nm i m=some z->w2.nm i m=some z:=fun i m z h=>by rw[T8,h];rfl
 have W2:Keep sy w w2:=⟨g3.size,fun b hb hO=>⟨Uv b hb,fun h=>h.elim hO (g3.free b hb fun h=>hO h.1).2⟩,fun i m z _ h=>by rw[T8,Tb i m z h];exact h⟩;have ex:Ext w H w2 ⟨H.B,H'.l++H.l⟩:={ W2 with
  os:=g3.os,tape:=g3.tape,output:=g3.output
  rest:=fun b hb hO Td=>⟨Uv b hb,.inl hO,fun i m t s h=>by
   rw[T8]at h;cases e:w'.nm i m with
   |none=>rw[e]at h;exact Td _ _ _ _ h
   |some z=> rw[e]at h;cases h;exact(g3.rest b hb ⟨hO,fun i m t s _=>Td i m t s⟩ fun i m t s h=>by cases h).2.2 i m t s e⟩
  base:=rfl }
 have gE:∀i,(Hp.mk H.B (H'.l++H.l)).get i=(aD H'.l i).or (H.get i):=fun i=>oR _ _ _
 refine⟨v,r,H'.l,w2,rfl,rfl,hR,{ cv:=h1.cv.bj W2,rows:=fun i s hi=>?_,dZ:=fun i m z hz=>?_,inj:=fun i m j n b t s t' s' a1 a2=>?_,own:=fun i m b t s h=>?_,fin:=fun b hb=>?_ },g2.eW up k2,ex,Uv⟩
 ·rw[gE]at hi;cases e:aD H'.l i with
  |some x=>
   rw[e]at hi;cases hi;obtain⟨e1,z,e2,e3⟩:=g1.rows i s e;refine⟨e1,z,up _ _ _ e2,?_⟩;cases z with
   |nil=>exact e3
   |«at» b t st=> obtain⟨c1,cur,c2,c3,c4⟩:=e3;exact⟨c1,cur,c2,c3,fun j a u ha hu=>(c4 j a u ha hu).eW up (zo (k3 i s e) ha)⟩
  |none=>
   rw[e]at hi;have hi:H.get i=some s:=hi;obtain⟨e1,z,e2,e3⟩:=h1.rows i s hi;refine⟨e1,z,W2.names _ _ _ rfl e2,?_⟩;refine e3.ext ex fun b t st ez=>?_
   subst ez;exact Uv b (h1.lt e2)
 ·rw[T8]at hz;cases e:w'.nm i m with
  |some z'=> obtain⟨r',c1,c2⟩:=g1.dZ i m z' e;exact⟨r',by rw[gE,show aD H'.l i=some r' from c1];rfl,c2⟩
  |none=>
   rw[e]at hz;obtain⟨r',c1,c2⟩:=h1.dZ i m z hz;refine⟨r',?_,c2⟩;rw[gE];cases e2:aD H'.l i with
   |none=>exact c1
   |some x=>have:=k1 i (by rw[e2];simp);rw[this]at c1;cases c1
 ·rw[T8]at a1 a2;cases e1:w'.nm i m with
  |some z1=>
   rw[e1]at a1;cases a1;cases e2:w'.nm j n with
   |some z2=>rw[e2]at a2;cases a2;exact g1.inj _ _ _ _ _ _ _ _ _ e1 e2
   |none=>rw[e2]at a2;exact(XQ _ _ _ _ _ a2 (g1.own _ _ _ _ _ e1)).elim
  |none=>
   rw[e1]at a1;cases e2:w'.nm j n with
   |some z2=>rw[e2]at a2;cases a2;exact(XQ _ _ _ _ _ a1 (g1.own _ _ _ _ _ e2)).elim
   |none=>rw[e2]at a2;exact h1.inj _ _ _ _ _ _ _ _ _ a1 a2
 ·rw[T8]at h;cases e:w'.nm i m with
  |some z=>rw[e]at h;cases h;exact .inr (g1.own _ _ _ _ _ e)
  |none=>rw[e]at h;exact .inl (h1.own _ _ _ _ _ h)
 ·rcases hb with h|h
  ·exact Nat.lt_of_lt_of_le (h1.fin b h) g3.size
  ·exact g1.fin b h
section
variable {P:SQ}{f:FuncId}{args:SG}{B:SJ}{e tl:SF}{r0:AV}{q:Prop}
def fK{c:Code}{Q:Exit->SC}{F:SG}(h:dw P c Q F ⟨B,tie e []⟩):dw P c Q F ⟨B,e⟩:=by rw[D1 e];exact h
def qd{R:AV->Prop}(hd:eY P f args e r0 e)(k:q)(h0:bn P f=true:=by exact dT)(hl:oq 0 tl:=by(repeat' first|exact fg|(refine fk (by decide) ?_)|fail))(e0:R r0=q:=by exact fq) :
  ∃r,(fz P (.raw (.func (.func f) #[] #[])) args ⟨B,tie e tl⟩ fun r' H'=>r'=r/\H'=⟨B,tie e tl⟩)/\R r:=
 ⟨r0,cG (K:=fun r' H'=>r'=r0/\H'=⟨B,tie e tl⟩) hd.c rfl hd.e1 hd.e2 hd.bj hl hd.a h0 ⟨rfl,rfl⟩,e0 ▸ k⟩
end
variable{tl:SF}
def F2{fn:Func}{F:SG}{B:SJ}{L L1:SF}{out:SG}{ex:Exit}{r0:AV}{e l:SF}(hB:ids e=B)(k1:gZ 0 e)(k2:gZ 0 l)(Ta:gT r0 ⟨B,L⟩ r0 ⟨B,L1⟩)(hp:∀i,aD L1 i=aD (tie l tl) i)(hl:oq 0 tl)(rs:List ResultVar)
  (hr:r0.all (fu (fR 0))=true:=by first|rfl|(simp only[go_sem,AV.all,ba,fu,EB];done))
  (UI:fn.results.toList=rs:=by rfl) (he:ex=.normal\/ex=.ret:=by first|exact Or.inr rfl|exact Or.inl rfl|fail) (ho:iC P ⟨B,L⟩ F rs=some out:=by first|rfl|(simp(disch:=first|omega|fail) only[go_sem,↓reduceIte,Nat.reduceEqDiff,Nat.reduceLeDiff,Nat.reduceSub,Nat.reduceAdd];rfl)) (hok:jb P ⟨B,L⟩ F rs:=by first|exact jI|(simp(disch:=first|omega|fail) only[go_sem,↓reduceIte,Nat.reduceEqDiff,Nat.reduceLeDiff,Nat.reduceSub,Nat.reduceAdd])) (hv:iG out=r0:=by first|rfl|(simp only[go_sem];done)):ju P fn (fun r l'=>r=r0/\l'=l) ex F ⟨B,L⟩:=by
 subst UI;obtain⟨h1,h2,h3⟩:=k1.free k2 hB hl;have:=gT.free (r:=r0) (r':=r0) (H:=⟨B,l++tl⟩) (Go.Gd.fR 0) h1 h2 (tE rfl hr);rw[show(Hp.mk B (l++tl)).l=l++tl from rfl,h3]at this;exact rG he ho hok r0 ⟨B,l⟩ (hv ▸ Ta.trans ((zd (B:=B) (l:=L1) (l++tl) hp).trans this)) ⟨rfl,rfl⟩
theorem ua:∀{l:SF} {i:Nat} {r:Row},aD l i=some r->bD l i r=l
 |[],_,_,h=>by cases h
 |(j,s)::l,i,r,h=>by
  have h:(if i=j then some s else aD l i)=some r:=h;show(if i=j then(i,r)::l else(j,s)::bD l i r)=_;by_cases e:i=j
  ·subst e;rw[if_pos rfl]at h ⊢;cases h;rfl
  ·rw[if_neg e]at h ⊢;rw[ua h]
theorem ai.args{P:SQ}{f:FuncId}{args args':SG}{l:SF}{R:AV->List SS->Prop}(hc:ai P f args' l R)(hv:∀w vs,aT w (entry l)->bC w args vs->bC w args' vs):ai P f args l R:=fun w vs h1 h2=>hc w vs h1 (hv w vs h1 h2)
def uJ{w:NW}{a b:AV}{l m:SG}{vs:SN}(h:bC w (a::l) vs)(ZB:∀v,aB w a v->aB w b v)(hlm:∀us,bC w l us->bC w m us):bC w (b::m) vs:=by
 obtain⟨h1,h2⟩:=h;have ht:=hlm (vs.toList.tail.toArray) ⟨by simp at h1 ⊢;omega,fun i x v hx hv=>h2 (i+1) x v (by simpa using hx) (by simpa using hv)⟩;refine⟨?_,fun i x v hx hv=>?_⟩
 ·have:=ht.1;simp at h1 this ⊢;omega
 ·cases i with
  |zero=>simp at hx;subst hx;exact ZB v (h2 0 a v rfl hv)
  |succ i=>exact ht.2 i x v (by simpa using hx) (by simpa using hv)
def Bi{w:NW}(sz:Nat)(d:SG):∀v,aB w (.raw (.slice none 0 0)) v->aB w (.sl false sz [] d) v:=fun v h=>by have:=dH h;subst this;exact .gw _ _ _ _ (fun e=>by cases e)
def Nz{args:SG}(hv:bK (fun _=>true) H args args'):∀w vs,aT w H->bC w args vs->bC (w.cQ fun _=>true) args' vs:=fun w vs h1 h2=>by
 obtain⟨Ur,hg⟩:=hv.get;refine⟨by rw[<-Ur];exact h2.1,fun i c v hc hv=>?_⟩;have hi:i<args.length:=by rw[Ur];exact(List.getElem?_eq_some_iff.1 hc).1
 exact(hg i args[i] c (List.getElem?_eq_getElem hi) hc).sound h1 (h2.2 i _ v (List.getElem?_eq_getElem hi) hv)
def DM{w:NW}{i m sz o n:Nat}{t:SL}{css:SE}{d:SG}(hw:aT w H)(hi:H.get i=some (.aK t sz css))(hm:m=css.length)(hn:o+n<=m)(h0:0<sz)(hq:QL cZ css){v:Value}(h:aB w (.rv i m sz o n) v):aB (w.cQ fun _=>true) (.sl false sz ((css.drop o).take n) d) v:=by
 subst hm;have D':((css.drop o).take n).length=n:=by rw[List.length_take,List.length_drop];omega
 cases h with
 |lV _ _ _ _ c A=> have:(css.drop o).take 0=[]:=jE;rw[this];exact .gw _ _ _ _ (fun h=>by cases h)
 |rv _ _ _ _ _ b t' c Tm Ta=>
  by_cases XA:n=0
  ·subst XA;have:(css.drop o).take 0=[]:=jE;rw[this];exact .gw _ _ _ _ (fun h=>by cases h)
  ·have hok:=(hw.rows i _ hi).1;have:=aB.sl (w:=w.cQ fun _=>true) (d:=d) false sz ((css.drop o).take n) ⟨b,o*sz,none⟩ c (fun k=>(w.cell? ⟨b,o*sz+k,none⟩).getD undef) jB jB (fun h=>by cases h) (fun cs UG=>hok.2 cs (List.mem_of_mem_drop (List.mem_of_mem_take UG))) (hw.lt Tm) (fun h=>h.2 i _ t' sz rfl Tm) (fun k j hk hj=>by
    rw[D']at hk;obtain⟨_,_,_,v,h1,h2⟩:=tM hw hi Tm (k:=o+k) (j:=j) jB hj;show w.cell? _=_;rw[lN];have e:o*sz+(k*sz+j)=(o+k)*sz+j:=by rw[Nat.add_mul];omega
    rw[e,h1];rfl) (fun k j u hk hu=>by
    rw[D']at hk;have e0:((css.drop o).take n).getD k []=css.getD (o+k) []:=by rw[List.getD_eq_getElem?_getD,List.getElem?_take,if_pos hk,List.getElem?_drop,List.getD_eq_getElem?_getD]
    rw[e0]at hu;have TM:css.getD (o+k) []∈css:=by rw[List.getD_eq_getElem?_getD,List.getElem?_eq_getElem jB];exact List.getElem_mem _
    have hj:j<sz:=by have:=(List.getElem?_eq_some_iff.1 hu).1;rwa [hok.2 _ TM]at this
    obtain⟨_,_,_,v,h1,h2⟩:=tM hw hi Tm (k:=o+k) (j:=j) jB hj;have e:o*sz+(k*sz+j)=(o+k)*sz+j:=by rw[Nat.add_mul];omega
    rw[e,h1];exact((h2 u hu).bj (rQ w fun _=>true) (qB (fun _ h=>by cases h) _ (nb (hq _ TM) hu))).lm (nb (hq _ TM) hu))
   rw[D']at this;exact this
def AF{args:SG}{K:SD}{i sz:Nat}{t:SL}{α:Type}[Inhabited α]{enc:α->SG}[he:cc enc sz]{xs:List α}(Uk:∀x,lH (enc x)=true)(hi:H.get i=none)
  (hc:ai P f args' [] fun r l=>r=.rs i xs.length sz xs.length/\l=[(i,.aK t sz (xs.map enc))]) (hv:∀w vs,aT w H->bC w args vs->bC (w.cQ fun _=>true) args' vs) (k:K (bh enc sz xs) H):eu P f args H K:=fun w vs h1 h2=>by
 have Zb:=O0 hc hv (fun r l ⟨e1,e2⟩=>by
  subst e1 e2;refine⟨fun j hj=>?_,rfl,fun j row hj=>?_⟩
  ·by_cases e:j=i
   ·subst e;exact hi
   ·exact(hj (by simp only[aD];rw[if_neg e])).elim
  ·simp only[aD]at hj;split at hj
   ·cases hj;refine RA fun x hx=>?_
    obtain⟨y,_,rfl⟩:=List.mem_map.1 hx;exact Uk y
   ·cases hj) h1 h2
 refine Zb.mono ?_;rintro e W ⟨v,r,l,w',rfl,rfl,⟨rfl,rfl⟩,g1,g2,g3,g4⟩;have g1:aT w' ⟨H.B,(i,.aK t sz (xs.map enc))::H.l⟩:=g1;have haj:∀m,w.nm i m=none:=fun m=>h1.none hi m
 have hgi:(Hp.mk H.B ((i,.aK t sz (xs.map enc))::H.l)).get i=some (.aK t sz (xs.map enc)):=by show(if i=i then _ else _)=_;rw[if_pos rfl]
 have hgj:∀j,j≠i->(Hp.mk H.B ((i,.aK t sz (xs.map enc))::H.l)).get j=H.get j:=fun j hj=>by show(if j=i then _ else _)=_;rw[if_neg hj];rfl
 have ham:=(dM.row (D:=fun j=>decide (j=i)) (dd:=enc default) (enc:=enc) xs jE hgi rfl).sound g1 g2;have k0:=rQ w' (fun j=>decide (j=i));have ex:Ext w H (w'.cQ fun j=>decide (j=i)) H:={
  size:=g3.size
  free:=fun b hb hO=>⟨(g3.free b hb hO).1,fun h=>(g3.free b hb hO).2 h.1⟩
  names:=fun j m z _ hz=>by
   have U9:j≠i:=fun e=>by subst e;rw[haj]at hz;cases hz
   show(if decide (j=i)=true then none else w'.nm j m)=some z;rw[if_neg (by simpa using U9)];exact g3.names j m z rfl hz
  os:=g3.os,tape:=g3.tape,output:=g3.output
  rest:=fun b hb hO Td=>by
   obtain⟨a1,a2,a3⟩:=g3.rest b hb hO Td;refine⟨a1,⟨a2,fun j m t' s _=>a3 j m t' s⟩,fun j m t' s h=>?_⟩;have h:(if decide (j=i)=true then none else w'.nm j m)=some (.at b t' s):=h;split at h
   ·cases h
   ·exact a3 _ _ _ _ h
  base:=rfl }
 refine⟨v,_,H,w'.cQ fun j=>decide (j=i),rfl,rfl,k,{ cv:=g1.cv.bj k0,rows:=fun j s hj=>?_,dZ:=fun j m z hz=>?_,inj:=fun j m j' m' b t1 s1 t2 s2 a1 a2=>?_,own:=fun j m b t1 s1 h=>?_,fin:=fun b hb=>g1.fin b hb.1 },ham,ex⟩
 ·have U9:j≠i:=fun e=>by subst e;rw[hi]at hj;cases hj
  obtain⟨e1,z,e2,e3⟩:=h1.rows j s hj;refine⟨e1,z,ex.names _ _ _ rfl e2,e3.ext ex fun b t1 s1 ez=>?_⟩;subst ez;exact g4 b (h1.lt e2)
 ·have hz:(if decide (j=i)=true then none else w'.nm j m)=some z:=hz;split at hz
  ·cases hz
  ·rename_i e;obtain⟨r',c1,c2⟩:=g1.dZ j m z hz;exact⟨r',by rw[<-hgj j (by simpa using e)];exact c1,c2⟩
 ·have a1:(if decide (j=i)=true then none else w'.nm j m)=_:=a1;have a2:(if decide (j'=i)=true then none else w'.nm j' m')=_:=a2;split at a1
  ·cases a1
  ·split at a2
   ·cases a2
   ·exact g1.inj _ _ _ _ _ _ _ _ _ a1 a2
 ·have h:(if decide (j=i)=true then none else w'.nm j m)=_:=h;split at h
  ·cases h
  ·rename_i e;refine⟨g1.own _ _ _ _ _ h,fun j' m' t' s' hd h'=>e ?_⟩;rw[g1.inj _ _ _ _ _ _ _ _ _ h h'];exact hd
@[go_sem] def j0Z(a k n:Nat)(h:n<1000):(n == hn a k)=false:=by have:=ja a k;simp;omega
@[go_sem] def jw5(a b k j:Nat)(ha:a<32)(hb:b<32)(h:a≠b):(hn a k == hn b j)=false:=by simp;exact dq ha hb h
@[go_sem] def jyB(a k:Nat):(hn a k == hn a k)=true:=jE
@[go_sem] def NY(a k:Nat):hn a k+16=hn (a+16) k:=by unfold hn;omega
theorem Er{A C D:SJ}(hA:A.isEmpty=false){E:SJ}{l:List Oper}{ps:List SJ}:∀(rest done:SJ),o6 (A,C,D) E l ps done rest=o6 ([0],C,D) E l ps done rest
 |[],done=>rfl
 |i::rest,done=>by
  have e1:la (A,C,D)=la ([0],C,D):=rfl;have e2:np (A,C,D) (dR l i)=np ([0],C,D) (dR l i):=by have hA':(A,C,D).1.isEmpty=([0],C,D).1.isEmpty:=hA;unfold np;rw[hA'];rfl
  unfold o6;rw[Er hA rest,e1,e2]
def QZ{A C D:SJ}(hA:A.isEmpty=false){E:SJ}{l:List Oper}{ord:SJ}:o8 (A,C,D) E l ord=o8 ([0],C,D) E l ord:=by unfold o8;rw[Er hA];rfl
def rO{Q:Exit->SC}{F:SG}(id:Nat){l:List Oper}{q:Prop}(A C D E ord:SJ)(hm:P.follows .mixedOrders=true)(h:q)(hA:A.isEmpty=false:=by rfl)(hok:o8 ([0],C,D) E l ord=true:=by decide +kernel)(hE:pK P l E:=by simp only[pK,dR,List.getD_cons_zero,List.getD_cons_succ,go_sem])(e:gh (A,C,D) P l.toArray (Q .normal) (ord.map (dR l)) F H=q:=by(simp only[bo,List.map_cons,List.map_nil,dR,List.getD_cons_zero,List.getD_cons_succ];exact fq)):dw P (.region id l.toArray true) Q F H:=yw (A,C,D) E ord hm (by rw[QZ hA];exact hok) hE (e ▸ h)
def IF(A:AS)(e l:SF):Prop:=∀j,A.1.contains j=false->aD e j≠none->aD l j=aD e j\/(A.1.contains (j+16)=true/\∃t c c' cs,aD e j=some (.var t (c::cs))/\aD l j=some (.var t (c'::cs)))
def qW{A:AS}{args:SG}{B:SJ}{e l:SF}{r0:AV}{g:SD}{d:io fun r H'=>eO A ⟨B,tie e tl⟩ H'/\g r H'}{q:Prop}(hd:eY P f args e r0 l)(hx:IF A e l)(k:q)(h0:bn P f=true:=by exact dT)(hl:oq 0 tl:=by(repeat' first|exact fg|(refine fk (by decide) ?_)|fail))(e0:g r0 ⟨B,tie l tl⟩=q:=by exact fq) :
  fz P (.raw (.func (.func f) #[] #[])) args ⟨B,tie e tl⟩ (AP (fun r H'=>eO A ⟨B,tie e tl⟩ H'/\g r H') d):=by
 refine cG (K:=AP (fun r H'=>eO A ⟨B,tie e tl⟩ H'/\g r H') d) hd.c rfl hd.e1 hd.e2 hd.bj hl hd.a h0 ⟨fun i r hi hr=>?_,e0 ▸ k⟩;have hr:aD (tie e tl) i=some r:=hr;show aD (tie l tl) i=some r\/_/\∃t c c' cs,r=.var t (c::cs)/\aD (tie l tl) i=some (.var t (c'::cs));rw[l7]at hr ⊢;cases he:aD e i with
 |some s=>
  rw[he]at hr;cases hr;rcases hx i hi (by rw[he];simp)with h|⟨h1,t,c,c',cs,h2,h3⟩
  ·left;rw[h,he];rfl
  ·right
   rw[he]at h2;cases h2;exact⟨h1,t,c,c',cs,rfl,by rw[h3];rfl⟩
 |none=>
  rw[he]at hr;have hr:aD tl i=some r:=hr;have:=hl i r hr;left
  rw[hd.e2.low i this.2];exact hr
end Go.Gd
namespace Go.Proofs.YtbjookcdpondlaaGreatDoor
open Go Go.Gd Tryz
variable{p:ab}
def QQ(h:cY p)(R:RS)(hd:bt p R)(inp:SI)(hk:(ao p (bB p R.st)).kind=17)(R':RS)(tr:Int)(S7:(R',tr)=R.bO p (bB p R.st) inp) :
  ai prog 31 [.agg (bV p),.pt 0 0 0 0,rI (bB p R.st),bh eI 1 inp] (R.e 41 [] [] []) (fun r l=>r=rI tr/\l=R'.e 41 [] [] []):=by
 have hok:=hd.inv.ok;have TB:=hok.nf;have h1:=hd.one;have U':=hd.inv.aw;have S9:=nz R.heap;have UU:=hd.cells;have P':=hd.cf h;obtain⟨s0,s1,s2,s3,s4,s5⟩:=hd.stmt h;have Tr:=P'.sl;have UB:=hd.lQ h;generalize bB p R.st=a at*;have SW:(nth p.aa.nodes a.toNat).kind=17:=hk;have V8:∀v,ai prog 47 [.agg (bV p),.pt 0 0 0 0,.agg (bM v)] (R.e 41 [] [] []) (fun r l=>r=.bf []/\l=(R.bq p v).e 41 [] [] []):=fun v=>Jj p v R hok h1 jB (hd.inv.at_ h)
 have D':=fun v=>Hb R p v
 unfold RS.bO at S7;simp only[hk]at S7;rw[jN,jN,jN,if_pos trivial]at S7;rcases(h.ok.aa.shape a.toNat s1).1.ret SW with S6|⟨x,S6,Tu⟩
 ·have Ui:(nth p.aa.nodes a.toNat).l.length=0:=by rw[S6];rfl
  rw[if_pos (show(ao p a).l.length=0 from Ui)]at S7;obtain⟨rfl,rfl⟩:=Prod.mk.inj S7;have ht:=V8 v0;have Uf:=D' v0;generalize R.bq p v0=Z at*;refine aU func31 ntmps31 ?_;generalize hB:ids (R.e 41 [] [] [])=B;generalize hE:Z.e 41 [] [] []=E;refine S ?_
  (have W:=jA SW Ui;repeat' (first|refine aA fun K hK=>?_|refine ax ?_|(refine hK _ _ ?_;clear hK K)|(refine az ?_ ?_<;>intro hc<;>try exact jz)|refine cz 4 ?_|refine cM 5 ?_|refine cM 6 ?_|(refine cE (R:=R) (R':=Z) (pre:=[]) (post:=[]) (pre':=[]) (post':=[]) ht rfl (Nat.le_of_eq Uf.1.symm) (Nat.le_of_eq (congrArg List.length Uf.2.symm)) rfl rfl cO rfl jD ?_;refine S ?_)|refine ay ?_|exact jI|(clear hK K)))
  subst hE;exact gA (R':=Z) (pre':=[]) (post':=[]) rfl hB [.tmp 8] cO rfl rfl rfl
 ·have hb:=(h.ok.aa.shape a.toNat s1).2.1 x (by rw[S6];simp);have SZ:nth (nth p.aa.nodes a.toNat).l 0=x:=by rw[S6];rfl
  have Ui:(nth p.aa.nodes a.toNat).l.length=1:=by rw[S6];rfl
  have Ve:=rf h R hok h1 jB jB x hb.1 jB Tu;rw[if_neg (fun e=>by rw[show(ao p a).l.length=1 from Ui]at e;omega),show nth (ao p a).l 0=x from SZ]at S7;generalize R.val p x=X at*;by_cases hz:X.2=0
  ·rw[if_neg (fun e=>e hz)]at S7;obtain⟨rfl,rfl⟩:=Prod.mk.inj S7;have ht:=V8 X.1;have Uf:=D' X.1;generalize R.bq p X.1=Z at*;refine aU func31 ntmps31 ?_;generalize hB:ids (R.e 41 [] [] [])=B;generalize hE:Z.e 41 [] [] []=E;refine S ?_
   (have W:=jA SW (jA Ui (SZ));repeat' (first|refine aA fun K hK=>?_|refine ax ?_|(with_reducible refine gR 13 ?_);refine dL 13 [] [10] (bo 0 13) mixed ?_|(refine hK _ _ ?_;clear hK K)|(refine az ?_ ?_<;>intro hc<;>try exact jz)|refine cz 4 ?_|refine cM 5 ?_|refine cM 6 ?_|refine cM 7 ?_|(refine cE (R:=R) (R':=R) (pre:=[]) (post:=[]) (pre':=[]) (post':=[]) Ve rfl jl jl rfl rfl cO rfl jD ?_;refine S ?_)|(refine cE (R:=R) (R':=Z) (pre:=[]) (post:=[]) (pre':=[]) (post':=[]) ht rfl (Nat.le_of_eq Uf.1.symm) (Nat.le_of_eq (congrArg List.length Uf.2.symm)) rfl rfl cO rfl jD ?_;refine S ?_)|refine ay ?_|exact jI|(clear hK K)))
   subst hE;exact gA (R':=Z) (pre':=[]) (post':=[]) rfl hB [.tmp 8] cO rfl rfl rfl
  ·rw[if_pos hz]at S7;obtain⟨rfl,rfl⟩:=Prod.mk.inj S7;suffices key2:∀R2:RS,R2=R'->ai prog 31 [.agg (bV p),.pt 0 0 0 0,rI a,bh eI 1 inp] (R'.e 41 [] [] []) (fun r l=>r=rI X.2/\l=R2.e 41 [] [] []) from key2 R' rfl
   intro R2 TO;refine aU func31 ntmps31 ?_;generalize hB:ids (R'.e 41 [] [] [])=B;generalize hE:R2.e 41 [] [] []=E;refine S ?_
   (have W:=jA SW (jA Ui (SZ));repeat' (first|refine aA fun K hK=>?_|refine ax ?_|(with_reducible refine gR 13 ?_);refine dL 13 [] [10] (bo 0 13) mixed ?_|(refine hK _ _ ?_;clear hK K)|(refine az ?_ ?_<;>intro hc<;>try exact jz)|refine cz 4 ?_|refine cM 5 ?_|refine cM 6 ?_|refine cM 7 ?_|(refine cE (R:=R') (R':=R') (pre:=[]) (post:=[]) (pre':=[]) (post':=[]) Ve rfl jl jl rfl rfl cO rfl jD ?_;refine S ?_)|refine ay ?_|exact jI|(clear hK K)))
   subst hE;subst TO;exact gA (R':=R2) (pre':=[]) (post':=[]) rfl hB [.tmp 8] cO rfl rfl rfl
def _root_.Go.Gd.RS.j9(R:RS)(w:SK):RS:={ R with aC:=R.aC++[w] }
def Oa{t:SL}{pre post:SG}{R:RS}{tl:SF}{w:SK}{c0:SG}{o:SE}(hc:c0=pre++(R.j9 w).c++post)(ho:o=R.aC.map eS++[[rS w]]) :
  (0,.var t c0)::(1,.aK 76 3 (eT R.aw.length R.fr))::(2,.aK 22 1 (eT R.heap.length fun k=>[.rs (bJ 2 k) (nth R.heap k).length 1 (nth R.heap k).length]))::(3,.aK 9 1 o) ::
   bX 0 R.aw.length R.sl (bX 1 R.aw.length R.pt (bX 2 R.heap.length R.hp tl))=(R.j9 w).e t pre post tl:=
 RS.oM (R:=R.j9 w) hc rfl (fun _ _=>rfl) rfl (fun _ _=>rfl) (by rw[ho];simp[RS.j9];rfl) rfl rfl rfl (fun _ _=>rfl) (fun _ _=>rfl) (fun _ _=>rfl) rfl
def Si(h:cY p)(R:RS)(hd:bt p R)(inp:SI)(hk:(ao p (bB p R.st)).kind=14)(Xo:∀x:Int,0<=x->x.toNat<p.aa.nodes.length->bT (bA p.aa.nodes x)->dr (R.val p x).1.n)(R':RS)(tr:Int)(S7:(R',tr)=R.bO p (bB p R.st) inp) :
  ai prog 31 [.agg (bV p),.pt 0 0 0 0,rI (bB p R.st),bh eI 1 inp] (R.e 41 [] [] []) (fun r l=>r=rI tr/\l=R'.e 41 [] [] []):=by
 have hok:=hd.inv.ok;have TB:=hok.nf;have h1:=hd.one;have U':=hd.inv.aw;have S9:=nz R.heap;have UU:=hd.cells;have ZC:=hd.outs;have P':=hd.cf h;obtain⟨s0,s1,s2,s3,s4,s5⟩:=hd.stmt h;have Tr:=P'.sl;have UB:=hd.lQ h;have ZD:=hd.ma;have Yy:=P'.pc;rw[ZD]at Yy;have VO:=hd.jp (R.nf-1) jB;generalize bB p R.st=a at*;have SW:(nth p.aa.nodes a.toNat).kind=14:=hk;unfold RS.bO at S7;simp only[hk]at S7;rw[jN,jN,jN,jN]at S7;obtain⟨x,S6,Tu⟩:=(h.ok.aa.shape a.toNat s1).1.one jB;have hb:=(h.ok.aa.shape a.toNat s1).2.1 x (by rw[S6];simp);have SZ:nth (nth p.aa.nodes a.toNat).l 0=x:=by rw[S6];rfl
 have Ui:(nth p.aa.nodes a.toNat).l.length=1:=by rw[S6];rfl
 have Ve:=rf h R hok h1 jB jB x hb.1 jB Tu;have Y8:=Xo x hb.1 jB Tu;rw[show nth (ao p a).l 0=x from SZ]at S7;generalize R.val p x=X at*;have hw5:=PV X.1 Y8;by_cases hz:X.2=0
 rotate_left
 ·rw[if_pos hz]at S7;obtain⟨rfl,rfl⟩:=Prod.mk.inj S7;suffices key2:∀R2:RS,R2=R'->ai prog 31 [.agg (bV p),.pt 0 0 0 0,rI a,bh eI 1 inp] (R'.e 41 [] [] []) (fun r l=>r=rI (X.2)/\l=R2.e 41 [] [] []) from key2 R' rfl
  intro R2 TO;refine aU func31 ntmps31 ?_;generalize hB:ids (R'.e 41 [] [] [])=B;generalize hE:R2.e 41 [] [] []=E;refine S ?_
  (have W:=jA SW (jA Ui (SZ));repeat' (first|refine aA fun K hK=>?_|refine ax ?_|(with_reducible refine gR 19 ?_);refine dL 19 [] [10] (bo 0 13) mixed ?_|(refine hK _ _ ?_;clear hK K)|(refine az ?_ ?_<;>intro hc<;>try exact jz)|refine cz 4 ?_|refine cM 5 ?_|refine cM 6 ?_|(refine cE (R:=R') (R':=R') (pre:=[]) (post:=[]) (pre':=[]) (post':=[]) Ve rfl jl jl rfl rfl cO rfl jD ?_;refine S ?_)|refine ay ?_|exact jI|(clear hK K)))
  subst hE;subst TO;exact gA (R':=R2) (pre':=[]) (post':=[]) rfl hB [.tmp 8] cO rfl rfl rfl
 rw[if_neg (fun e=>e hz),if_pos trivial]at S7;by_cases ho:24<=R.aC.length
 ·rw[if_pos ho]at S7;obtain⟨rfl,rfl⟩:=Prod.mk.inj S7;suffices key2:∀R2:RS,R2=R'->ai prog 31 [.agg (bV p),.pt 0 0 0 0,rI a,bh eI 1 inp] (R'.e 41 [] [] []) (fun r l=>r=rI (5)/\l=R2.e 41 [] [] []) from key2 R' rfl
  intro R2 TO;refine aU func31 ntmps31 ?_;generalize hB:ids (R'.e 41 [] [] [])=B;generalize hE:R2.e 41 [] [] []=E;refine S ?_
  (have W:=jA SW (jA Ui (SZ));repeat' (first|refine aA fun K hK=>?_|refine ax ?_|(with_reducible refine gR 19 ?_);refine dL 19 [] [10] (bo 0 13) mixed ?_|(refine hK _ _ ?_;clear hK K)|(refine az ?_ ?_<;>intro hc<;>try exact jz)|refine cz 4 ?_|refine cM 5 ?_|refine cM 6 ?_|(refine cE (R:=R') (R':=R') (pre:=[]) (post:=[]) (pre':=[]) (post':=[]) Ve rfl jl jl rfl rfl cO rfl jD ?_;refine S ?_)|refine ay ?_|exact jI|(clear hK K)))
  subst hE;subst TO;exact gA (R':=R2) (pre':=[]) (post':=[]) rfl hB [.tmp 8] cO rfl rfl rfl
 rw[if_neg ho]at S7;obtain⟨rfl,rfl⟩:=Prod.mk.inj S7;have V':=uA (R.j9 (iN X.1)) (BC UB rfl rfl rfl);show ai _ _ _ _ (fun r l=>r=rI 0/\l=(R.j9 (iN X.1)).on.e 41 [] [] []);refine aU func31 ntmps31 ?_;generalize hB:ids (R.e 41 [] [] [])=B;generalize hE:((R.j9 (iN X.1)).on).e 41 [] [] []=E;refine S ?_
 (have W:=jA SW (jA Ui (SZ));repeat' (first|refine aA fun K hK=>?_|refine ax ?_|(with_reducible refine gR 19 ?_);refine dL 19 [] [10] (bo 0 13) mixed ?_|(with_reducible refine gR 26 ?_);refine dC 26 ([],[100],[]) [] (bo 0 12) mixed ?_|(refine hK _ _ ?_;clear hK K)|(refine az ?_ ?_<;>intro hc<;>try exact jz)|refine cz 4 ?_|refine cM 5 ?_|refine cM 6 ?_|(refine cE (R:=R) (R':=R) (pre:=[]) (post:=[]) (pre':=[]) (post':=[]) Ve rfl jl jl rfl rfl cO rfl jD ?_;refine S ?_)|refine cq (hw5) ?_|(refine cE (R:=R.j9 (iN X.1)) (R':=(R.j9 (iN X.1)).on) (pre:=[]) (post:=[]) (pre':=[]) (post':=[]) V' (congrArg (Hp.mk B) (Oa (by simp[RS.c,RS.j9]) rfl)) (Nat.le_of_eq RS.aO) jl rfl rfl cO rfl jD ?_;refine S ?_)|refine ay ?_|exact jI|(clear hK K)))
 subst hE;exact gA (R':=(R.j9 (iN X.1)).on) (pre':=[]) (post':=[]) rfl hB [.tmp 8] cO rfl rfl rfl
def Om(h:cY p)(R:RS)(hd:bt p R)(inp:SI)(hk:(ao p (bB p R.st)).kind=16)(R':RS)(tr:Int)(S7:(R',tr)=R.bO p (bB p R.st) inp) :
  ai prog 31 [.agg (bV p),.pt 0 0 0 0,rI (bB p R.st),bh eI 1 inp] (R.e 41 [] [] []) (fun r l=>r=rI tr/\l=R'.e 41 [] [] []):=by
 have hok:=hd.inv.ok;have TB:=hok.nf;have h1:=hd.one;have U':=hd.inv.aw;have S9:=nz R.heap;have UU:=hd.cells;have ZC:=hd.outs;have P':=hd.cf h;obtain⟨s0,s1,s2,s3,s4,s5⟩:=hd.stmt h;have Tr:=P'.sl;have UB:=hd.lQ h;have ZD:=hd.ma;have Yy:=P'.pc;rw[ZD]at Yy;have VO:=hd.jp (R.nf-1) jB;generalize bB p R.st=a at*;have SW:(nth p.aa.nodes a.toNat).kind=16:=hk;unfold RS.bO at S7;simp only[hk]at S7;rw[jN,jN,jN,jN]at S7;obtain⟨x,y,S6,Tu,hyB⟩:=(h.ok.aa.shape a.toNat s1).1.dS SW;have hb:=(h.ok.aa.shape a.toNat s1).2.1 x (by rw[S6];simp);have SZ:nth (nth p.aa.nodes a.toNat).l 0=x:=by rw[S6];rfl
 have UX:nth (nth p.aa.nodes a.toNat).l 1=y:=by rw[S6];rfl
 have Ui:(nth p.aa.nodes a.toNat).l.length=2:=by rw[S6];rfl
 have Ve:=rf h R hok h1 jB jB x hb.1 jB Tu;rw[show nth (ao p a).l 0=x from SZ,show nth (ao p a).l 1=y from UX]at S7;generalize R.val p x=X at*;by_cases hz:X.2=0
 rotate_left
 ·rw[if_pos hz]at S7;obtain⟨rfl,rfl⟩:=Prod.mk.inj S7;suffices key2:∀R2:RS,R2=R'->ai prog 31 [.agg (bV p),.pt 0 0 0 0,rI a,bh eI 1 inp] (R'.e 41 [] [] []) (fun r l=>r=rI (X.2)/\l=R2.e 41 [] [] []) from key2 R' rfl
  intro R2 TO;refine aU func31 ntmps31 ?_;generalize hB:ids (R'.e 41 [] [] [])=B;generalize hE:R2.e 41 [] [] []=E;refine S ?_
  (have W:=jA SW (jA Ui (SZ));repeat' (first|refine aA fun K hK=>?_|refine ax ?_|(with_reducible refine gR 19 ?_);refine dL 19 [] [10] (bo 0 13) mixed ?_|(refine hK _ _ ?_;clear hK K)|(refine az ?_ ?_<;>intro hc<;>try exact jz)|refine cz 4 ?_|refine cM 5 ?_|refine cM 6 ?_|(refine cE (R:=R') (R':=R') (pre:=[]) (post:=[]) (pre':=[]) (post':=[]) Ve rfl jl jl rfl rfl cO rfl jD ?_;refine S ?_)|refine ay ?_|exact jI|(clear hK K)))
  subst hE;subst TO;exact gA (R':=R2) (pre':=[]) (post':=[]) rfl hB [.tmp 8] cO rfl rfl rfl
 rw[if_neg (fun e=>e hz),jN,jN,if_pos trivial]at S7;by_cases TH:X.1.n=1
 ·rw[if_pos TH]at S7;obtain⟨rfl,rfl⟩:=Prod.mk.inj S7;have Ww:=DI R y hok h1 jB VO Yy;refine aU func31 ntmps31 ?_;generalize hB:ids (R.e 41 [] [] [])=B;generalize hE:(R.aX y).e 41 [] [] []=E;refine S ?_
  (have W:=jA SW (jA Ui (jA SZ (UX)));repeat' (first|refine aA fun K hK=>?_|refine ax ?_|(with_reducible refine gR 19 ?_);refine dL 19 [] [10] (bo 0 13) mixed ?_|(refine hK _ _ ?_;clear hK K)|(refine az ?_ ?_<;>intro hc<;>try exact jz)|refine cz 4 ?_|refine cM 5 ?_|refine cM 6 ?_|(refine cE (R:=R) (R':=R) (pre:=[]) (post:=[]) (pre':=[]) (post':=[]) Ve rfl jl jl rfl rfl cO rfl jD ?_;refine S ?_)|(refine cE (R:=R) (R':=(R).aX y) (pre:=[]) (post:=[]) (pre':=[]) (post':=[]) Ww rfl (Nat.le_of_eq RS.aO) jl rfl rfl cO rfl jD ?_;refine S ?_)|refine ay ?_|exact jI|(clear hK K)))
  subst hE;exact gA (R':=R.aX y) (pre':=[]) (post':=[]) rfl hB [.tmp 8] cO rfl rfl rfl
 ·rw[if_neg TH]at S7;obtain⟨rfl,rfl⟩:=Prod.mk.inj S7;have V':=uA R UB;refine aU func31 ntmps31 ?_;generalize hB:ids (R.e 41 [] [] [])=B;generalize hE:(R.on).e 41 [] [] []=E;refine S ?_
  (have W:=jA SW (jA Ui (jA SZ (UX)));repeat' (first|refine aA fun K hK=>?_|refine ax ?_|(with_reducible refine gR 19 ?_);refine dL 19 [] [10] (bo 0 13) mixed ?_|(refine hK _ _ ?_;clear hK K)|(refine az ?_ ?_<;>intro hc<;>try exact jz)|refine cz 4 ?_|refine cM 5 ?_|refine cM 6 ?_|(refine cE (R:=R) (R':=R) (pre:=[]) (post:=[]) (pre':=[]) (post':=[]) Ve rfl jl jl rfl rfl cO rfl jD ?_;refine S ?_)|(refine cE (R:=R) (R':=(R).on) (pre:=[]) (post:=[]) (pre':=[]) (post':=[]) V' rfl (Nat.le_of_eq RS.aO) jl rfl rfl cO rfl jD ?_;refine S ?_)|refine ay ?_|exact jI|(clear hK K)))
  subst hE;exact gA (R':=R.on) (pre':=[]) (post':=[]) rfl hB [.tmp 8] cO rfl rfl rfl
def PS(h:cY p)(R:RS)(hd:bt p R)(inp:SI)(hk:(ao p (bB p R.st)).kind=15)(R':RS)(tr:Int)(S7:(R',tr)=R.bO p (bB p R.st) inp) :
  ai prog 31 [.agg (bV p),.pt 0 0 0 0,rI (bB p R.st),bh eI 1 inp] (R.e 41 [] [] []) (fun r l=>r=rI tr/\l=R'.e 41 [] [] []):=by
 have hok:=hd.inv.ok;have TB:=hok.nf;have h1:=hd.one;have U':=hd.inv.aw;have S9:=nz R.heap;have UU:=hd.cells;have P':=hd.cf h;obtain⟨s0,s1,s2,s3,s4,s5⟩:=hd.stmt h;have Tr:=P'.sl;have UB:=hd.lQ h;have ZD:=hd.ma;have Yy:=P'.pc;rw[ZD]at Yy;have VO:=hd.jp (R.nf-1) jB;generalize bB p R.st=a at*;have SW:(nth p.aa.nodes a.toNat).kind=15:=hk;unfold RS.bO at S7;simp only[hk]at S7;rw[jN,jN,jN,jN]at S7;obtain⟨x,y,Tu,hyB,TK⟩:=(h.ok.aa.shape a.toNat s1).1.kI SW;have SZ:nth (nth p.aa.nodes a.toNat).l 0=x:=by rcases TK with e|⟨d,e,_⟩<;>(rw[e];rfl)
 have UX:nth (nth p.aa.nodes a.toNat).l 1=y:=by rcases TK with e|⟨d,e,_⟩<;>(rw[e];rfl)
 have hll0:2<=(nth p.aa.nodes a.toNat).l.length:=by rcases TK with e|⟨d,e,_⟩<;>(rw[e];simp)
 have hb:=(h.ok.aa.shape a.toNat s1).2.1 x (by rcases TK with e|⟨d,e,_⟩<;>(rw[e];simp));have Ve:=rf h R hok h1 jB jB x hb.1 jB Tu;rw[show nth (ao p a).l 0=x from SZ,show nth (ao p a).l 1=y from UX]at S7;generalize R.val p x=X at*;have V':=uA R UB;have Ww:∀b,ai prog 59 [.pt 0 0 0 0,rI b] (R.on.e 41 [] [] []) (fun r l=>r=.bf []/\l=(R.on.aX b).e 41 [] [] []):=fun b=>by have D':R.on.aw.length=R.aw.length:=RS.aO.symm;have T4:R.on.ah=fN R.ah:=RS.gu hok h1 _;refine DI R.on b ⟨by show R.nf<=R.on.aw.length;omega,by show R.jp.length=R.on.aw.length;rw[D'];exact hok.jp⟩ h1 jB VO ?_;rw[T4];show(R.ah.path.set _ _).length<=1000;rw[List.length_set];exact Yy
 by_cases hz:X.2=0
 rotate_left
 ·rw[if_pos hz]at S7;obtain⟨rfl,rfl⟩:=Prod.mk.inj S7;suffices key2:∀R2:RS,R2=R'->ai prog 31 [.agg (bV p),.pt 0 0 0 0,rI a,bh eI 1 inp] (R'.e 41 [] [] []) (fun r l=>r=rI (X.2)/\l=R2.e 41 [] [] []) from key2 R' rfl
  intro R2 TO;refine aU func31 ntmps31 ?_;generalize hB:ids (R'.e 41 [] [] [])=B;generalize hE:R2.e 41 [] [] []=E;refine S ?_
  (have W:=jA SW SZ;repeat' (first|refine aA fun K hK=>?_|refine ax ?_|(with_reducible refine gR 19 ?_);refine dL 19 [] [10] (bo 0 13) mixed ?_|(refine hK _ _ ?_;clear hK K)|(refine az ?_ ?_<;>intro hc<;>try exact jz)|refine cz 4 ?_|refine cM 5 ?_|refine cM 6 ?_|(refine cE (R:=R') (R':=R') (pre:=[]) (post:=[]) (pre':=[]) (post':=[]) Ve rfl jl jl rfl rfl cO rfl jD ?_;refine S ?_)|refine ay ?_|exact jI|(clear hK K)))
  subst hE;subst TO;exact gA (R':=R2) (pre':=[]) (post':=[]) rfl hB [.tmp 8] cO rfl rfl rfl
 rw[if_neg (fun e=>e hz),jN,if_pos trivial]at S7;by_cases TH:X.1.n=1
 ·rw[if_pos TH]at S7;obtain⟨rfl,rfl⟩:=Prod.mk.inj S7;have hdy:=Ww y;refine aU func31 ntmps31 ?_;generalize hB:ids (R.e 41 [] [] [])=B;generalize hE:(R.on.aX y).e 41 [] [] []=E;refine S ?_
  (have W:=jA SW (jA SZ (UX));repeat' (first|refine aA fun K hK=>?_|refine ax ?_|(with_reducible refine gR 19 ?_);refine dL 19 [] [10] (bo 0 13) mixed ?_|(refine hK _ _ ?_;clear hK K)|(refine az ?_ ?_<;>intro hc<;>try exact jz)|refine cz 4 ?_|refine cM 5 ?_|refine cM 6 ?_|(refine cE (R:=R) (R':=R) (pre:=[]) (post:=[]) (pre':=[]) (post':=[]) Ve rfl jl jl rfl rfl cO rfl jD ?_;refine S ?_)|(refine cE (R:=R) (R':=(R).on) (pre:=[]) (post:=[]) (pre':=[]) (post':=[]) V' rfl (Nat.le_of_eq RS.aO) jl rfl rfl cO rfl jD ?_;refine S ?_)|(refine cE (R:=R.on) (R':=R.on.aX y) (pre:=[]) (post:=[]) (pre':=[]) (post':=[]) hdy rfl (Nat.le_of_eq RS.aO) jl rfl rfl cO rfl jD ?_;refine S ?_)|refine ay ?_|exact jI|(clear hK K)))
  subst hE;exact gA (R':=R.on.aX y) (pre':=[]) (post':=[]) rfl hB [.tmp 8] cO rfl rfl rfl
 rw[if_neg TH]at S7;rcases TK with e|⟨d,e,hdB⟩
 ·have Ui:(nth p.aa.nodes a.toNat).l.length=2:=by rw[e];rfl
  rw[if_neg (fun e=>by rw[show(ao p a).l.length=2 from Ui]at e;omega)]at S7;obtain⟨rfl,rfl⟩:=Prod.mk.inj S7;refine aU func31 ntmps31 ?_;generalize hB:ids (R.e 41 [] [] [])=B;generalize hE:(R.on).e 41 [] [] []=E;refine S ?_
  (have W:=jA SW (jA SZ (Ui));repeat' (first|refine aA fun K hK=>?_|refine ax ?_|(with_reducible refine gR 19 ?_);refine dL 19 [] [10] (bo 0 13) mixed ?_|(refine hK _ _ ?_;clear hK K)|(refine az ?_ ?_<;>intro hc<;>try exact jz)|refine cz 4 ?_|refine cM 5 ?_|refine cM 6 ?_|(refine cE (R:=R) (R':=R) (pre:=[]) (post:=[]) (pre':=[]) (post':=[]) Ve rfl jl jl rfl rfl cO rfl jD ?_;refine S ?_)|(refine cE (R:=R) (R':=(R).on) (pre:=[]) (post:=[]) (pre':=[]) (post':=[]) V' rfl (Nat.le_of_eq RS.aO) jl rfl rfl cO rfl jD ?_;refine S ?_)|refine ay ?_|exact jI|(clear hK K)))
  subst hE;exact gA (R':=R.on) (pre':=[]) (post':=[]) rfl hB [.tmp 8] cO rfl rfl rfl
 ·have Ui:(nth p.aa.nodes a.toNat).l.length=3:=by rw[e];rfl
  have hd0:nth (nth p.aa.nodes a.toNat).l 2=d:=by rw[e];rfl
  rw[if_pos (by rw[show(ao p a).l.length=3 from Ui]),show nth (ao p a).l 2=d from hd0]at S7;obtain⟨rfl,rfl⟩:=Prod.mk.inj S7;have hdd:=Ww d;refine aU func31 ntmps31 ?_;generalize hB:ids (R.e 41 [] [] [])=B;generalize hE:(R.on.aX d).e 41 [] [] []=E;refine S ?_
  (have W:=jA SW (jA SZ (jA Ui (hd0)));repeat' (first|refine aA fun K hK=>?_|refine ax ?_|(with_reducible refine gR 19 ?_);refine dL 19 [] [10] (bo 0 13) mixed ?_|(refine hK _ _ ?_;clear hK K)|(refine az ?_ ?_<;>intro hc<;>try exact jz)|refine cz 4 ?_|refine cM 5 ?_|refine cM 6 ?_|(refine cE (R:=R) (R':=R) (pre:=[]) (post:=[]) (pre':=[]) (post':=[]) Ve rfl jl jl rfl rfl cO rfl jD ?_;refine S ?_)|(refine cE (R:=R) (R':=(R).on) (pre:=[]) (post:=[]) (pre':=[]) (post':=[]) V' rfl (Nat.le_of_eq RS.aO) jl rfl rfl cO rfl jD ?_;refine S ?_)|(refine cE (R:=R.on) (R':=R.on.aX d) (pre:=[]) (post:=[]) (pre':=[]) (post':=[]) hdd rfl (Nat.le_of_eq RS.aO) jl rfl rfl cO rfl jD ?_;refine S ?_)|refine ay ?_|exact jI|(clear hK K)))
  subst hE;exact gA (R':=R.on.aX d) (pre':=[]) (post':=[]) rfl hB [.tmp 8] cO rfl rfl rfl
def Qs(h:cY p)(R:RS)(hd:bt p R)(inp:SI)(hn:inp.length<=1000)(hw:¬kn p R.st (bB p R.st) inp)(Xo:∀x:Int,0<=x->x.toNat<p.aa.nodes.length->bT (bA p.aa.nodes x)->dr (R.val p x).1.n) :
  ai prog 31 [.agg (bV p),.pt 0 0 0 0,rI (bB p R.st),bh eI 1 inp] (R.e 41 [] [] []) (fun r l=>r=rI (R.bO p (bB p R.st) inp).2/\l=(R.bO p (bB p R.st) inp).1.e 41 [] [] []):=by
 obtain⟨s0,s1,s2,_⟩:=hd.stmt h;have s2:10<=(ao p (bB p R.st)).kind/\(ao p (bB p R.st)).kind<=17:=s2;by_cases k1:(ao p (bB p R.st)).kind=10\/(ao p (bB p R.st)).kind=11
 ·have:=Ou h R hd inp hn k1 hw;rw[show R.bO p (bB p R.st) inp=R.right p (bB p R.st) inp by unfold RS.bO;simp only;rw[if_pos k1]];exact this
 by_cases k2:(ao p (bB p R.st)).kind=13
 ·have:=KE h R hd inp k2;rw[show R.bO p (bB p R.st) inp=R.call p (nth (ao p (bB p R.st)).l 0) by unfold RS.bO;simp only;rw[if_neg k1,if_pos k2]];exact this
 by_cases k3:(ao p (bB p R.st)).kind=12
 ·have:=OT h R hd inp k3;rw[show R.bO p (bB p R.st) inp=R.put p (bB p R.st) by unfold RS.bO;simp only;rw[if_neg k1,if_neg k2,if_pos k3]];exact this
 by_cases k4:(ao p (bB p R.st)).kind=17
 ·exact QQ h R hd inp k4 _ _ rfl
 by_cases k5:(ao p (bB p R.st)).kind=14
 ·exact Si h R hd inp k5 Xo _ _ rfl
 by_cases k6:(ao p (bB p R.st)).kind=15
 ·exact PS h R hd inp k6 _ _ rfl
 ·exact Om h R hd inp jB _ _ rfl
def Kb(s:aM)(h1:s.ap.length<=1000)(h2:s.heap.length<=1000)(h3:s.aC.length<=1000)(h4:∀k,k<s.ap.length->(nth s.ap k).slots.length<=1000/\(nth s.ap k).path.length<=1000)(h5:∀k,k<s.heap.length->(nth s.heap k).length<=1000) :
  ai prog 30 [.agg (dD s)] [] (fun r l=>r=.agg (RS.of s).c/\l=(RS.of s).rows):=by
 generalize hR:RS.of s=R;refine aU func30 ntmps30 ?_
 (repeat' (first|refine aA fun K hK=>?_|refine ax ?_|(refine hK _ _ ?_;clear hK K)|(refine az ?_ ?_<;>intro hc<;>try exact jz)|refine cz 4 ?_|refine cM 5 ?_|refine cM 6 ?_|refine pm 3 ?_|refine ay ?_|exact jI|(clear hK K)))
 refine iJ (dJ.fB 1 6 0 76 3 rfl jC rfl rfl) ?_;refine iJ (dJ.fB 2 6 1 22 1 rfl jC rfl rfl) ?_
 (refine S ?_;try exact jI)
 have Tc:=hK;clear hK;refine fa (S:=Nat) [(4,2),(15,28)] (fun k=>k<=s.ap.length) (fun k=>[(4,rI k)])
  (fun k=>⟨[],(4,.var 41 (dD s))::(5,.var 41 [.raw (.slice none 0 0),.raw (.slice none 0 0),rI 0,.raw (.slice none 0 0),rI 0,rI 0,rI 0])::(6,.var 41 [.rs 1 k 3 k,.rs 2 0 1 0,rI s.in_,.rs 3 s.aC.length 1 s.aC.length,rI s.status,rI s.bp,rI s.time])::(3,.aK 9 1 (s.aC.map eS))::(1,.aK 76 3 (eT k R.fr))::(2,.aK 22 1 [])::bX 0 k R.sl (bX 1 k R.pt [])⟩)
  (fun k=>s.ap.length-k) 0 jB (fb ?_ cI) ?_
 ·rfl
 rintro k hk Kr S8;by_cases Vw:k<s.ap.length
 ·obtain⟨g1,g2⟩:=h4 k Vw;have U':kS (nth s.ap k)=[rI (nth s.ap k).fn,bh bM 3 (nth s.ap k).slots,bh iU 2 (nth s.ap k).path]:=rfl;refine S ?_
  (have W:=U';repeat' (first|refine aA fun K hK=>?_|refine ax ?_|(refine hK _ _ ?_;clear hK K)|(refine az ?_ ?_<;>intro hc<;>try exact jz)|refine cM 7 ?_|refine pm (bJ 0 k) ?_|refine pm (bJ 1 k) ?_|refine pm 8 ?_|refine ay ?_|exact jI|(clear hK K)))
  have hRf:∀j,j<k+1->(if j=k then[rI (nth s.ap k).fn,.rs (bJ 0 k) (nth s.ap k).slots.length 3 (nth s.ap k).slots.length,.rs (bJ 1 k) (nth s.ap k).path.length 2 (nth s.ap k).path.length]else R.fr j)=R.fr j:=fun j hj=>by
   split
   ·rename_i e;subst e;subst hR;unfold RS.fr;rw[show nth (RS.of s).jp j=[] from CO _ _ _ Vw];rfl
   ·rfl
  have hg0:=lK 0 k;have TU:=lK 1 k;have UE:bJ 1 k≠bJ 0 k:=fun e=>by have:=(sk jB jB e).1;omega
  refine S8 _ _ (Ii ((4,.var 41 (dD s))::(5,.var 41 [.raw (.slice none 0 0),.raw (.slice none 0 0),rI 0,.raw (.slice none 0 0),rI 0,rI 0,rI 0])::(6,.var 41 [.rs 1 (k+1) 3 (k+1),.rs 2 0 1 0,rI s.in_,.rs 3 s.aC.length 1 s.aC.length,rI s.status,rI s.bp,rI s.time])::(3,.aK 9 1 (s.aC.map eS))::(1,.aK 76 3 (eT (k+1) R.fr))::(2,.aK 22 1 []) ::
   bX 0 (k+1) R.sl (bX 1 (k+1) R.pt [(7,.var 76 [rI (nth s.ap k).fn,.rs (bJ 0 k) (nth s.ap k).slots.length 3 (nth s.ap k).slots.length,.rs (bJ 1 k) (nth s.ap k).path.length 2 (nth s.ap k).path.length]),(8,.aK 76 3 [[rI (nth s.ap k).fn,.rs (bJ 0 k) (nth s.ap k).slots.length 3 (nth s.ap k).slots.length,.rs (bJ 1 k) (nth s.ap k).path.length 2 (nth s.ap k).path.length]])]))
   (fun i=>[7,8].contains i) (k+1) jB (by show s.ap.length-(k+1)<s.ap.length-k;omega) (pB _ _ (pB _ _ (pB _ _ (pB _ _ (qK _ ?_ (pB _ _ fun i=>?_)))))) rfl ?_ ?_ ?_)
  ·exact congrArg (Row.aK _ _) (vM rfl hRf)
  ·refine(oc 0 k R.sl (fun i=>oc 1 k R.pt (l':=[_,_]++[(bJ 1 k,.aK 94 2 ((nth s.ap k).path.map iU)),(bJ 0 k,.aK 82 3 ((nth s.ap k).slots.map bM))]) (fun i=>?_) i) i).trans (Hv (h:=0) (q:=R.hp) R.sl R.pt (fun _ _=>rfl) (fun _ _=>rfl) ?_ ?_ cO i)
   ·simp only[aD,List.cons_append,List.nil_append];repeat' split
    all_goals first
     |rfl
     |omega
   ·subst hR;rfl
   ·subst hR;unfold RS.pt;rw[show nth (RS.of s).jp k=[] from CO _ _ _ Vw,List.append_nil];rfl
  ·refine⟨.inr (xe _ _),.inr rfl,.inr rfl,.inr (jo (enc:=eS) (sz:=1) _),.inr (yj fun j _=>?_),.inr (Bh _),xk (fun j _=>G8 _ _ _) (xk (fun j _=>D6 _ _ _) ⟨.inl rfl,.inl rfl,trivial⟩)⟩;simp only[RS.fr,ba,AV.all,fu,tn (L:=[7,8]) rfl];rfl
  ·show Hp.mk [] (_::_::_::_::_::_::eP _ (bX 0 _ _ _))=_;rw[xt (tn rfl 0),xt (tn rfl 1)];rfl
  ·exact lU
 ·have VV:k=s.ap.length:=jB;subst VV;refine S ?_
  (repeat' (first|refine aA fun K hK=>?_|refine ax ?_|(refine hK _ _ ?_;clear hK K)|(refine az ?_ ?_<;>intro hc<;>try exact jz)|refine Tc _ _ ?_|refine ay ?_|exact jI|(clear hK K)))
  have hKp:=hK;clear hK;refine fa (S:=Nat) [(6,1),(43,19)] (fun j=>j<=s.heap.length) (fun j=>[(6,rI j)])
   (fun j=>⟨[],(4,.var 41 (dD s))::(5,.var 41 [.raw (.slice none 0 0),.raw (.slice none 0 0),rI 0,.raw (.slice none 0 0),rI 0,rI 0,rI 0])::(6,.var 41 [.rs 1 s.ap.length 3 s.ap.length,.rs 2 j 1 j,rI s.in_,.rs 3 s.aC.length 1 s.aC.length,rI s.status,rI s.bp,rI s.time])::(3,.aK 9 1 (s.aC.map eS))::(1,.aK 76 3 (eT s.ap.length R.fr))::(2,.aK 22 1 (eT j fun k=>[.rs (bJ 2 k) (nth s.heap k).length 1 (nth s.heap k).length]))::bX 0 s.ap.length R.sl (bX 1 s.ap.length R.pt (bX 2 j R.hp []))⟩)
   (fun j=>s.heap.length-j) 0 jB (fb rfl cI) ?_
  rintro j hj Ks Zz;by_cases Xw:j<s.heap.length
  ·have g3:=h5 j Xw;refine S ?_
   (repeat' (first|refine aA fun K hK=>?_|refine ax ?_|(with_reducible refine gR 15 ?_);refine dC 15 ([],[],[58,59]) [] (bo 0 13) mixed ?_|(refine hK _ _ ?_;clear hK K)|(refine az ?_ ?_<;>intro hc<;>try exact jz)|refine NP (bJ 2 j) ?_|refine BO 8 ?_|refine ay ?_|exact jI|(clear hK K)))
   have hRp:∀i,i<j+1->(if i=j then[AV.rs (bJ 2 j) (nth s.heap j).length 1 (nth s.heap j).length]else[AV.rs (bJ 2 i) (nth s.heap i).length 1 (nth s.heap i).length])=[AV.rs (bJ 2 i) (nth s.heap i).length 1 (nth s.heap i).length]:=fun i hi=>by
    split
    ·rename_i e;subst e;rfl
    ·rfl
   have UE:=lK 2 j;refine Zz _ _ (Ii ((4,.var 41 (dD s))::(5,.var 41 [.raw (.slice none 0 0),.raw (.slice none 0 0),rI 0,.raw (.slice none 0 0),rI 0,rI 0,rI 0])::(6,.var 41 [.rs 1 s.ap.length 3 s.ap.length,.rs 2 (j+1) 1 (j+1),rI s.in_,.rs 3 s.aC.length 1 s.aC.length,rI s.status,rI s.bp,rI s.time])::(3,.aK 9 1 (s.aC.map eS))::(1,.aK 76 3 (eT s.ap.length R.fr))::(2,.aK 22 1 (eT (j+1) fun k=>[.rs (bJ 2 k) (nth s.heap k).length 1 (nth s.heap k).length])) ::
    bX 0 s.ap.length R.sl (bX 1 s.ap.length R.pt (bX 2 (j+1) R.hp [(8,.aK 22 1 [[.rs (bJ 2 j) (nth s.heap j).length 1 (nth s.heap j).length]])])))
    (fun i=>[8].contains i) (j+1) jB (by show s.heap.length-(j+1)<s.heap.length-j;omega) (pB _ _ (pB _ _ (pB _ _ (pB _ _ (pB _ _ (qK _ ?_ fun i=>?_)))))) rfl ?_ ?_ ?_)
   ·exact congrArg (Row.aK _ _) (vM rfl hRp)
   ·refine(oc 0 _ R.sl (fun i=>oc 1 _ R.pt (fun i=>oc 2 j R.hp (l':=[_]++[(bJ 2 j,.aK 3 1 ((nth s.heap j).map eI))]) (fun i=>?_) i) i) i).trans (E2 R.hp (fun _ _=>rfl) ?_ cO i)
    ·simp only[aD,List.cons_append,List.nil_append];repeat' split
     all_goals first
      |rfl
      |omega
    ·subst hR;unfold RS.hp;rfl
   ·refine⟨.inr (xe _ _),.inr rfl,.inr rfl,.inr (jo (enc:=eS) (sz:=1) _),.inr (yj fun j _=>?_),.inr (yj fun j _=>?_),xk (fun j _=>G8 _ _ _) (xk (fun j _=>D6 _ _ _) (xk (fun j _=>PY _ _ _) ⟨.inl rfl,trivial⟩))⟩
    ·simp only[RS.fr,ba,AV.all,fu,tn (L:=[8]) rfl];rfl
    ·simp only[ba,AV.all,fu,tn (L:=[8]) rfl];rfl
   ·show Hp.mk [] (_::_::_::_::_::_::eP _ (bX 0 _ _ _))=_;rw[xt (tn rfl 0),xt (tn rfl 1),xt (tn rfl 2)];rfl
   ·exact lU
  ·have hje:j=s.heap.length:=jB;subst hje;refine S ?_
   (repeat' (first|refine aA fun K hK=>?_|refine ax ?_|(refine hK _ _ ?_;clear hK K)|(refine az ?_ ?_<;>intro hc<;>try exact jz)|(refine hKp _ _ ?_)|refine ay ?_|exact jI|(clear hK K)))
   refine RZ (l':=R.fh [(4,.var 41 (dD s)),(5,.var 41 R.c),(6,.var 41 R.c)]) (fun i=>?_) [.cell 2 41] ?_ ?_ ?_ ?_
   ·subst hR;rw[RS.eQ,oR];by_cases i4:i=4
    ·subst i4;rw[RS.iz 4 jB jB];rfl
    by_cases i5:i=5
    ·subst i5;rw[RS.iz 5 jB jB];rfl
    by_cases i6:i=6
    ·subst i6;rw[RS.iz 6 jB jB];rfl
    rw[show aD [(4,Row.var 41 (dD s)),(5,.var 41 (RS.of s).c),(6,.var 41 (RS.of s).c)] i=none by simp only[aD,if_neg i4,if_neg i5,if_neg i6],Option.or_none];unfold RS.rows;simp only[aD,if_neg i4,if_neg i5,if_neg i6];by_cases i1:i=1
    ·subst i1;rfl
    by_cases i2:i=2
    ·subst i2;rfl
    by_cases i3:i=3
    ·subst i3;rfl
    simp only[if_neg i1,if_neg i2,if_neg i3];rfl
   ·subst hR;rfl
   ·exact(RS.free (t:=0) (pre:=[]) (post:=[]) (R:=R) (t':=0) (pre':=[]) (post':=[]) (R':=R) rfl cO rfl rfl).2.1.2
   ·rfl
   ·have:=(RS.free (t:=0) (pre:=[]) (post:=[]) (R:=R) (t':=0) (pre':=[]) (post':=[]) (R':=R) (tl:=[(4,.var 41 (dD s)),(5,.var 41 R.c),(6,.var 41 R.c)]) rfl cO rfl rfl).2.2;exact(List.cons.inj this).2
def wP{α:Type}[Inhabited α]{a b:List α}(hl:a.length=b.length)(h:∀j,j<a.length->nth a j=nth b j):a=b:=by apply List.ext_getElem hl;intro i h1 h2;have:=h i h1;rwa [dV h1,dV h2]at this
def Mx(a b:SI)(ha:a.length<=1000000000):aP prog 49 [bh eI 1 a,bh eI 1 b] (rB (decide (a=b))):=by
 refine df func49 ntmps49 ?_
 (repeat' (first|refine aA fun K hK=>?_|refine ax ?_|(refine hK _ _ ?_;clear hK K)|(refine az ?_ ?_<;>intro hc<;>try exact jz)|refine ay ?_|exact jI|(clear hK K)))
 ·(refine bG [.tmp 4] ?_;try simp only[go_sem])
  rw[show decide (a=b)=false from decide_eq_false fun h=>hc (by rw[h])]
 have hl:a.length=b.length:=jB;have Tc:=hK;clear hK;refine fa (S:=Nat) [(4,2),(11,15)] (fun k=>k<=a.length/\∀j,j<k->nth a j=nth b j) (fun k=>[(5,rI k)]) (fun k=>⟨[],[]⟩) (fun k=>a.length-k) 0 ⟨jB,fun j h=>jB⟩ (fb jD cI) ?_;rintro k ⟨Te,S5⟩ Kr S8;refine S ?_
 (repeat' (first|refine aA fun K hK=>?_|refine ax ?_|(with_reducible refine gR 6 ?_);refine dE 6 (bo 0 9) mixed ?_|(refine hK _ _ ?_;clear hK K)|(refine az ?_ ?_<;>intro hc<;>try exact jz)|refine Tc _ _ ?_|refine ay ?_|exact jI|(clear hK K)))
 ·(refine bG [.tmp 4] ?_;try simp only[go_sem])
  rw[show decide (a=b)=false from decide_eq_false fun h=>hc (by rw[h])]
 ·refine S8 _ _ (fc (k+1) ⟨jB,fun j hj=>?_⟩ jJ jD cI);by_cases h:j<k
  ·exact S5 j h
  ·rw[show j=k from jB];exact hc
 ·(refine bG [.tmp 4] ?_;try simp only[go_sem])
  rw[show decide (a=b)=true from decide_eq_true (wP hl fun j hj=>S5 j jB)]
def GL(n:Int):dr (IntKind.i64.wrap n):=by unfold dr;rw[IntKind.wrap_i64];omega
def nT:dr 0:=by unfold dr;omega
def yx(b:Bool):dr (vB b).n:=by cases b<;>(show dr _;unfold vB dr;simp)
def Ku{a b:Int}(h:dr a):dr (a.tmod b):=by
 unfold dr at*;by_cases h0:0<=a
 ·have h1:0<=a.tmod b:=Int.tmod_nonneg b h0;have h2:a.tmod b<=a:=by
   have:=Int.mul_tdiv_add_tmod a b;by_cases hb:b=0
   ·subst hb;simp
   ·have hn:=Int.natAbs_tmod a b;have:(a.tmod b).natAbs<=a.natAbs:=by rw[hn];exact Nat.mod_le _ _
    omega
  omega
 ·have hn:=Int.natAbs_tmod a b;have:(a.tmod b).natAbs<=a.natAbs:=by rw[hn];exact Nat.mod_le _ _
  have h3:a.tmod b<=0:=by have:=Int.tmod_nonneg b (a:=-a) jB;rw[Int.neg_tmod]at this;omega
  omega
def NV(s:SK){a b:Int}(ha:dr a):dr (qA s a b).1.n:=by
 unfold qA
 (repeat' split)<;>first|exact GL _|exact nT|exact yx _|exact Ku ha
def Qj(s:SK){a b:ak}(ha:dr a.n):dr (jq s a b).1.n:=by
 unfold jq
 (repeat' split)<;>first|exact NV _ ha|exact nT|exact yx _
def Ix(s:SK)(a:ak):dr (jX s a).n:=by
 unfold jX
 (repeat' split)<;>first|exact GL _|exact nT|exact yx _
def pi(l:List ak):Prop:=∀v∈l,dr v.n
def Df(h:SH):Prop:=∀l∈h,∀x∈l,dr x
def LM(p:ab):Prop:=∀k,k<p.aa.nodes.length->(nth p.aa.nodes k).kind=1->dr (nth p.aa.nodes k).n
theorem qe.dr{p:ab}(h:qe p):LM p:=fun k hk h1=>by
 obtain⟨s,hs,e⟩:=(h.aa.shape k hk).1.num h1;have Ta:=He hs;have XB:qo s=(kK s.data.toList 0:Nat):=by unfold qo;rw[BK s hs.2.2 _ jl,List.take_of_length_le jE]
 rw[e,XB];unfold Go.Gd.dr;omega
def Mu{l:List ak}(h:pi l)(k t:Int):dr (di l k t).n:=by
 unfold di
 (repeat' split)<;>first|exact nT|exact h _ (er jB)
def Ld{h:SH}(hr:Df h)(v:ak)(k:Nat)(hk:k<(gU h v).length):dr (nth (gU h v) k):=by
 unfold gU at hk ⊢;split at hk
 ·simp at hk
 ·rename_i e;rw[if_neg e];exact hr _ (er jB) _ (er hk)
def oY{c:Prop}[Decidable c]{x y:ak×Int}(h:c->dr x.1.n)(k:¬c->dr y.1.n):dr (if c then x else y).1.n:=by
 by_cases e:c
 ·rw[if_pos e];exact h e
 ·rw[if_neg e];exact k e
theorem IW{p:ab}(h:qe p){slots:List ak}{heap:SH}(h1:pi slots)(h2:Df heap)(h3:∀l∈heap,l.length<=1000000):∀(n:Nat) (a:Int),0<=a->a.toNat<p.aa.nodes.length->a.toNat<n->bT (bA p.aa.nodes a)->dr (de p slots heap n a).1.n
 |0,a,_,_,hn,_=>by omega
 |n+1,a,h0,hl,hn,hk=>by
  have sh:=h.aa.shape a.toNat hl;have hk:1<=(nth p.aa.nodes a.toNat).kind/\(nth p.aa.nodes a.toNat).kind<=9:=hk;have D':∀v:ak,((gU heap v).length:Int)<=1000000:=fun v=>by
   unfold gU;split
   ·simp
   ·have:=h3 _ (er (l:=heap) (k:=(v.n-1).toNat) jB);omega
  have hX:(∃x y,(nth p.aa.nodes a.toNat).l=[x,y]/\bT (bA p.aa.nodes x))\/(∃x,(nth p.aa.nodes a.toNat).l=[x]/\bT (bA p.aa.nodes x))\/(nth p.aa.nodes a.toNat).kind<=4:=by
   by_cases e:(nth p.aa.nodes a.toNat).kind=9
   ·obtain⟨x,y,g1,g2,_⟩:=sh.1.two (.inl e);exact .inl ⟨x,y,g1,g2⟩
   ·by_cases e4:(nth p.aa.nodes a.toNat).kind<=4
    ·exact .inr (.inr e4)
    ·obtain⟨x,g1,g2⟩:=sh.1.one jB;exact .inr (.inl ⟨x,g1,g2⟩)
  have hX0:4<(nth p.aa.nodes a.toNat).kind->dr (de p slots heap n (nth (nth p.aa.nodes a.toNat).l 0)).1.n/\(de p slots heap n (nth (nth p.aa.nodes a.toNat).l 0)).1.s.size<=40:=fun ZE=>by
   have:∃x,nth (nth p.aa.nodes a.toNat).l 0=x/\x∈(nth p.aa.nodes a.toNat).l/\bT (bA p.aa.nodes x):=by
    rcases hX with⟨x,y,g1,g2⟩|⟨x,g1,g2⟩|g
    ·exact⟨x,by rw[g1];rfl,by rw[g1];simp,g2⟩
    ·exact⟨x,by rw[g1];rfl,by rw[g1];simp,g2⟩
    ·omega
   obtain⟨x,g1,g2,g3⟩:=this;rw[g1];have hb:=sh.2.1 x g2;exact⟨IW h h1 h2 h3 n x hb.1 jB jB g3,(rX h slots heap n x hb.1 jB jB g3).size⟩
  unfold de;dsimp only;generalize de p slots heap n (nth (nth p.aa.nodes a.toNat).l 0)=X at*;generalize de p slots heap n (nth (nth p.aa.nodes a.toNat).l 1)=Y at*;refine oY (fun e=>h.dr _ hl e) fun e1=>oY (fun _=>yx _) fun e2=>oY (fun _=>nT) fun e3=>oY (fun _=>Mu h1 _ _) fun e4=>?_
  obtain⟨x1,x2⟩:=hX0 jB;refine oY (fun _=>nT) fun e5=>oY (fun _=>oY (fun _=>nT) fun e=>Ld h2 _ _ jB) fun e6=>oY (fun _=>oY (fun _=>x1) fun _=>oY (fun _=>nT) fun _=>Qj _ x1) fun e7=>oY (fun _=>oY (fun _=>?_) fun _=>?_) fun e8=>oY (fun _=>Ix _ _) fun _=>Ix _ _
  ·show Go.Gd.dr (_:Int);unfold vI Go.Gd.dr;simp only;omega
  ·have:=D' X.1;show Go.Gd.dr (_:Int);unfold vI Go.Gd.dr;simp only;omega
structure bW(R:RS):Prop where
 sl:∀f∈R.aw,pi f.slots
 hp:Df R.heap
def mM(s:aM):Prop:=bW (RS.of s)
theorem bW.aS{R:RS}(h:bW R)(k:Nat){f:aH}(hf:pi f.slots):bW (R.aS k f):=⟨fun g hg=>by
 rcases tV hg with rfl|hg
 ·exact hf
 ·exact h.sl g hg,h.hp⟩
def Bs{α:Type}[Inhabited α](l:List α)(k:Nat):nth l k∈l\/nth l k=default:=by
 by_cases h:k<l.length
 ·exact .inl (er h)
 ·right;unfold nth;rw[List.getD_eq_getElem?_getD,List.getElem?_eq_none jB];rfl
def bW.at_{R:RS}(h:bW R)(k:Nat):pi (nth R.aw k).slots:=by
 rcases Bs R.aw k with e|e
 ·exact h.sl _ e
 ·rw[e];intro v hv;cases hv
theorem bW.on{R:RS}(h:bW R):bW R.on:=h.aS _ (h.at_ _)
def QW{l:List ak}(h:pi l)(k:Nat){v:ak}(hv:dr v.n):pi (l.set k v):=fun x hx=>by
 rcases tV hx with rfl|hx
 ·exact hv
 ·exact h x hx
theorem bW.dK{R:RS}(h:bW R)(p:ab)(a:Int){v:ak}(hv:dr v.n):bW (R.dK p a v):=h.aS _ (QW (h.at_ _) _ hv)
theorem bW.store{R:RS}(h:bW R)(p:ab)(a:Int){v:ak}(hv:dr v.n):bW (R.store p a v):=(h.dK p a hv).on
theorem bW.bq{R:RS}(h:bW R)(p:ab){v:ak}(hv:dr v.n):bW (R.bq p v):=by
 have hp:bW R.pop:=⟨h.sl,h.hp⟩;unfold RS.bq;split
 ·exact⟨h.sl,h.hp⟩
 split
 ·exact(hp.dK p _ hv).on
 ·exact hp.on
theorem bW.cut{R:RS}(h:bW R):bW R.cut:=⟨fun g hg=>by
 rcases tV hg with rfl|hg
 ·exact h.at_ _
 ·exact h.sl g hg,h.hp⟩
theorem bW.settle{p:ab}:∀(n:Nat) {R:RS},bW R->bW (js p n R)
 |0,R,h=>h
 |n+1,R,h=>by
  unfold js;split
  ·exact h
  split
  ·exact bW.settle n (h.bq p nT)
  split
  ·exact h
  ·exact bW.settle n h.cut
theorem bW.push{R:RS}(h:bW R){f:aH}(hf:pi f.slots):bW (R.push f):=⟨fun g hg=>by
 have hg:g∈R.aw++[f]:=hg;rcases List.mem_append.1 hg with hg|hg
 ·exact h.sl g hg
 ·rw[List.mem_singleton]at hg;subst hg;exact hf,h.hp⟩
theorem bW.aX{R:RS}(h:bW R)(b:Int):bW (R.aX b):=h.aS _ (h.at_ _)
theorem DY{p:ab}(R:RS):∀(l:SI) (a:List ak),(∀x∈l,dr (R.val p x).1.n)->pi a->pi (R.args p l a).1
 |[],a,_,h=>by unfold RS.args;exact h
 |x::l,a,hl,h=>by
  unfold RS.args;split
  ·exact h
  ·refine DY R l _ (fun y hy=>hl y (by simp[hy])) fun v hv=>?_
   rcases List.mem_append.1 hv with hv|hv
   ·exact h v hv
   ·rw[List.mem_singleton]at hv;subst hv;exact hl x jE
def Gi(p:ab)(fn:Int){a:List ak}(h:pi a):pi (gg p fn a).slots:=fun v hv=>by
 have hv:v∈a++List.replicate _ v0:=hv;rcases List.mem_append.1 hv with hv|hv
 ·exact h v hv
 ·rw[(List.mem_replicate.1 hv).2];exact nT
theorem bW.val{p:ab}(hs:cY p){R:RS}(h:bW R)(hc:fF R.heap<=40){x:Int}(h0:0<=x)(hl:x.toNat<p.aa.nodes.length)(hE:bT (bA p.aa.nodes x)):dr (R.val p x).1.n:=
 IW hs.ok (h.at_ _) h.hp (fun l hm=>by obtain⟨k,hk,rfl⟩:=List.getElem_of_mem hm;have:=zr R.heap k hk;rw[dV hk]at this;omega) _ x h0 hl jB hE
theorem bW.call{p:ab}(hs:cY p){R:RS}(h:bW R)(hc:fF R.heap<=40){a:Int}(hl:a.toNat<p.aa.nodes.length)(hk:(ao p a).kind=21):bW (R.call p a).1:=by
 have sh:=hs.ok.aa.shape a.toNat hl;unfold RS.call;simp only;split
 ·exact h
 split
 ·exact h
 ·refine h.push (Gi p _ (DY R _ _ (fun x hx=>?_) fun v hv=>by cases hv));have:=sh.2.1 x hx;exact h.val hs hc this.1 jB (sh.1.call hk x hx)
theorem bW.bO{p:ab}(hs:cY p){R:RS}(h:bW R)(hc:fF R.heap<=40){node:Int}(h0:0<=node)(hl:node.toNat<p.aa.nodes.length){inp:SI}(hi:∀x∈inp,dr x):bW (R.bO p node inp).1:=by
 have sh:=hs.ok.aa.shape node.toNat hl;have aE:∀x∈(ao p node).l,0<=x/\x.toNat<p.aa.nodes.length:=fun x hx=>by have:=sh.2.1 x hx;omega
 have hv:∀x∈(ao p node).l,bT (bA p.aa.nodes x)->dr (R.val p x).1.n:=fun x hx hE=>h.val hs hc (aE x hx).1 (aE x hx).2 hE
 unfold RS.bO;simp only;split
 ·rename_i e;obtain⟨a,ha,hr⟩:=sh.1.right e;have S6:(ao p node).l=[a]:=ha;have Ua:=aE a (by rw[S6];simp);have hx:nth (ao p node).l 0=a:=by rw[S6];rfl
  unfold RS.right;simp only[hx];split
  ·rename_i e1;exact h.call hs hc Ua.2 e1
  split
  ·refine bW.store (R:={ R with in_:=R.in_+1 }) ⟨h.sl,h.hp⟩ p node ?_;show dr (nth inp _);rcases Bs inp R.in_.toNat with e|e
   ·exact hi _ e
   ·rw[e];exact nT
  split
  ·unfold RS.fresh;simp only;have hf:∀(n:Nat),bW { R with heap:=R.heap++[List.replicate n 0] }:=fun n=>⟨h.sl,fun l hm=>by
    have hm:l∈R.heap++[List.replicate n 0]:=hm;rcases List.mem_append.1 hm with hm|hm
    ·exact h.hp l hm
    ·rw[List.mem_singleton]at hm;subst hm;intro x hx;rw[(List.mem_replicate.1 hx).2];exact nT⟩
   have D':=nz R.heap;have key:∀r:RS×ak×Int,bW r.1->dr r.2.1.n->bW (if r.2.2=0 then(r.1.store p node r.2.1,(0:Int))else(r.1,r.2.2)).1:=fun r g1 g2=>by
    split
    ·exact g1.store p node g2
    ·exact g1
   refine key _ ?_ ?_
   ·(repeat' split)<;>first|exact h|exact hf _
   ·(repeat' split)<;>first|exact nT|(show dr (_:Int);unfold dr;simp only;omega)
  rename_i e1 e2 e3;split
  ·refine h.store p node (hv a (by rw[S6];simp) ?_);have e1:bA p.aa.nodes a≠21:=e1;have e2:bA p.aa.nodes a≠19:=e2;have e3:bA p.aa.nodes a≠20:=e3;rcases hr with hr|hr|hr|hr
   ·exact hr
   ·exact(e2 hr).elim
   ·exact(e3 hr).elim
   ·exact(e1 hr).elim
  ·exact h
 split
 ·rename_i e1;obtain⟨a,ha,hr⟩:=sh.1.nN e1;have S6:(ao p node).l=[a]:=ha;have Ua:=aE a (by rw[S6];simp);have hx:nth (ao p node).l 0=a:=by rw[S6];rfl
  rw[hx];exact h.call hs hc Ua.2 hr
 split
 ·rename_i e2;obtain⟨x,y,YT,hx,hy⟩:=sh.1.two (.inr e2);have YT:(ao p node).l=[x,y]:=YT;unfold RS.put;simp only;split
  ·exact h
  split
  ·exact h
  split
  ·exact h
  ·refine bW.on ⟨h.sl,fun l hm=>?_⟩;rcases tV hm with rfl|hm
   ·intro z hz;rcases tV hz with rfl|hz
    ·rw[show nth (ao p node).l 1=y by rw[YT];rfl];exact hv y (by rw[YT];simp) hy
    ·rcases Bs R.heap (((di R.ah.slots (nth p.slots node.toNat) 4).n)-1).toNat with e|e
     ·exact h.hp _ e z hz
     ·rw[e]at hz;cases hz
   ·exact h.hp l hm
 split
 ·rename_i e3;split
  ·exact h.bq p nT
  rename_i e4;split
  ·exact h
  ·rcases sh.1.ret e3 with T3|⟨a,T3,hE⟩
   ·exact(e4 (by unfold ao;rw[T3];rfl)).elim
   ·have T3:(ao p node).l=[a]:=T3;rw[show nth (ao p node).l 0=a by rw[T3];rfl];exact h.bq p (hv a (by rw[T3];simp) hE)
 split
 ·exact h
 split
 ·split
  ·exact h
  ·exact bW.on ⟨h.sl,h.hp⟩
 split
 ·split
  ·exact h.on.aX _
  split
  ·exact h.on.aX _
  ·exact h.on
 split
 ·split
  ·exact h.aX _
  ·exact h.on
 ·exact h
theorem bW.st{R:RS}(h:bW R):mM R.st:=⟨fun f hf=>h.sl f (List.mem_of_mem_take hf),h.hp⟩
theorem mM.with{s:aM}(h:mM s)(c t n:Int):mM { s with status:=c,bp:=t,time:=n }:=⟨h.sl,h.hp⟩
variable{s:aM}{inp:SI}
def Lu(hs:cY p)(hI:cC p s)(h:mM s)(hi:∀x∈inp,dr x):mM (gN p s inp):=by
 unfold gN;split
 ·exact h
 rename_i h0;split
 ·exact⟨h.sl,h.hp⟩
 simp only;split
 ·exact⟨h.sl,h.hp⟩
 ·have h2:¬(s.status=2\/s.status=3):=fun hh=>h0 (by unfold dG;rw[if_pos hh];decide)
  have hd:=hI.gW (fun hh=>h2 (.inl hh)) 0 jC;obtain⟨s0,s1,_⟩:=hd.stmt hs;have Tf:bB p (RS.of { s with status:=0 }).st=dG p s:=by rw[RS.fv];unfold dG;rw[if_neg h2];rfl
  rw[Tf]at s0 s1;have hr:bW (RS.of { s with status:=0 }):=⟨h.sl,h.hp⟩;have:=hr.bO hs hI.cells s0 s1 hi;exact(bW.settle _ (R:={ ((RS.of { s with status:=0 }).bO p (dG p s) inp).1 with time:=s.time+1 }) ⟨this.sl,this.hp⟩).st
structure Fits(s:aM):Prop where
 aw:s.ap.length<=8
 heap:s.heap.length<=40
 out:s.aC.length<=24
 fr:∀k,k<s.ap.length->(nth s.ap k).slots.length<=24/\(nth s.ap k).path.length<=300
 hp:∀k,k<s.heap.length->(nth s.heap k).length<=40
def xP(hs:cY p):∃m:Nat,m<p.aa.aq.length/\kD p=(m:Int)/\(nth p.aa.aq m).name=(⟨#[109,97,105,110]⟩:SK)/\(nth p.aa.aq m).params.length=0:=by
 obtain⟨j,hj,W3⟩:=hs.names.main;unfold vL at W3;simp only[Bool.and_eq_true,decide_eq_true_eq]at W3;obtain⟨⟨g1,g2⟩,_⟩:=W3;obtain⟨f1,f2,f3⟩:=Dc bg.name (⟨#[109,97,105,110]⟩:SK) p.aa.aq 0 ⟨_,er hj,g1⟩;have e:(gx bg.name (⟨#[109,97,105,110]⟩:SK) p.aa.aq 0-0).toNat=(kD p).toNat:=by unfold kD;simp
 rw[e]at f3;have SU:0<=kD p:=f1;have Xj:kD p<0+p.aa.aq.length:=f2;have hm:(kD p).toNat<p.aa.aq.length:=jB;have hjm:j=(kD p).toNat:=by
  rcases Nat.lt_trichotomy j (kD p).toNat with h|h|h
  ·exact(hs.names.one _ _ h hm (by rw[g1,f3])).elim
  ·exact h
  ·exact(hs.names.one _ _ h hj (by rw[g1,f3])).elim
 exact⟨(kD p).toNat,hm,jB,f3,by rw[<-hjm];omega⟩
def gS(p:ab):RS:=RS.of { C3 with ap:=[gg p (kD p) []] }
def un(hs:cY p):dN p (gS p):=by
 obtain⟨m,hm,Vl,_,VB⟩:=xP hs;have hf:=(yH hs hm (args:=[]) (by rw[VB];rfl)).1;refine⟨⟨RS.sA _,?_,fun k hk=>?_,fun k hk=>?_,fun _=>?_⟩,?_,?_,?_,?_⟩
 ·show 1<=8;omega
 ·have hk:k<1:=hk;have:k=0:=jB;subst this;show dF p (gg p (kD p) []);rw[Vl];exact hf
 ·have hk:k+1<1:=hk;omega
 ·show 1<=1;omega
 ·show fF []<=40;decide
 ·show 0<=24;omega
 ·show(0:Int)<=0;omega
 ·show(0:Int)<=1000;omega
def Lg:bW (gS p):=⟨fun f hf=>by have hf:f∈[gg p (kD p) []]:=hf;rw[List.mem_singleton]at hf;subst hf;exact Gi p _ fun v hv=>(by cases hv),fun l hl=>by cases hl⟩
def CE(p:ab):oe p=((gS p).settle p).st:=rfl
structure lZ(p:ab)(n:Nat)(s:aM):Prop where
 inv:cC p s
 dr:mM s
 t0:0<=s.time
 t1:s.time<=n
def Pq(hs:cY p):lZ p 0 (oe p):=by have k:=qx p ((gS p).left+1) (gS p);have e:(oe p).time=0:=k.time;exact⟨(un hs).settled,(bW.settle _ Lg).st,jB,jB⟩
structure fi(R R':RS):Prop where
 time:R'.time=R.time
 aw:R.aw.length<=R'.aw.length
 heap:R.heap.length<=R'.heap.length
def fi.refl(R:RS):fi R R:=⟨rfl,Nat.le_refl _,Nat.le_refl _⟩
theorem fi.trans{a b c:RS}(h:fi a b)(k:fi b c):fi a c:=⟨k.time.trans h.time,Nat.le_trans h.aw k.aw,Nat.le_trans h.heap k.heap⟩
def wD(R:RS)(k:Nat)(f:aH):fi R (R.aS k f):=⟨rfl,Nat.le_of_eq RS.aO,Nat.le_refl _⟩
def th(R:RS):fi R R.on:=wD _ _ _
def CK(R:RS)(p:ab)(a:Int)(v:ak):fi R (R.store p a v):=(wD R _ _).trans (th _)
def EP(R:RS)(p:ab)(v:ak):fi R (R.bq p v):=by
 have hp:fi R R.pop:=⟨rfl,Nat.le_refl _,Nat.le_refl _⟩;unfold RS.bq;split
 ·exact⟨rfl,Nat.le_refl _,Nat.le_refl _⟩
 split
 ·exact hp.trans ((wD _ _ _).trans (th _))
 ·exact hp.trans (th _)
def Oq(R:RS)(f:aH):fi R (R.push f):=⟨rfl,by show R.aw.length<=(R.aw++[f]).length;simp,Nat.le_refl _⟩
def D0(R:RS)(p:ab)(a:Int):fi R (R.call p a).1:=by
 unfold RS.call;simp only;split
 ·exact .refl _
 split
 ·exact .refl _
 ·exact Oq _ _
def EV(R:RS)(p:ab)(a:Int):fi R (R.fresh p a).1:=by
 unfold RS.fresh;simp only
 (repeat' split)<;>first|exact .refl _|exact⟨rfl,Nat.le_refl _,jE⟩
def Jw(R:RS)(p:ab)(a:Int)(inp:SI):fi R (R.right p a inp).1:=by
 unfold RS.right;simp only;split
 ·exact D0 _ _ _
 split
 ·exact(show fi R { R with in_:=R.in_+1 } from⟨rfl,Nat.le_refl _,Nat.le_refl _⟩).trans (CK _ _ _ _)
 split
 ·split
  ·exact(EV _ _ _).trans (CK _ _ _ _)
  ·exact EV _ _ _
 split
 ·exact CK _ _ _ _
 ·exact .refl _
def KR(R:RS)(p:ab)(a:Int):fi R (R.put p a).1:=by
 unfold RS.put;simp only
 (repeat' split)<;>first|exact .refl _|exact(show fi R { R with heap:=R.heap.set _ _ } from⟨rfl,Nat.le_refl _,jE⟩).trans (th _)
def NH(R:RS)(p:ab)(a:Int)(inp:SI):fi R (R.bO p a inp).1:=by
 unfold RS.bO;simp only;split
 ·exact Jw _ _ _ _
 split
 ·exact D0 _ _ _
 split
 ·exact KR _ _ _
 split
 ·(repeat' split)<;>first|exact .refl _|exact EP _ _ _
 split
 ·exact .refl _
 split
 ·split
  ·exact .refl _
  ·exact(show fi R { R with aC:=R.aC++[_] } from⟨rfl,Nat.le_refl _,Nat.le_refl _⟩).trans (th _)
 split
 ·(repeat' split)<;>first|exact(th _).trans (wD _ _ _)|exact th _
 split
 ·(repeat' split)<;>first|exact wD _ _ _|exact th _
 ·exact .refl _
theorem zp(p:ab):∀(n:Nat) (R:RS),fi R (js p n R)
 |0,R=>.refl R
 |n+1,R=>by
  unfold js;split
  ·exact .refl R
  split
  ·exact(EP R p _).trans (zp p n _)
  split
  ·exact .refl R
  ·exact(show fi R R.cut from⟨rfl,by show R.aw.length<=(R.aw.set _ _).length;simp,Nat.le_refl _⟩).trans (zp p n _)
def KS:(gN p s inp).time=s.time\/(gN p s inp).time=s.time+1:=by
 unfold gN;split
 ·exact .inl rfl
 split
 ·exact .inl rfl
 simp only;split
 ·exact .inr rfl
 ·exact .inr (qx p _ _).time
variable{n:Nat}
def RV(hs:cY p)(h:lZ p n s)(hn:inp.length<=1000)(hi:∀x∈inp,Go.Gd.dr x):lZ p (n+1) (gN p s inp):=by have ht:=@KS p s inp;have:=h.t0;have:=h.t1;exact⟨Hq hs h.inv hn,Lu hs h.inv h.dr hi,jB,jB⟩
def cC.fits(hs:cY p)(h:cC p s):Fits s:=by
 have h2:=nz s.heap;have h3:=h.cells;refine⟨h.inv.aw,jB,h.outs,fun k hk=>?_,fun k hk=>?_⟩
 ·have hf:dF p (nth s.ap k):=h.inv.fr k hk;have h0:=hf.f0;have h1:=hf.f1;have hz:=(hs.aq (nth s.ap k).fn.toNat jB).hi;have:=hf.sl;exact⟨jB,hf.len hs⟩
 ·have:=zr s.heap k hk;omega
def cC.copy(hs:cY p)(h:cC p s):ai prog 30 [.agg (dD s)] [] (fun r l=>r=.agg (RS.of s).c/\l=(RS.of s).rows):=by
 have h1:s.ap.length<=8:=h.inv.aw;have h2:=nz s.heap;have h3:=h.cells;refine Kb s jB jB (by have:=h.outs;omega) (fun k hk=>?_) fun k hk=>?_
 ·have hf:dF p (nth s.ap k):=h.inv.fr k hk;have:=hf.len hs;exact⟨by have:=(hs.aq (nth s.ap k).fn.toNat (by have:=hf.f0;have:=hf.f1;omega)).hi;have:=hf.sl;omega,jB⟩
 ·have:=zr s.heap k hk;omega
def C8(hs:cY p)(h:cC p s):aP prog 30 [.agg (dD s)] (.agg (dD s)):=by have:=aP.R4 (cC.copy hs h) (RS.Cb h.inv.ok);rw[RS.fv]at this;exact this
def KW(hs:cY p)(h:cC p s)(inp:SI)(hn:inp.length<=1000)(h0:dG p s<0):aP prog 14 [.agg (bV p),.agg (dD s),bh eI 1 inp] (.agg (dD s)):=by
 have Wr:=Bv hs h;have YU:=C8 hs h;generalize dG p s=a at*;refine df func14 ntmps14 ?_
 (repeat' (first|refine aA fun K hK=>?_|refine ax ?_|(refine hK _ _ ?_;clear hK K)|(refine az ?_ ?_<;>intro hc<;>try exact jz)|refine cp (Wr) ?_|refine cp (YU) ?_|refine ay ?_|exact jI|(clear hK K)))
 all_goals(refine bG [.cell 6 41] ?_;try simp only[go_sem])
def Q2(hs:cY p)(h:cC p s)(inp:SI)(hn:inp.length<=1000)(h0:¬dG p s<0)(hw:kn p s (dG p s) inp):aP prog 14 [.agg (bV p),.agg (dD s),bh eI 1 inp] (.agg (dD { s with status:=1 })):=by
 have Wr:=Bv hs h;have YU:=C8 hs h;have h2:¬(s.status=2\/s.status=3):=fun hh=>h0 (by unfold dG;rw[if_pos hh];decide)
 have hd:=h.gW (fun hh=>h2 (.inl hh)) 0 jC;have Tf:bB p (RS.of { s with status:=0 }).st=dG p s:=by rw[RS.fv];unfold dG;rw[if_neg h2];rfl
 obtain⟨s0,s1,s2,s3,s4,s5⟩:=hd.stmt hs;rw[Tf]at s0 s1;obtain⟨TK,hao,TP⟩:=hw;have ZA:=h.gV;generalize dG p s=a at*;obtain⟨x,S6,Vk⟩:=(hs.ok.aa.shape a.toNat s1).1.right TK;have U2:=(hs.ok.aa.shape a.toNat s1).2.1 x (by rw[S6];simp);have SZ:nth (nth p.aa.nodes a.toNat).l 0=x:=by rw[S6];rfl
 have Ui:(nth p.aa.nodes a.toNat).l.length=1:=by rw[S6];rfl
 have hxn:x.toNat<p.aa.nodes.length:=jB;have k19':(nth p.aa.nodes x.toNat).kind=19:=by rw[<-SZ];exact hao
 have haq:(nth p.aa.nodes a.toNat).kind=10\/(nth p.aa.nodes a.toNat).kind=11:=TK;rcases haq with hk|hk<;>
 ·refine df func14 ntmps14 ?_
  (have W:=jA SZ (jA Ui (jA k19' (hk)));repeat' (first|refine aA fun K hK=>?_|refine ax ?_|(with_reducible refine gR 7 ?_);refine dE 7 (bo 0 21) mixed ?_|(refine hK _ _ ?_;clear hK K)|(refine az ?_ ?_<;>intro hc<;>try exact jz)|refine cp (Wr) ?_|refine cp (YU) ?_|refine ay ?_|exact jI|(clear hK K)))
  all_goals(refine bG [.cell 6 41] ?_;try simp only[go_sem])
def Ol(hs:cY p)(h:cC p s)(inp:SI)(hn:inp.length<=1000)(ht:0<=s.time/\s.time<=1000000)(h0:¬dG p s<0)(hw:¬kn p s (dG p s) inp)
  (Xo:∀x:Int,0<=x->x.toNat<p.aa.nodes.length->bT (bA p.aa.nodes x)->dr ((RS.of { s with status:=0 }).val p x).1.n):aP prog 14 [.agg (bV p),.agg (dD s),bh eI 1 inp] (.agg (dD (gN p s inp))):=by
 have Wr:=Bv hs h;have YU:=C8 hs h;have Xt:=cC.copy hs h;have h2:¬(s.status=2\/s.status=3):=fun hh=>h0 (by unfold dG;rw[if_pos hh];decide)
 have hd:=h.gW (fun hh=>h2 (.inl hh)) 0 jC;have P':(RS.of { s with status:=0 }).st={ s with status:=0 }:=RS.fv _;have Tf:bB p (RS.of { s with status:=0 }).st=dG p s:=by rw[RS.fv];unfold dG;rw[if_neg h2];rfl
 obtain⟨s0,s1,s2,s3,s4,s5⟩:=hd.stmt hs;have ZF:=Qs hs _ hd inp hn (by rw[Tf,P'];exact hw) Xo;have hda:=hd.bO hs hn (by rw[Tf,P'];exact hw);rw[Tf]at s0 s1 ZF hda;have Vs:¬(((nth p.aa.nodes (dG p s).toNat).kind=10\/(nth p.aa.nodes (dG p s).toNat).kind=11)/\(nth p.aa.nodes (nth (nth p.aa.nodes (dG p s).toNat).l 0).toNat).kind=19/\(inp.length:Int)<=s.in_):=hw;have UY:((nth p.aa.nodes (dG p s).toNat).kind=10\/(nth p.aa.nodes (dG p s).toNat).kind=11)->(nth p.aa.nodes (dG p s).toNat).l.length=1/\0<=nth (nth p.aa.nodes (dG p s).toNat).l 0/\(nth (nth p.aa.nodes (dG p s).toNat).l 0).toNat<p.aa.nodes.length:=fun hk=>by obtain⟨x,S6,Vk⟩:=(hs.ok.aa.shape (dG p s).toNat s1).1.right hk;have:=(hs.ok.aa.shape (dG p s).toNat s1).2.1 x (by rw[S6];simp);rw[S6];exact⟨rfl,this.1,by show x.toNat<_;omega⟩
 have ZA:=h.gV;unfold gN;rw[if_neg h0,if_neg hw];simp only;have Vc:=NH (RS.of { s with status:=0 }) p (dG p s) inp;generalize (RS.of { s with status:=0 }).bO p (dG p s) inp=D at*;generalize dG p s=a at*;have hpm:∀i,aD ((RS.of s).fh [(4,.var 29 (bV p)),(5,.var 41 (dD s)),(6,.var 41 [.raw (.slice none 0 0),.raw (.slice none 0 0),rI 0,.raw (.slice none 0 0),rI 0,rI 0,rI 0]),(0,.var 41 (RS.of { s with status:=0 }).c),(7,.var 59 (dO (nth p.aa.nodes a.toNat)))]) i=aD ((RS.of { s with status:=0 }).e 41 [] [] [(4,.var 29 (bV p)),(5,.var 41 (dD s)),(6,.var 41 [.raw (.slice none 0 0),.raw (.slice none 0 0),rI 0,.raw (.slice none 0 0),rI 0,rI 0,rI 0]),(7,.var 59 (dO (nth p.aa.nodes a.toNat)))]) i:=RS.rE (R:=RS.of { s with status:=0 }) rfl jE fun i hi=>by simp only[aD,if_neg hi]
 by_cases hz:D.2=0
 ·rw[if_neg (fun e=>e hz)];have hD:=hda hz;have SV:=EO hs { D.1 with time:=s.time+1 } ⟨⟨hD.inv.ok.nf,hD.inv.ok.jp⟩,hD.inv.aw,hD.inv.fr,hD.inv.busy,hD.inv.go⟩;have XG:=zp p (RS.left { D.1 with time:=s.time+1 }+1) { D.1 with time:=s.time+1 };change fi _ (({ D.1 with time:=s.time+1 }:RS).settle p)at XG
  have W4:(({ D.1 with time:=s.time+1 }:RS).settle p).Ok:=(qL (RS.left { D.1 with time:=s.time+1 }+1) { D.1 with time:=s.time+1 } ⟨⟨hD.inv.ok.nf,hD.inv.ok.jp⟩,hD.inv.aw,hD.inv.fr,hD.inv.busy,hD.inv.go⟩ jB).1.ok;generalize hT:({ D.1 with time:=s.time+1 }:RS).settle p=T at*;rcases Classical.em ((nth p.aa.nodes a.toNat).kind=10\/(nth p.aa.nodes a.toNat).kind=11)with hk|hk
  ·obtain⟨g1,g2,g3⟩:=UY hk;refine df func14 ntmps14 ?_
   (have W:=jA hz g1;repeat' (first|refine aA fun K hK=>?_|refine ax ?_|(with_reducible refine gR 7 ?_);refine dE 7 (bo 0 21) mixed ?_|(refine hK _ _ ?_;clear hK K)|(refine az ?_ ?_<;>intro hc<;>try exact jz)|refine cp (Wr) ?_|(refine cR (R:=RS.of s) Xt rfl cO rfl jD ?_;refine S ?_)|(refine y9 (R:=RS.of { s with status:=0 }) (R':=D.1) (pre:=[]) (post:=[]) (pre':=[]) (post':=[]) (tl:=[(4,.var 29 (bV p)),(5,.var 41 (dD s)),(6,.var 41 [.raw (.slice none 0 0),.raw (.slice none 0 0),rI 0,.raw (.slice none 0 0),rI 0,rI 0,rI 0]),(7,.var 59 (dO (nth p.aa.nodes a.toNat)))]) ZF rfl hpm Vc.aw Vc.heap rfl rfl cO rfl jD ?_;refine S ?_)|(refine cE (R:={ D.1 with time:=s.time+1 }) (R':=T) (pre:=[]) (post:=[]) (pre':=[]) (post':=[]) SV rfl XG.aw XG.heap rfl rfl cO rfl jD ?_;refine S ?_)|refine cz 4 ?_|refine cz 5 ?_|refine cM 6 ?_|refine cM 0 ?_|refine cM 7 ?_|refine ay ?_|exact jI|(clear hK K)))
   exact ui [.cell 6 41] rfl (bK.agg (ds:=dD T.st) (RS.xI (t:=41) (pre:=[]) (post:=[]) (R:=T) W4 fun _=>rfl))
  ·refine df func14 ntmps14 ?_
   (have W:=hz;repeat' (first|refine aA fun K hK=>?_|refine ax ?_|(with_reducible refine gR 7 ?_);refine dE 7 (bo 0 21) mixed ?_|(refine hK _ _ ?_;clear hK K)|(refine az ?_ ?_<;>intro hc<;>try exact jz)|refine cp (Wr) ?_|(refine cR (R:=RS.of s) Xt rfl cO rfl jD ?_;refine S ?_)|(refine y9 (R:=RS.of { s with status:=0 }) (R':=D.1) (pre:=[]) (post:=[]) (pre':=[]) (post':=[]) (tl:=[(4,.var 29 (bV p)),(5,.var 41 (dD s)),(6,.var 41 [.raw (.slice none 0 0),.raw (.slice none 0 0),rI 0,.raw (.slice none 0 0),rI 0,rI 0,rI 0]),(7,.var 59 (dO (nth p.aa.nodes a.toNat)))]) ZF rfl hpm Vc.aw Vc.heap rfl rfl cO rfl jD ?_;refine S ?_)|(refine cE (R:={ D.1 with time:=s.time+1 }) (R':=T) (pre:=[]) (post:=[]) (pre':=[]) (post':=[]) SV rfl XG.aw XG.heap rfl rfl cO rfl jD ?_;refine S ?_)|refine cz 4 ?_|refine cz 5 ?_|refine cM 6 ?_|refine cM 0 ?_|refine cM 7 ?_|refine ay ?_|exact jI|(clear hK K)))
   exact ui [.cell 6 41] rfl (bK.agg (ds:=dD T.st) (RS.xI (t:=41) (pre:=[]) (post:=[]) (R:=T) W4 fun _=>rfl))
 ·rw[if_pos hz];rcases Classical.em ((nth p.aa.nodes a.toNat).kind=10\/(nth p.aa.nodes a.toNat).kind=11)with hk|hk
  ·obtain⟨g1,g2,g3⟩:=UY hk;refine df func14 ntmps14 ?_
   (have W:=jA hz g1;repeat' (first|refine aA fun K hK=>?_|refine ax ?_|(with_reducible refine gR 7 ?_);refine dE 7 (bo 0 21) mixed ?_|(refine hK _ _ ?_;clear hK K)|(refine az ?_ ?_<;>intro hc<;>try exact jz)|refine cp (Wr) ?_|(refine cR (R:=RS.of s) Xt rfl cO rfl jD ?_;refine S ?_)|(refine y9 (R:=RS.of { s with status:=0 }) (R':=D.1) (pre:=[]) (post:=[]) (pre':=[]) (post':=[]) (tl:=[(4,.var 29 (bV p)),(5,.var 41 (dD s)),(6,.var 41 [.raw (.slice none 0 0),.raw (.slice none 0 0),rI 0,.raw (.slice none 0 0),rI 0,rI 0,rI 0]),(7,.var 59 (dO (nth p.aa.nodes a.toNat)))]) ZF rfl hpm Vc.aw Vc.heap rfl rfl cO rfl jD ?_;refine S ?_)|refine cp (YU) ?_|refine cz 4 ?_|refine cz 5 ?_|refine cM 6 ?_|refine cM 0 ?_|refine cM 7 ?_|refine ay ?_|exact jI|(clear hK K)))
   exact ui [.cell 6 41] rfl (.same (.agg (dD { s with status:=3,bp:=D.2,time:=s.time+1 })) (by simp only[AV.all];exact xe _ _))
  ·refine df func14 ntmps14 ?_
   (have W:=hz;repeat' (first|refine aA fun K hK=>?_|refine ax ?_|(with_reducible refine gR 7 ?_);refine dE 7 (bo 0 21) mixed ?_|(refine hK _ _ ?_;clear hK K)|(refine az ?_ ?_<;>intro hc<;>try exact jz)|refine cp (Wr) ?_|(refine cR (R:=RS.of s) Xt rfl cO rfl jD ?_;refine S ?_)|(refine y9 (R:=RS.of { s with status:=0 }) (R':=D.1) (pre:=[]) (post:=[]) (pre':=[]) (post':=[]) (tl:=[(4,.var 29 (bV p)),(5,.var 41 (dD s)),(6,.var 41 [.raw (.slice none 0 0),.raw (.slice none 0 0),rI 0,.raw (.slice none 0 0),rI 0,rI 0,rI 0]),(7,.var 59 (dO (nth p.aa.nodes a.toNat)))]) ZF rfl hpm Vc.aw Vc.heap rfl rfl cO rfl jD ?_;refine S ?_)|refine cp (YU) ?_|refine cz 4 ?_|refine cz 5 ?_|refine cM 6 ?_|refine cM 0 ?_|refine cM 7 ?_|refine ay ?_|exact jI|(clear hK K)))
   exact ui [.cell 6 41] rfl (.same (.agg (dD { s with status:=3,bp:=D.2,time:=s.time+1 })) (by simp only[AV.all];exact xe _ _))
def Ke(hs:cY p)(h:cC p s)(inp:SI)(hn:inp.length<=1000)(ht:0<=s.time/\s.time<=1000000)
  (Xo:∀x:Int,0<=x->x.toNat<p.aa.nodes.length->bT (bA p.aa.nodes x)->dr ((RS.of { s with status:=0 }).val p x).1.n):aP prog 14 [.agg (bV p),.agg (dD s),bh eI 1 inp] (.agg (dD (gN p s inp))):=by
 by_cases h0:dG p s<0
 ·have:=KW hs h inp hn h0;unfold gN;rw[if_pos h0];exact this
 by_cases hw:kn p s (dG p s) inp
 ·have:=Q2 hs h inp hn h0 hw;unfold gN;rw[if_neg h0,if_pos hw];exact this
 exact Ol hs h inp hn ht h0 hw Xo
def Ny(hs:cY p):aP prog 9 [.agg (bV p)] (.agg (dD (oe p))):=by
 obtain⟨m,hm,Vl,Tm,VB⟩:=xP hs;have Vd:=IY (args:=[.agg (bV p),rI m,.raw (.slice none 0 0)]) (args':=[.agg (bV p),rI m,bh bM 3 []]) ⟨gm.refl _,gm.refl _,gm.nil,trivial⟩ (F7 hs m hm [] (by rw[VB];rfl) 0);have SV:=EO hs (gS p) (un hs).inv;have Yw:=hs.ok.aa.aq;have W4:=(qL ((gS p).left+1) (gS p) (un hs).inv jB).1.ok;have XG:=zp p ((gS p).left+1) (gS p);change ((gS p).settle p).Ok at W4
 change fi _ ((gS p).settle p)at XG
 rw[CE];have hR:RS.of { C3 with ap:=[gg p m []] }=gS p:=by unfold gS;rw[Vl]
 generalize hB0:gS p=R at*;generalize hT:R.settle p=T at*;refine df func9 ntmps9 ?_
 (repeat' (first|refine aA fun K hK=>?_|refine ax ?_|(refine hK _ _ ?_;clear hK K)|(refine az ?_ ?_<;>intro hc<;>try exact jz)|refine cz 4 ?_|refine cM 5 ?_|refine cM 0 ?_|refine ay ?_|exact jI|(clear hK K)))
 refine iJ (dJ.fB 2 0 1 22 1 rfl jC rfl rfl) ?_;refine iJ (dJ.fB 3 0 3 9 1 rfl jC rfl rfl) ?_
 (refine S ?_;try exact jI)
 have Tc:=hK;clear hK;refine fa (S:=Nat) [(4,1),(6,21)] (fun k=>k<=p.aa.aq.length) (fun k=>[(4,rI k)]) (fun k=>if k<=m then⟨[],[(4,.var 29 (bV p)),(5,.var 41 [.raw (.slice none 0 0),.raw (.slice none 0 0),rI 0,.raw (.slice none 0 0),rI 0,rI 0,rI 0]),(0,.var 41 [.raw (.slice none 0 0),.rs 2 0 1 0,rI 0,.rs 3 0 1 0,rI 0,rI 0,rI 0]),(2,.aK 22 1 []),(3,.aK 9 1 [])]⟩else⟨[],R.e 41 [] [] [(4,.var 29 (bV p)),(5,.var 41 [.raw (.slice none 0 0),.raw (.slice none 0 0),rI 0,.raw (.slice none 0 0),rI 0,rI 0,rI 0])]⟩)
  (fun k=>p.aa.aq.length-k) 0 jB (fb ?_ cI) ?_
 ·rw[jP]
 rintro k hk Kr S8;by_cases h1:k<m
 ·have Tb:=eq_false (hs.names.one k m h1 hm);rw[Tm]at Tb;rw[jP];refine S ?_
  (have W:=Tb;repeat' (first|refine aA fun K hK=>?_|refine ax ?_|(refine hK _ _ ?_;clear hK K)|(refine az ?_ ?_<;>intro hc<;>try exact jz)|refine ay ?_|exact jI|(clear hK K)))
  refine S8 _ _ (fc (k+1) jB jJ ?_ cI);rw[jP]
 by_cases h2:k=m
 ·subst h2;rw[jP];refine S ?_
  (have W:=Tm;repeat' (first|refine aA fun K hK=>?_|refine ax ?_|(refine hK _ _ ?_;clear hK K)|(refine az ?_ ?_<;>intro hc<;>try exact jz)|refine cm (Vd) ?_|refine pm 1 ?_|refine ay ?_|exact jI|(clear hK K)))
  have hg0:=lK 0 0;have TU:=lK 1 0;have UE:bJ 1 0≠bJ 0 0:=jC;refine S8 _ _ (Lo (R.e 41 [] [] [(4,.var 29 (bV p)),(5,.var 41 [.raw (.slice none 0 0),.raw (.slice none 0 0),rI 0,.raw (.slice none 0 0),rI 0,rI 0,rI 0])]) (k+1) jB (by show p.aa.aq.length-(k+1)<p.aa.aq.length-k;omega) ?_ ?_ cI)
  ·subst hR;intro i;show aD [_,_,_,_,_,_,_,_] i=aD [_,_,_,_,(bJ 0 0,_),(bJ 1 0,_),_,_] i;simp only[aD];repeat' split
   all_goals first
    |rfl
    |omega
  ·show _=(if k+1<=k then _ else _);rw[jN]
 ·rw[jN];by_cases h3:k<p.aa.aq.length
  ·have Tb:((nth p.aa.aq k).name=(⟨#[109,97,105,110]⟩:SK))=False:=eq_false fun e=>hs.names.one m k jB h3 (by rw[Tm,e])
   refine S ?_
   (have W:=Tb;repeat' (first|refine aA fun K hK=>?_|refine ax ?_|(refine hK _ _ ?_;clear hK K)|(refine az ?_ ?_<;>intro hc<;>try exact jz)|refine ay ?_|exact jI|(clear hK K)))
   refine S8 _ _ (fc (k+1) jB (by show p.aa.aq.length-(k+1)<p.aa.aq.length-k;omega) ?_ cI);show _=(if k+1<=m then _ else _);rw[jN];rfl
  ·(refine S ?_;try exact jI)
   (repeat' (first|refine aA fun K hK=>?_|refine ax ?_|(refine hK _ _ ?_;clear hK K)|(refine az ?_ ?_<;>intro hc<;>try exact jz)|refine Tc _ _ ?_|(refine cE (R:=R) (R':=T) (pre:=[]) (post:=[]) (pre':=[]) (post':=[]) SV rfl XG.aw XG.heap rfl rfl cO rfl jD ?_;refine S ?_)|refine ay ?_|exact jI|(clear hK K)))
   exact ui [.cell 2 41] rfl (bK.agg (ds:=dD T.st) (RS.xI (t:=41) (pre:=[]) (post:=[]) (R:=T) W4 fun _=>rfl))
def MZ(hs:cY p)(h:lZ p n s)(U0:n<=1000000)(inp:SI)(hn:inp.length<=1000):aP prog 14 [.agg (bV p),.agg (dD s),bh eI 1 inp] (.agg (dD (gN p s inp))):=
 Ke hs h.inv inp hn ⟨h.t0,by have:=h.t1;omega⟩ fun x h0 hl hE=>bW.val hs (R:=RS.of { s with status:=0 }) ⟨h.dr.sl,h.dr.hp⟩ h.inv.cells h0 hl hE
def EJ(hs:cY p){R:RS}(h:bt p R)(hw:¬kn p R.st (bB p R.st) inp):Mv p inp (bB p R.st) R (R.bO p (bB p R.st) inp).1:=by
 obtain⟨s0,s1,s2,_⟩:=h.stmt hs;have sh:=(hs.ok.aa.shape _ s1);have TB:=h.inv.ok.nf;have h1:=h.one;have ZG:=h.full;generalize u':bB p R.st=node at*;have hR:=Mv.refl p inp node R;have UB:Mv p inp node R R.on:=hR.lw (xz TB h1) ⟨rfl,rfl,rfl,rfl,rfl⟩;have P':∀v,Mv p inp node R (R.store p node v):=fun v=>hR.lw (zu TB h1 _ _ _) (Ct _ _ _ _)
 have Ww:∀b,Mv p inp node R (R.aX b):=fun b=>hR.lw (FU TB h1 _) ⟨rfl,rfl,rfl,rfl,rfl⟩
 have hod:∀b,Mv p inp node R (R.on.aX b):=fun b=>UB.lw (FU (R:=R.on) (by show R.nf<=(R.aw.set _ _).length;simpa using TB) h1 _) ⟨rfl,rfl,rfl,rfl,rfl⟩
 have V8:∀v,Mv p inp node R (R.bq p v):=fun v=>hR.lw (Hi TB p v) (z6 _ _ _)
 unfold RS.bO;simp only;split
 ·rename_i e;obtain⟨a,ha,hr⟩:=sh.1.right e;have S6:(ao p node).l=[a]:=ha;have hx:nth (ao p node).l 0=a:=by rw[S6];rfl
  unfold RS.right;simp only[hx];split
  ·rename_i e1;exact HL R p inp node a ZG ⟨by rw[S6];simp,by rw[hx];exact e1⟩
  split
  ·rename_i e2;have TP:¬((inp.length:Int)<=R.in_):=fun Ta=>hw ⟨e,by rw[hx];exact e2,Ta⟩
   have hm:Mv p inp node R { R with in_:=R.in_+1 }:=⟨⟨[],jE⟩,Nat.le_refl _,fun _ _=>rfl,by show R.in_<=R.in_+1;omega,.inr (by show R.in_+1<=_;omega),.inl jl,fun _ _ _=>rfl,.inl rfl,rfl⟩;exact hm.lw (zu (by exact TB) (by exact h1) _ _ _) (Ct _ _ _ _)
  split
  ·have hf:=L0 R p inp node a;obtain⟨f1,f2⟩:=Rw R p a;split
   ·exact hf.lw (zu (by rw[f1,f2];exact TB) (by rw[f1];exact h1) _ _ _) (Ct _ _ _ _)
   ·exact hf
  split
  ·exact P' _
  ·exact hR
 split
 ·rename_i e1;obtain⟨a,ha,hr⟩:=sh.1.nN e1;have S6:(ao p node).l=[a]:=ha;have hx:nth (ao p node).l 0=a:=by rw[S6];rfl
  rw[hx];exact HL R p inp node a ZG ⟨by rw[S6];simp,by rw[hx];exact hr⟩
 split
 ·exact P6 R p inp node TB h1
 split
 ·split
  ·exact V8 _
  split
  ·exact hR
  ·exact V8 _
 split
 ·exact hR
 split
 ·split
  ·exact hR
  ·have hm:∀t,Mv p inp node R { R with aC:=R.aC++[t] }:=fun t=>⟨⟨[t],rfl,Nat.le_refl _⟩,Nat.le_refl _,fun _ _=>rfl,Int.le_refl _,.inl rfl,.inl jl,fun _ _ _=>rfl,.inl rfl,rfl⟩
   exact(hm _).lw (xz (by exact TB) (by exact h1)) ⟨rfl,rfl,rfl,rfl,rfl⟩
 split
 ·(repeat' split)<;>first|exact hod _|exact UB
 split
 ·split
  ·exact Ww _
  ·exact UB
 ·exact hR
structure wu(inp:List Int)(s:aM):Prop where
 s0:0<=s.status
 s3:s.status<=3
 none:s.status=2->s.ap.length=0
 bp:s.status=3<->s.bp≠0
 hZ:s.in_<=inp.length
structure ot(p:ab)(inp:List Int)(s b:aM):Prop where
 out:∃o:List ByteArray,b.aC=s.aC++o/\o.length<=1
 hl:s.heap.length<=b.heap.length
 len:∀k,k<s.heap.length->(nth b.heap k).length=(nth s.heap k).length
 i0:s.in_<=b.in_
 nf:b.ap.length<=s.ap.length\/(b.ap.length<=s.ap.length+1/\Ch p (dG p s)/\0<=dG p b/\(s.status≠2/\s.status≠3))
 low:∀k,k+1<s.ap.length->k+1<b.ap.length->nth b.ap k=nth s.ap k
 t0:s.time<=b.time
 t1:b.time<=s.time+1
 still:s.status=2\/s.status=3->b=s
 go:¬(s.status=2\/s.status=3)->b.status≠1->b.time=s.time+1
def ot.refl(p:ab)(inp:SI)(s:aM)(h:s.status=2\/s.status=3):ot p inp s s:=
 ⟨⟨[],jE⟩,Nat.le_refl _,fun _ _=>rfl,Int.le_refl _,.inl jl,fun _ _ _=>rfl,Int.le_refl _,jB,fun _=>rfl,fun h'=>(h' h).elim⟩
def Rm(hs:cY p)(h:lZ p n s)(hn:inp.length<=1000)(hq:wu inp s):wu inp (gN p s inp)/\ot p inp s (gN p s inp):=by
 have hb:=Hq hs h.inv hn;generalize Vt:gN p s inp=b at hb ⊢;unfold gN at Vt;by_cases h0:dG p s<0
 ·rw[if_pos h0]at Vt;subst Vt;refine⟨hq,ot.refl p inp s ?_⟩;apply Classical.byContradiction;intro hh;have hd:=h.inv.gW (fun e=>hh (.inl e)) 0 jC;obtain⟨s0,_⟩:=hd.stmt hs;rw[RS.fv]at s0;unfold dG at h0;rw[if_neg hh]at h0;have:bB p { s with status:=0 }=bB p s:=rfl;omega
 rw[if_neg h0]at Vt;have h2:¬(s.status=2\/s.status=3):=fun hh=>h0 (by unfold dG;rw[if_pos hh];decide)
 have Yz:s.bp=0:=Classical.byContradiction fun e=>h2 (.inr (hq.bp.2 e))
 by_cases hw:kn p s (dG p s) inp
 ·rw[if_pos hw]at Vt;subst Vt;refine⟨⟨by show(0:Int)<=1;decide,by show(1:Int)<=3;decide,fun e=>absurd e (by show¬((1:Int)=2);decide),⟨fun e=>absurd e (by show¬((1:Int)=3);decide),fun e=>(e Yz).elim⟩,hq.hZ⟩,
   ⟨⟨[],jE⟩,Nat.le_refl _,fun _ _=>rfl,Int.le_refl _,.inl jl,fun _ _ _=>rfl,Int.le_refl _,by show s.time<=s.time+1;omega,fun e=>(h2 e).elim,fun _ e=>(e rfl).elim⟩⟩
 rw[if_neg hw]at Vt;simp only at Vt;have hd:=h.inv.gW (fun hh=>h2 (.inl hh)) 0 jC;have P':(RS.of { s with status:=0 }).st={ s with status:=0 }:=RS.fv _;have Tf:bB p (RS.of { s with status:=0 }).st=dG p s:=by rw[RS.fv];unfold dG;rw[if_neg h2];rfl
 have hm:=EJ hs hd (inp:=inp) (by rw[Tf,P'];exact hw);have ha:=fun e=>hd.bO hs hn (by rw[Tf,P'];exact hw) e
 rw[Tf]at hm ha;generalize (RS.of { s with status:=0 }).bO p (dG p s) inp=X at*;by_cases hz:X.2=0
 rotate_left
 ·rw[if_pos hz]at Vt;subst Vt;exact⟨⟨by show(0:Int)<=3;decide,by show(3:Int)<=3;decide,fun e=>absurd e (by show¬((3:Int)=2);decide),⟨fun _=>hz,fun _=>rfl⟩,hq.hZ⟩,
   ⟨⟨[],jE⟩,Nat.le_refl _,fun _ _=>rfl,Int.le_refl _,.inl jl,fun _ _ _=>rfl,by show s.time<=s.time+1;omega,by show s.time+1<=s.time+1;omega,fun e=>(h2 e).elim,fun _ _=>rfl⟩⟩
 rw[if_neg (fun e=>e hz)]at Vt;have hA:=ha hz;have YV:da p { X.1 with time:=s.time+1 }:=⟨⟨hA.inv.ok.nf,hA.inv.ok.jp⟩,hA.inv.aw,hA.inv.fr,hA.inv.busy,hA.inv.go⟩;have Uj:=xB p (RS.left { X.1 with time:=s.time+1 }+1) { X.1 with time:=s.time+1 } YV.ok.nf YV.go;have W5:=qx p (RS.left { X.1 with time:=s.time+1 }+1) { X.1 with time:=s.time+1 };have hok:(RS.settle { X.1 with time:=s.time+1 } p).nf<=(RS.settle { X.1 with time:=s.time+1 } p).aw.length:=(qL (RS.left { X.1 with time:=s.time+1 }+1) { X.1 with time:=s.time+1 } YV jB).1.ok.nf;have hX:Mv p inp (dG p s) (RS.of { s with status:=0 }) { X.1 with time:=s.time+1 }:=⟨hm.out,hm.hl,hm.len,hm.i0,hm.i1,hm.nf,hm.low,hm.st,hm.bp⟩;have Un:=hX.lw Uj W5;have Zo:b.time=s.time+1:=by rw[<-Vt];exact W5.time
 change (RS.settle { X.1 with time:=s.time+1 } p).st=b at Vt
 change Mv p inp (dG p s) _ (RS.settle { X.1 with time:=s.time+1 } p)at Un
 generalize RS.settle { X.1 with time:=s.time+1 } p=T at*;have Uk:b.ap.length=T.nf:=by rw[<-Vt];show(T.aw.take T.nf).length=_;simp;omega
 have hfk:∀k,k<T.nf->nth b.ap k=nth T.aw k:=fun k hk=>by rw[<-Vt];exact cu _ _ _ hk
 have Tr:(RS.of { s with status:=0 }).nf=s.ap.length:=rfl;have W6:b.status=T.status:=by rw[<-Vt];rfl
 have har:b.bp=T.bp:=by rw[<-Vt];rfl
 have YA:b.in_=T.in_:=by rw[<-Vt];rfl
 have ZH:b.heap=T.heap:=by rw[<-Vt];rfl
 have hau:b.aC=T.aC:=by rw[<-Vt];rfl
 have W7:T.status=0\/(T.status=2/\T.nf=0):=Un.st;have hav:T.bp=s.bp:=Un.bp;refine⟨⟨by rw[W6];rcases W7 with e|e<;>omega,by rw[W6];rcases W7 with e|e<;>omega,fun e=>?_,?_,?_⟩,⟨by rw[hau];exact Un.out,by rw[ZH];exact Un.hl,by rw[ZH];exact Un.len,by rw[YA];exact Un.i0,?_,fun k k1 k2=>?_,jB,jB,fun e=>(h2 e).elim,fun _ _=>Zo⟩⟩
 ·rw[W6]at e;rw[Uk];rcases W7 with e'|e'<;>omega
 ·rw[W6,har,hav,Yz];rcases W7 with e|e<;>(constructor<;>intro e'<;>omega)
 ·rw[YA];rcases Un.i1 with e|e
  ·rw[e];exact hq.hZ
  ·exact e
 ·rw[Uk];rcases Un.nf with e|⟨e1,e2⟩
  ·exact .inl e
  by_cases Ta:T.nf<=s.ap.length
  ·exact .inl Ta
  refine .inr ⟨e1,e2,?_,fun e=>h2 (.inl e),fun e=>h2 (.inr e)⟩;have Tb:¬(b.status=2\/b.status=3):=by rw[W6];rcases W7 with e|e<;>omega
  have hdb:=hb.gW (fun hh=>Tb (.inl hh)) 0 jC;obtain⟨s0,_⟩:=hdb.stmt hs;rw[RS.fv]at s0;unfold dG;rw[if_neg Tb];exact s0
 ·rw[Uk]at k2;rw[hfk k jB,Un.low k (by rw[Tr];exact k1) k2];rfl
def Q5(hs:cY p)(inp:SI):wu inp (oe p):=by
 rw[CE];have hI:=(un hs).inv;have Uj:=xB p ((gS p).left+1) (gS p) hI.ok.nf hI.go;have W5:=qx p ((gS p).left+1) (gS p);have hok:((gS p).settle p).nf<=((gS p).settle p).aw.length:=(qL ((gS p).left+1) (gS p) hI jB).1.ok.nf;change Lw _ ((gS p).settle p)at Uj
 change Kept _ ((gS p).settle p)at W5
 generalize (gS p).settle p=T at*;have h0:T.status=0\/(T.status=2/\T.nf=0):=Uj.st;have ht:T.bp=0:=W5.bp;have hi:T.in_=0:=W5.in_;refine⟨by show 0<=T.status;omega,by show T.status<=3;omega,fun e=>?_,?_,by show T.in_<=_;omega⟩
 ·show(T.aw.take T.nf).length=0;have e:T.status=2:=e;have:T.nf=0:=jB;rw[this];rfl
 ·show T.status=3<->T.bp≠0;constructor<;>intro e<;>omega
end Go.Proofs.YtbjookcdpondlaaGreatDoor