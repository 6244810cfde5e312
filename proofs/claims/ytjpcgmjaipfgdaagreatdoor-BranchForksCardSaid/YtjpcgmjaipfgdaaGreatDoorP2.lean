/- Lemmas. No conditions. -/
import Derived.Test.YtjpcgmjaipfgdaaGreatDoorLxT
set_option linter.all false
set_option maxHeartbeats 4000000
set_option maxRecDepth 10000
namespace Go.Gd
open Go
def pZ{α:Type}[Inhabited α]{a b:List α}{i:Nat}(h:i<a.length):nth (a++b) i=nth a i:=by simp[nth,List.getD_eq_getElem?_getD,List.getElem?_append_left h]
def qq{α:Type}[Inhabited α](a:List α)(x:α):nth (a++[x]) a.length=x:=by simp[nth,List.getD_eq_getElem?_getD]
def bX(t:List bw)(i:Int):Int:=(nth t i.toNat).kind
def cW(k:Int):Prop:=1<=k/\k<=9
def fz(k:Int):Prop:=cW k\/k=19\/k=20\/k=21
def fF(k:Int):Prop:=10<=k/\k<=17
def yw:List U0:=[(⟨#[124,124]⟩:U0),(⟨#[38,38]⟩:U0),(⟨#[60]⟩:U0),(⟨#[60,61]⟩:U0),(⟨#[61,61]⟩:U0),(⟨#[33,61]⟩:U0),(⟨#[43]⟩:U0),(⟨#[45]⟩:U0),(⟨#[42]⟩:U0),(⟨#[47]⟩:U0),(⟨#[37]⟩:U0)]
structure Shape(t:List bw)(n:bw):Prop where
 any:1<=n.kind/\n.kind<=21
 zero:n.kind=1\/n.kind=2\/n.kind=3\/n.kind=4\/n.kind=19->n.l=[]
 one:n.kind=5\/n.kind=6\/n.kind=7\/n.kind=8\/n.kind=14\/n.kind=20->∃a,n.l=[a]/\cW (bX t a)
 two:n.kind=9\/n.kind=12->∃a b,n.l=[a,b]/\cW (bX t a)/\cW (bX t b)
 right:n.kind=10\/n.kind=11->∃a,n.l=[a]/\fz (bX t a)
 sU:n.kind=13->∃a,n.l=[a]/\bX t a=21
 lg:n.kind=15->∃a b,cW (bX t a)/\bX t b=18/\(n.l=[a,b]\/∃d,n.l=[a,b,d]/\bX t d=18)
 ee:n.kind=16->∃a b,n.l=[a,b]/\cW (bX t a)/\bX t b=18
 ret:n.kind=17->n.l=[]\/∃a,n.l=[a]/\cW (bX t a)
 block:n.kind=18->∀a∈n.l,fF (bX t a)
 call:n.kind=21->∀a∈n.l,cW (bX t a)
 num:n.kind=1->∃s,rj s/\n.n=pX s
 bool:n.kind=2->n.n=0\/n.n=1
 text:n.kind=3->n.name.size<=12
 sign:n.kind=9->n.name∈yw
inductive aP(t:List bw):Nat->List Int->Nat->Prop
 |nil (k:Nat):aP t k [] k
 |cons {lo c hi:Nat} {L:List Int} (hc:c<t.length) (h1:aP t lo (nth t c).l c) (h2:aP t (c+1) L hi):aP t lo ((c:Int)::L) hi
variable{t:List bw}{lo hi:Nat}{L:UY}
def aP.le(h:aP t lo L hi):lo<=hi:=by
 induction h with
 |nil=>exact Nat.le_refl _
 |cons _ _ _ i1 i2=>omega
def aP.mem(h:aP t lo L hi):∀a∈L,0<=a/\lo<=a.toNat/\a.toNat<hi/\a.toNat<t.length:=by
 induction h with
 |nil=>intro a ha;simp at ha
 |@cons lo c hi L hc h1 h2 i1 i2=>
  intro a ha;have l1:=h1.le;have l2:=h2.le;rcases List.mem_cons.1 ha with rfl|ha
  ·exact⟨jB,by simpa using l1,by simp;omega,by simpa using hc⟩
  ·have:=i2 a ha;omega
variable{u:List bw}
def aP.mono(h:aP t lo L hi):aP (t++u) lo L hi:=by
 induction h with
 |nil k=>exact .nil k
 |cons hc _ _ i1 i2=>exact .cons jF (by rw[pZ hc];exact i1) i2
variable{M:UY}
def aP.append{mid:Nat}(h:aP t lo L mid):aP t mid M hi->aP t lo (L++M) hi:=by
 induction h with
 |nil=>intro k;exact k
 |cons hc h1 _ _ i2=>intro k;exact .cons hc h1 (i2 k)
def aP.one{c:Nat}(hc:c<t.length)(h:aP t lo (nth t c).l c):aP t lo [(c:Int)] (c+1):=.cons hc h (.nil _)
def mS{a:Int}(h:a.toNat<t.length):bX (t++u) a=bX t a:=by unfold bX;rw[pZ h]
def Shape.mono{n:bw}(h:Shape t n)(hl:∀a∈n.l,a.toNat<t.length):Shape (t++u) n where
 any:=h.any
 zero:=h.zero
 one:=fun e=>by obtain⟨a,h1,h2⟩:=h.one e;exact⟨a,h1,by rw[mS (hl a (by rw[h1];simp))];exact h2⟩
 two:=fun e=>by obtain⟨a,b,h1,h2,h3⟩:=h.two e;exact⟨a,b,h1,by rw[mS (hl a (by rw[h1];simp))];exact h2,by rw[mS (hl b (by rw[h1];simp))];exact h3⟩
 right:=fun e=>by obtain⟨a,h1,h2⟩:=h.right e;exact⟨a,h1,by rw[mS (hl a (by rw[h1];simp))];exact h2⟩
 sU:=fun e=>by obtain⟨a,h1,h2⟩:=h.sU e;exact⟨a,h1,by rw[mS (hl a (by rw[h1];simp))];exact h2⟩
 lg:=fun e=>by
  obtain⟨a,b,h1,h2,h3⟩:=h.lg e;rcases h3 with h3|⟨d,h3,h4⟩
  ·exact⟨a,b,by rw[mS (hl a (by rw[h3];simp))];exact h1,by rw[mS (hl b (by rw[h3];simp))];exact h2,.inl h3⟩
  ·exact⟨a,b,by rw[mS (hl a (by rw[h3];simp))];exact h1,by rw[mS (hl b (by rw[h3];simp))];exact h2,.inr ⟨d,h3,by rw[mS (hl d (by rw[h3];simp))];exact h4⟩⟩
 ee:=fun e=>by obtain⟨a,b,h1,h2,h3⟩:=h.ee e;exact⟨a,b,h1,by rw[mS (hl a (by rw[h1];simp))];exact h2,by rw[mS (hl b (by rw[h1];simp))];exact h3⟩
 ret:=fun e=>by
  rcases h.ret e with h1|⟨a,h1,h2⟩
  ·exact .inl h1
  ·exact .inr ⟨a,h1,by rw[mS (hl a (by rw[h1];simp))];exact h2⟩
 block:=fun e a ha=>by rw[mS (hl a ha)];exact h.block e a ha
 call:=fun e a ha=>by rw[mS (hl a ha)];exact h.call e a ha
 num:=h.num
 bool:=h.bool
 text:=h.text
 sign:=h.sign
def aP.len(h:aP t lo L hi):L.length+lo<=hi:=by
 induction h with
 |nil=>simp
 |@cons lo c hi L hc h1 h2 i1 i2=> have:=h1.le;simp only[List.length_cons];omega
structure Mk(t t':List bw)(L:List Int):Prop where
 pre:∃u,t'=t++u
 chain:aP t' t.length L t'.length
 shape:∀k,t.length<=k->k<t'.length->Shape t' (nth t' k)/\(∀a∈(nth t' k).l,0<=a/\a.toNat<k)/\∃lo,aP t' lo (nth t' k).l k
def Mk.refl(t:List bw):Mk t t []:=⟨⟨[],jE⟩,.nil _,fun k h1 h2=>jB⟩
variable{a b:List bw}
def Mk.trans{c:List bw}(h:Mk a b L)(k:Mk b c M):Mk a c (L++M):=by
 obtain⟨⟨u,rfl⟩,h2,h3⟩:=h;obtain⟨⟨v,rfl⟩,k2,k3⟩:=k;refine⟨⟨u++v,jE⟩,h2.mono.append k2,fun i h4 h5=>?_⟩;by_cases hi:i<(a++u).length
 ·obtain⟨g1,g2,lo,g3⟩:=h3 i h4 hi;rw[pZ hi];exact⟨g1.mono fun x hx=>by have:=g2 x hx;omega,g2,lo,g3.mono⟩
 ·exact k3 i jB h5
def Mk.put(h:Mk a b L)(n:bw)(hn:n.l=L)(hs:Shape b n):Mk a (b++[n]) [(b.length:Int)]:=by
 obtain⟨⟨u,rfl⟩,h2,h3⟩:=h;have hm:∀x∈n.l,0<=x/\x.toNat<(a++u).length:=fun x hx=>by rw[hn]at hx;exact⟨(h2.mem x hx).1,(h2.mem x hx).2.2.1⟩
 refine⟨⟨u++[n],jE⟩,?_,fun i h4 h5=>?_⟩
 ·have e:((a++u)++[n]).length=(a++u).length+1:=by simp only[List.length_append,List.length_cons,List.length_nil]
  rw[e];refine aP.one jE ?_;rw[qq,hn];exact h2.mono
 ·by_cases hi:i<(a++u).length
  ·obtain⟨g1,g2,lo,g3⟩:=h3 i h4 hi;rw[pZ hi];exact⟨g1.mono fun x hx=>by have:=g2 x hx;omega,g2,lo,g3.mono⟩
  ·have:i=(a++u).length:=by simp at h5 hi ⊢;omega
   subst this;rw[qq];exact⟨hs.mono fun x hx=>(hm x hx).2,hm,a.length,by rw[hn];exact h2.mono⟩
def Mk.kind{c:List bw}(h:Mk a b L)(k:Mk b c M){x:Int}(hx:x∈L):bX c x=bX b x:=by obtain⟨⟨v,rfl⟩,_,_⟩:=k;exact mS (h.chain.mem x hx).2.2.2
def LL(t:List bw)(n:bw):bX (t++[n]) (t.length:Int)=n.kind:=by unfold bX;rw[Int.toNat_natCast,qq]
def lh(l:List cF):Prop:=∀k,k<l.length->(nth l k).kind=2->(nth l k).text.size<=12
def Made(r r':Rd)(L:UY)(C:Int->Prop):Prop:=r'.e=0->Mk r.nodes r'.nodes L/\∀a∈L,C (bX r'.nodes a)
structure Still(r r':Rd):Prop where
 nodes:r'.nodes=r.nodes
 err:r'.e=0->r.e=0
 l:r'.l=r.l
def Still.refl(r:Rd):Still r r:=⟨rfl,id,rfl⟩
theorem Still.trans{a b c:Rd}(h:Still a b)(k:Still b c):Still a c:=⟨k.nodes.trans h.nodes,fun e=>h.err (k.err e),k.l.trans h.l⟩
def zu(r:Rd){e:Int}(he:e≠0):Still r (r.aG e):=⟨Rd.dN _ _,fun h=>(Rd.gU he h).elim,Rd.gZ _ _⟩
def nA(r:Rd):Still r r.inc:=⟨rfl,id,rfl⟩
def za(r:Rd):Still r r.up:=⟨rfl,id,rfl⟩
def j8(r:Rd)(t:U0):Still r (r.ap t):=by
 unfold Rd.ap;split
 ·exact nA r
 ·exact zu r jC
def wb(r:Rd):Still r r.name.1:=by
 unfold Rd.name;split
 ·exact nA r
 ·exact zu r jC
def zK(r:Rd):Still r r.down:=by
 unfold Rd.down;split
 ·have:=zu r (e:=21) jC;exact⟨this.nodes,this.err,this.l⟩
 ·exact⟨rfl,id,rfl⟩
variable{r a b:Rd}{C:Int->Prop}
def Made.pre(s:Still r a)(h:Made a b L C):Made r b L C:=fun e=>by have:=h e;rwa [s.nodes]at this
def Made.post(h:Made r a L C)(s:Still a b):Made r b L C:=fun e=>by have:=h (s.err e);rwa [s.nodes]
def Made.nil(r:Rd)(C:Int->Prop):Made r r [] C:=fun _=>⟨Mk.refl _,fun a ha=>by simp at ha⟩
def Made.qc{D:Int->Prop}(h:Made r a L C)(hc:∀k,C k->D k):Made r a L D:=fun e=>⟨(h e).1,fun a ha=>hc _ ((h e).2 a ha)⟩
def Made.seq{c:Rd}{D:Int->Prop}(h:Made a b L C)(k:Made b c M D)(he:c.e=0->b.e=0):c.e=0->Mk a.nodes c.nodes (L++M)/\(∀x∈L,C (bX c.nodes x))/\∀x∈M,D (bX c.nodes x):=fun e=>by obtain⟨h1,h2⟩:=h (he e);obtain⟨k1,k2⟩:=k e;exact⟨h1.trans k1,fun x hx=>by rw[h1.kind k1 hx];exact h2 x hx,k2⟩
def Made.both{c:Rd}(h:Made a b L C)(k:Made b c M C)(he:c.e=0->b.e=0):Made a c (L++M) C:=fun e=>by obtain⟨h1,h2,h3⟩:=h.seq k he e;exact⟨h1,fun x hx=>(List.mem_append.1 hx).elim (h2 x) (h3 x)⟩
def kG(k ln n:Int)(nm:U0)(h:a.e=0->Mk r.nodes a.nodes L/\Shape a.nodes ⟨k,ln,n,nm,L⟩/\C k):Made r (a.put k ln n nm L).1 [(a.put k ln n nm L).2] C:=fun e=>by obtain⟨h1,h2,h3⟩:=h e;refine⟨h1.put _ rfl h2,fun x hx=>?_⟩;rw[List.mem_singleton.1 hx];show C (bX (a.nodes++[_]) (a.nodes.length:Int));rw[LL];exact h3
variable{k ln n:Int}{nm:U0}
def uH(hk:k=1\/k=2\/k=3\/k=4\/k=17\/k=19)(h1:k=1->∃s,rj s/\n=pX s)(h2:k=2->n=0\/n=1)(h3:k=3->nm.size<=12):Shape t ⟨k,ln,n,nm,[]⟩:=by constructor<;>(try simp only)<;>intros<;>first|(clear h1 h2 h3;omega)|(clear h1 h2 h3;exfalso;omega)|trivial|rfl|(exact .inl rfl)|(exact .inl trivial)|(refine h1 ?_;assumption)|(refine h2 ?_;assumption)|(refine h3 ?_;assumption)|fail
variable{a:Int}
def vJ(hk:k=5\/k=6\/k=7\/k=8\/k=14\/k=17\/k=20)(h:cW (bX t a)):Shape t ⟨k,ln,n,nm,[a]⟩:=by constructor<;>(try simp only)<;>intros<;>first|omega|omega|trivial|(exact⟨a,rfl,h⟩)|(exact .inr ⟨a,rfl,h⟩)
def GY(hk:k=10\/k=11)(h:fz (bX t a)):Shape t ⟨k,ln,n,nm,[a]⟩:=by constructor<;>(try simp only)<;>intros<;>first|omega|omega|trivial|(exact⟨a,rfl,h⟩)
def Pq(h:bX t a=21):Shape t ⟨13,ln,n,nm,[a]⟩:=by constructor<;>(try simp only)<;>intros<;>first|omega|omega|trivial|(exact⟨a,rfl,h⟩)
variable{b:Int}
def Fo(hk:k=12\/k=9/\nm∈yw)(h:cW (bX t a))(h':cW (bX t b)):Shape t ⟨k,ln,n,nm,[a,b]⟩:=by constructor<;>(try simp only)<;>intros<;>first|omega|omega|trivial|(exact⟨a,b,rfl,h,h'⟩)|(rcases hk with hk|hk;omega;exact hk.2)|fail
def QT(h:cW (bX t a))(h':bX t b=18):Shape t ⟨16,ln,n,nm,[a,b]⟩:=by constructor<;>(try simp only)<;>intros<;>first|omega|omega|trivial|(exact⟨a,b,rfl,h,h'⟩)
def Pk(h:cW (bX t a))(h':bX t b=18):Shape t ⟨15,ln,n,nm,[a,b]⟩:=by constructor<;>(try simp only)<;>intros<;>first|omega|omega|trivial|(exact⟨a,b,h,h',.inl rfl⟩)
def MX{d:Int}(h:cW (bX t a))(h':bX t b=18)(h'':bX t d=18):Shape t ⟨15,ln,n,nm,[a,b,d]⟩:=by constructor<;>(try simp only)<;>intros<;>first|omega|omega|trivial|(exact⟨a,b,h,h',.inr ⟨d,rfl,h''⟩⟩)
def K7(h:∀a∈L,fF (bX t a)):Shape t ⟨18,ln,n,nm,L⟩:=by constructor<;>(try simp only)<;>intros<;>first|omega|omega|trivial|(refine h _ ?_;assumption)|fail
def KZ(h:∀a∈L,cW (bX t a)):Shape t ⟨21,ln,n,nm,L⟩:=by constructor<;>(try simp only)<;>intros<;>first|omega|omega|trivial|(refine h _ ?_;assumption)|fail
def UF{lv:Int}(h:r.next lv≠⟨#[]⟩):r.next lv∈yw:=by
 unfold Rd.next at h ⊢;cases e:(nL lv).find? (fun s=>r.is s)with
 |none=>rw[e]at h;exact(h rfl).elim
 |some s=>
  have:=List.mem_of_find?_eq_some e;unfold nL at this;simp only;unfold yw;split at this
  ·simp at this ⊢;simp[this]
  split at this
  ·simp at this ⊢;simp[this]
  split at this
  ·simp at this ⊢;rcases this with h|h|h|h<;>simp[h]
  split at this
  ·simp at this ⊢;rcases this with h|h<;>simp[h]
  ·simp at this ⊢;rcases this with h|h|h<;>simp[h]
def pV{r':Rd}(s:Rd.St r r'):r'.e=0->r.e=0:=fun h=>Classical.byContradiction fun e=>s.err e h
def JO{e:Int}(he:e≠0):Made r (r.aG e) L C:=fun h=>(Rd.gU he h).elim
theorem IQ:∀n,(∀r:Rd,r.Inv->lh r.l->8*r.rem+1<=n->Made r (qV n r).1 [(qV n r).2] cW)/\(∀r:Rd,r.Inv->lh r.l->8*r.rem+2<=n->Made r (iS n r).1 [(iS n r).2] cW)/\
  (∀lv (r:Rd),r.Inv->lh r.l->lv<=5->8*r.rem+8<=n+lv->Made r (dZ n lv r).1 [(dZ n lv r).2] cW)/\
  (∀lv ln (r:Rd) (p:Rd×Int),p.1.Inv->lh p.1.l->lv<=4->8*p.1.rem+7<=n+lv->Made r p.1 [p.2] cW->Made r (oB n lv ln p).1 [(oB n lv ln p).2] cW)
 |0=>⟨fun r h ht hn=>by omega,fun r h ht hn=>by omega,fun lv r h ht h5 hn=>by omega,fun lv ln r p h ht h5 hn hp=>by omega⟩
 |n+1=>by
  obtain⟨ia,lg,ic,il⟩:=IQ n;have ist:=sG n;have deeper:∀(r:Rd) (t u:U0),r.Inv->lh r.l->r.e=0->8*r.rem+1<=n+1->(r.is t=true\/8*r.rem+8<=n)->Made r ((dZ n 0 (r.down.ap t)).1.ap u).up [(dZ n 0 (r.down.ap t)).2] cW:=fun r t u h ht he hn hx=>by
   have h1:=(Rd.bK h he).1;have s1:=Rd.aO h1 t;have hr:8*(r.down.ap t).rem+8<=n+0:=by
    rcases hx with hx|hx
    ·have:=(Rd.gW h hx).1;omega
    ·have:=s1.rem;have Y8:r.down.rem<=r.rem:=by
      unfold Rd.rem;obtain⟨_,_,h3,h4,_⟩:=Rd.bK h he;rw[h3,h4,if_pos he];split<;>omega
     omega
   have st:=(zK r).trans (j8 r.down t);have:=ic 0 (r.down.ap t) (s1.inv h1) (by rw[st.l];exact ht) jB hr;exact((this.pre st).post (j8 _ _)).post (za _)
  refine⟨fun r h ht hn=>?_,fun r h ht hn=>?_,fun lv r h ht h5 hn=>?_,fun lv ln r p h ht h5 hn hp=>?_⟩
  ·unfold qV;split
   ·rename_i he;exact fun h=>(he h).elim
   rename_i he;have he:r.e=0:=jB;have WS:r.i.toNat<r.l.length:=by have:=h.lt;have:=h.pos;omega
   split
   ·rename_i hk;exact kG _ _ _ _ fun _=>⟨Mk.refl _,uH jB (fun _=>⟨_,h.num _ WS hk,rfl⟩) jH jH,by unfold cW;omega⟩
   split
   ·rename_i hk;exact kG _ _ _ _ fun _=>⟨Mk.refl _,uH jB jH jH (fun _=>ht _ WS hk),by unfold cW;omega⟩
   split
   ·rename_i hk;have WJ:r.e=0/\r.tok.kind≠0:=⟨he,jB⟩;split
    ·have hi:=(Rd.bt h WJ.2).1.inv h;have hr:=Rd.dr h WJ;have hm:=deeper r.inc (⟨#[91]⟩:U0) (⟨#[93]⟩:U0) hi ht he jB (.inl (by assumption));exact kG _ _ _ _ fun e=>⟨(hm e).1,vJ jB ((hm e).2 _ jE),by unfold cW;omega⟩
    ·exact kG _ _ _ _ fun _=>⟨Mk.refl _,uH jB jH jH jH,by unfold cW;omega⟩
   split
   ·exact kG _ _ _ _ fun _=>⟨Mk.refl _,uH jB jH (fun _=>.inr rfl) jH,by unfold cW;omega⟩
   split
   ·exact kG _ _ _ _ fun _=>⟨Mk.refl _,uH jB jH (fun _=>.inl rfl) jH,by unfold cW;omega⟩
   split
   ·rename_i hs;have WJ:=Rd.bc hs;split
    ·have hi:=(Rd.bt h WJ.2).1.inv h;have hr:=Rd.dr h WJ;have hm:=deeper r.inc (⟨#[40]⟩:U0) (⟨#[41]⟩:U0) hi ht he jB (.inl (by assumption));exact kG _ _ _ _ fun e=>⟨(hm e).1,vJ jB ((hm e).2 _ jE),by unfold cW;omega⟩
    ·exact fun e=>(Rd.gU jC e).elim
   split
   ·exact deeper r (⟨#[40]⟩:U0) (⟨#[41]⟩:U0) h ht he hn (.inl (by assumption))
   ·exact JO jC
  ·unfold iS;have sg:∀t,r.is t=true->∀k ln nm,(k=7\/k=8)->Made r (((iS n r.down.inc).1.up).put k ln 0 nm [(iS n r.down.inc).2]).1 [(((iS n r.down.inc).1.up).put k ln 0 nm [(iS n r.down.inc).2]).2] cW:=fun t Yt k ln nm hk=>by
    obtain⟨he,YA⟩:=Rd.bc Yt;obtain⟨h1,h2,h3,h4,h5,h6⟩:=Rd.bK h he;have WS:r.down.tok=r.tok:=by unfold Rd.tok;rw[h3,h4]
    have s1:=(Rd.bt h1 (by rw[WS];exact YA)).1;have st:=(zK r).trans (nA r.down);have hr:8*r.down.inc.rem+2<=n:=by
     have hb:=Rd.behind h YA;unfold Rd.rem at hn ⊢;rw[if_pos he]at hn;have e1:r.down.inc.i=r.i+1:=by show r.down.i+1=_;rw[h3]
     have e2:r.down.inc.l=r.l:=h4;rw[e1,e2];have:=h.pos;split<;>omega
    have hm:=((lg r.down.inc (s1.inv h1) (by rw[st.l];exact ht) hr).pre st).post (za _);exact kG _ _ _ _ fun e=>⟨(hm e).1,vJ jB ((hm e).2 _ jE),by unfold cW;omega⟩
   split
   ·rename_i Yt;exact sg _ Yt _ _ _ (.inl rfl)
   split
   ·rename_i Yt;exact sg _ Yt _ _ _ (.inr rfl)
   ·exact ia r h ht jB
  ·unfold dZ;split
   ·exact lg r h ht jB
   ·have s1:=ist.2.2.1 (lv+1) r h;exact il lv _ r _ (s1.inv h) (by rw[s1.l];exact ht) jB (by have:=s1.rem;omega) (ic (lv+1) r h ht jB jB)
  ·unfold oB;split
   ·exact hp
   rename_i Ze;have WJ:=Rd.bc (Rd.lI Ze);have s1:=(Rd.bt h WJ.2).1;have hr:=Rd.dr h WJ;have s2:=ist.2.2.1 (lv+1) _ (s1.inv h);have hm:=ic (lv+1) p.1.inc (s1.inv h) (by rw[s1.l];exact ht) jB jB;have Z6:=(hp.post (nA _)).seq hm (pV s2);have haS:Made r ((dZ n (lv+1) p.1.inc).1.put 9 ln 0 (p.1.next lv) [p.2,(dZ n (lv+1) p.1.inc).2]).1 [((dZ n (lv+1) p.1.inc).1.put 9 ln 0 (p.1.next lv) [p.2,(dZ n (lv+1) p.1.inc).2]).2] cW:=
    kG _ _ _ _ fun e=>⟨(Z6 e).1,Fo (.inr ⟨rfl,UF Ze⟩) ((Z6 e).2.1 _ jE) ((Z6 e).2.2 _ jE),by unfold cW;omega⟩
   split
   ·exact haS
   ·have s3:=Rd.dj (s1.trans s2) (by have:=s2.dS;have:=(Rd.bt h WJ.2).2;omega) 9 ln 0 (p.1.next lv) [p.2,(dZ n (lv+1) p.1.inc).2];exact il lv ln r _ (s3.inv h) (by rw[s3.l];exact ht) h5 (by have e:((dZ n (lv+1) p.1.inc).1.put 9 ln 0 (p.1.next lv) [p.2,(dZ n (lv+1) p.1.inc).2]).1.rem=(dZ n (lv+1) p.1.inc).1.rem:=rfl;show 8*((dZ n (lv+1) p.1.inc).1.put 9 ln 0 (p.1.next lv) [p.2,(dZ n (lv+1) p.1.inc).2]).1.rem+7<=_;rw[e];have:=s2.rem;omega) haS
def rW(h:r.Inv)(ht:lh r.l):Made r (dq r).1 [(dq r).2] cW:=(IQ _).2.2.1 0 r h ht jB jB
def St.kz{r':Rd}(s:Rd.St r r')(h:lh r.l):lh r'.l:=by rw[s.l];exact h
theorem Gk:∀(n:Nat) (b:Bool) (r0 r:Rd) (L:UY),r.Inv->lh r.l->Made r0 r L cW->Made r0 (nQ n b r L).1 (nQ n b r L).2 cW
 |0,_,r0,r,L,h,ht,hm=>by unfold nQ;exact hm
 |n+1,false,r0,r,L,h,ht,hm=>by unfold nQ;exact hm
 |n+1,true,r0,r,L,h,ht,hm=>by
  have s1:=kv h;have h1:=s1.inv h;have m1:=hm.both (rW h ht) (pV s1);unfold nQ;split
  ·rename_i hs;have s2:=(Rd.bt h1 (Rd.bc hs).2).1;exact Gk n _ r0 _ _ (s2.inv h1) (St.kz s2 (St.kz s1 ht)) (m1.post (nA _))
  ·exact m1
def JJ(h:r.Inv)(ht:lh r.l):Made r (nn r).1 [(nn r).2] (fun k=>k=21):=by have hs:=Ak h;have st:=(wb r).trans (j8 r.name.1 (⟨#[40]⟩:U0));have hm:Made r (ob r).1 (ob r).2 cW:=Gk _ _ r _ _ (hs.inv h) (St.kz hs ht) ((Made.nil _ _).pre st);have hm:=hm.post (j8 (ob r).1 (⟨#[41]⟩:U0));exact kG _ _ _ _ fun e=>⟨(hm e).1,KZ (hm e).2,rfl⟩
def I8(h:r.Inv)(ht:lh r.l):Made r (lN r).1 [(lN r).2] fz:=by
 unfold lN;split
 ·exact kG _ _ _ _ fun _=>⟨Mk.refl _,uH jB jH jH jH,by unfold fz;omega⟩
 split
 ·rename_i hs;have s1:=(Rd.bt h (Rd.bc hs).2).1;have s2:=s1.trans (Rd.aO (s1.inv h) (⟨#[40]⟩:U0));have hm:=((rW (s2.inv h) (St.kz s2 ht)).pre ((nA r).trans (j8 _ _))).post (j8 _ (⟨#[41]⟩:U0));exact kG _ _ _ _ fun e=>⟨(hm e).1,vJ jB ((hm e).2 _ jE),by unfold fz;omega⟩
 split
 ·exact(JJ h ht).qc fun k hk=>by unfold fz;omega
 ·exact(rW h ht).qc fun k hk=>.inl hk
def Oa(h:r.Inv)(ht:lh r.l)(he:r.e=0):Made r (pC r).1 [(pC r).2] cW:=by have h1:=(Rd.bK h he).1;have s1:=Rd.aO h1 (⟨#[91]⟩:U0);have st:=(zK r).trans (j8 r.down (⟨#[91]⟩:U0));exact(rW (s1.inv h1) (by rw[st.l];exact ht)).pre st
def NI(h:r.Inv)(ht:lh r.l)(he:r.e=0)(ln:Int):Made r (pO r ln).1 [(pO r ln).2] fF:=by
 unfold pO;split
 ·have hm:=(JJ h ht).post (j8 _ (⟨#[59]⟩:U0));exact kG _ _ _ _ fun e=>⟨(hm e).1,Pq ((hm e).2 _ jE),by unfold fF;omega⟩
 have s0:=Rd.dz h;have h0:=s0.inv h;split
 ·rename_i hs;have he0:=(Rd.bc hs).1;have m1:=Oa h0 (St.kz s0 ht) he0;obtain⟨t1,t2⟩:=yG h0 hs;have sB:Rd.St r.name.1 ((pC r.name.1).1.ap (⟨#[93]⟩:U0)).up:=(DX h0 hs).2;have stl:Still (pC r.name.1).1 (((pC r.name.1).1.ap (⟨#[93]⟩:U0)).up.ap (⟨#[61]⟩:U0)):=((j8 _ _).trans (za _)).trans (j8 _ _);have m2:Made (((pC r.name.1).1.ap (⟨#[93]⟩:U0)).up.ap (⟨#[61]⟩:U0)) (vf r.name.1).1 [(vf r.name.1).2] cW:=rW (t1.inv h0) (St.kz t1 (St.kz s0 ht));have hm:=((m1.post stl).both m2 (pV (kv (t1.inv h0)))).post (j8 _ (⟨#[59]⟩:U0));have hm:=hm.pre (wb r);exact kG _ _ _ _ fun e=>⟨(hm e).1,Fo (.inl rfl) ((hm e).2 _ jE) ((hm e).2 _ jE),by unfold fF;omega⟩
 ·have s1:=s0.trans (Rd.aO h0 (⟨#[61]⟩:U0));have hm:=((I8 (s1.inv h) (St.kz s1 ht)).pre ((wb r).trans (j8 _ _))).post (j8 _ (⟨#[59]⟩:U0));exact kG _ _ _ _ fun e=>⟨(hm e).1,GY (.inr rfl) ((hm e).2 _ jE),by unfold fF;omega⟩
theorem Ec:∀n,(∀r:Rd,r.Inv->lh r.l->4*r.rem+1<=n->Made r (gm n r).1 [(gm n r).2] (fun k=>k=18))/\
  (∀(r0 r:Rd) L,r.Inv->lh r.l->4*r.rem+3<=n->Made r0 r L fF->Made r0 (ng n r L).1 (ng n r L).2 fF)/\
  (∀r:Rd,r.Inv->lh r.l->r.e=0->4*r.rem+2<=n->Made r (oq n r).1 [(oq n r).2] fF)
 |0=>⟨fun r h ht hn=>by omega,fun r0 r L h ht hn hm=>by omega,fun r h ht he hn=>by omega⟩
 |n+1=>by
  obtain⟨ib,il,is_⟩:=Ec n;have ist:=tx n;refine⟨fun r h ht hn=>?_,fun r0 r L h ht hn hm=>?_,fun r h ht he hn=>?_⟩
  ·unfold gm;split
   ·rename_i hx;have he:=(Rd.bc hx).1;have hd:=(Rd.bK h he).1;have s1:=Rd.aO hd (⟨#[123]⟩:U0);have st:=(zK r).trans (j8 r.down (⟨#[123]⟩:U0));have hr:=(Rd.gW h hx).1;have hm:=il r (r.down.ap (⟨#[123]⟩:U0)) [] (s1.inv hd) (by rw[st.l];exact ht) jB ((Made.nil _ _).pre st);have hm:=(hm.post (j8 _ (⟨#[125]⟩:U0))).post (za _);exact kG _ _ _ _ fun e=>⟨(hm e).1,K7 (hm e).2,rfl⟩
   ·exact JO jC
  ·unfold ng;split
   ·rename_i hc;have YO:0<n:=jB;obtain⟨s1,s2⟩:=ist.2.2 r h hc.1 YO;have WX:=hm.both (is_ r h ht hc.1 jB) (pV s1);exact il r0 _ _ (s1.inv h) (St.kz s1 ht) jB WX
   ·exact hm
  ·unfold oq;have word:∀w:U0,w≠⟨#[]⟩->r.word=w->r.inc.Inv/\r.inc.rem+1<=r.rem/\Rd.St r r.inc:=fun w h0 hw=>by
    have hk:=Rd.dR (Rd.gV hw h0) jC;exact⟨(Rd.bt h hk.2).1.inv h,Rd.dr h hk,(Rd.bt h hk.2).1⟩
   split
   ·rename_i hw;obtain⟨h1,h2,s1⟩:=word _ jC hw;have s2:=Rd.dz h1;have s3:=s2.trans (Rd.aO (s2.inv h1) (⟨#[61]⟩:U0));have hm:=((I8 (s3.inv h1) (St.kz s3 ht)).pre ((nA r).trans ((wb r.inc).trans (j8 _ _)))).post (j8 _ (⟨#[59]⟩:U0));exact kG _ _ _ _ fun e=>⟨(hm e).1,GY (.inl rfl) ((hm e).2 _ jE),by unfold fF;omega⟩
   split
   ·rename_i hw;obtain⟨h1,h2,s1⟩:=word _ jC hw;have hm:=((rW h1 (St.kz s1 ht)).pre (nA r)).post (j8 _ (⟨#[59]⟩:U0));exact kG _ _ _ _ fun e=>⟨(hm e).1,vJ jB ((hm e).2 _ jE),by unfold fF;omega⟩
   split
   ·rename_i hw;obtain⟨h1,h2,s1⟩:=word _ jC hw;have s2:=kv h1;have s3:=ist.1 _ (s2.inv h1);have hm:=((rW h1 (St.kz s1 ht)).pre (nA r)).seq (ib (dq r.inc).1 (s2.inv h1) (St.kz s2 (St.kz s1 ht)) (by have:=s2.rem;omega)) (pV s3);exact kG _ _ _ _ fun e=>⟨(hm e).1,QT ((hm e).2.1 _ jE) ((hm e).2.2 _ jE),by unfold fF;omega⟩
   split
   ·rename_i hw;obtain⟨h1,h2,s1⟩:=word _ jC hw;have s2:=kv h1;have h3:=s2.inv h1;have s3:=ist.1 _ h3;have h4:=s3.inv h3;have hm:=((rW h1 (St.kz s1 ht)).pre (nA r)).seq (ib (dq r.inc).1 h3 (St.kz s2 (St.kz s1 ht)) (by have:=s2.rem;omega)) (pV s3);split
    ·rename_i hx;have hk:=Rd.bc hx;have s5:=(Rd.bt h4 hk.2).1;have hr5:=Rd.dr h4 hk;have h5:=s5.inv h4;have s6:=ist.1 _ h5;have m3:=(ib (gm n (dq r.inc).1).1.inc h5 (St.kz s5 (St.kz s3 (St.kz s2 (St.kz s1 ht)))) (by have:=s2.rem;have:=s3.rem;omega)).pre (nA _);have he5:=fun e=>pV s5 (pV s6 e)
     exact kG _ _ _ _ fun e=>by obtain⟨a1,a2,a3⟩:=hm (he5 e);obtain⟨b1,b2⟩:=m3 e;exact⟨a1.trans b1,MX (by rw[a1.kind b1 jE];exact a2 _ jE) (by rw[a1.kind b1 jE];exact a3 _ jE) (b2 _ jE),by unfold fF;omega⟩
    ·exact kG _ _ _ _ fun e=>⟨(hm e).1,Pk ((hm e).2.1 _ jE) ((hm e).2.2 _ jE),by unfold fF;omega⟩
   split
   ·rename_i hw;obtain⟨h1,h2,s1⟩:=word _ jC hw;split
    ·have hm:=((Made.nil r.inc cW).pre (nA r)).post (j8 _ (⟨#[59]⟩:U0));exact kG _ _ _ _ fun e=>⟨(hm e).1,uH jB jH jH jH,by unfold fF;omega⟩
    ·have hm:=((rW h1 (St.kz s1 ht)).pre (nA r)).post (j8 _ (⟨#[59]⟩:U0));exact kG _ _ _ _ fun e=>⟨(hm e).1,vJ jB ((hm e).2 _ jE),by unfold fF;omega⟩
   ·exact NI h ht he _
def Mf(h:r.Inv)(ht:lh r.l):Made r (oO r).1 [(oO r).2] (fun k=>k=18):=(Ec _).1 r h ht jB
-- functions
structure q9(f:bk):Prop where
 ps:∀p∈f.params,1<=p.ty/\p.ty<=4
 ret:0<=f.ret/\f.ret<=4
def LU(w:U0):0<=tA w/\tA w<=4:=by
 unfold tA;repeat' split
 all_goals omega
def Ge(r:Rd):Still r (jc r).1:=by
 unfold jc;split
 ·exact zu r jC
 ·exact nA r
def FE(he:(jc r).1.e=0):1<=(jc r).2/\(jc r).2<=4:=by
 unfold jc at he ⊢;split
 ·rename_i h;rw[if_pos h]at he;exact(Rd.gU jC he).elim
 ·have:=LU r.word;simp only;omega
theorem Fp:∀(n:Nat) (b:Bool) (r:Rd) (L:List bI),Still r (mU n b r L).1/\((mU n b r L).1.e=0->(∀p∈L,1<=p.ty/\p.ty<=4)->∀p∈(mU n b r L).2,1<=p.ty/\p.ty<=4)
 |0,_,r,L=>by unfold mU;exact⟨.refl r,fun _ h=>h⟩
 |n+1,false,r,L=>by unfold mU;exact⟨.refl r,fun _ h=>h⟩
 |n+1,true,r,L=>by
  have st:Still r (p9 r):=(wb r).trans (Ge _);have hL:(p9 r).e=0->(∀p∈L,1<=p.ty/\p.ty<=4)->∀p∈L++[⟨r.name.2,(jc r.name.1).2⟩],1<=p.ty/\p.ty<=4:=fun e h p hp=>by
   rcases List.mem_append.1 hp with hp|hp
   ·exact h p hp
   ·rw[List.mem_singleton.1 hp];exact FE e
  unfold mU;split
  ·obtain⟨a,b⟩:=Fp n true (p9 r).inc (L++[⟨r.name.2,(jc r.name.1).2⟩]);exact⟨st.trans ((nA _).trans a),fun e h=>b e (hL (a.err e) h)⟩
  ·exact⟨st,hL⟩
def UI(h:r.Inv)(ht:lh r.l):Made r (mW r).1 [(mW r).2.body] (fun k=>k=18)/\((mW r).1.e=0->q9 (mW r).2):=by
 have h1:=(qH h).1.inv h;have h2:=(Af h).inv h1;obtain⟨a,b⟩:=Fp ((nK r).rem+2) (more (nK r)) (nK r) [];have stA:Still r (nK r):=((j8 r (⟨#[102,110]⟩:U0)).trans (wb _)).trans (j8 _ _);have xJ:Still r (lK r):=(stA.trans a).trans (j8 _ _);have stD:Still (lK r) (mN r).1:=by
  unfold mN;split
  ·exact .refl _
  ·exact Ge _
 have hb:=Mf h2 (by rw[(xJ.trans stD).l];exact ht);refine⟨hb.pre (xJ.trans stD),fun e=>?_⟩;have e2:(mN r).1.e=0:=pV (Ct h2) e;have e1:(lK r).e=0:=stD.err e2;have e0:(tp r).1.e=0:=(j8 _ _).err e1;refine⟨b e0 (fun p hp=>by simp at hp),?_⟩;show 0<=(mN r).2/\(mN r).2<=4;unfold mN at e2 ⊢;split
 ·simp
 ·rename_i hc;rw[if_neg hc]at e2;have:=FE e2;omega
theorem E8:∀(n:Nat) (r0 r:Rd) (L:List bk),r.Inv->lh r.l->Made r0 r (L.map (·.body)) (fun k=>k=18)->(r.e=0->∀f∈L,q9 f)->
  Made r0 (qu n r L).1 ((qu n r L).2.map (·.body)) (fun k=>k=18)/\((qu n r L).1.e=0->∀f∈(qu n r L).2,q9 f)
 |0,r0,r,L,h,ht,hm,hf=>by unfold qu;exact⟨hm,hf⟩
 |n+1,r0,r,L,h,ht,hm,hf=>by
  unfold qu;split
  ·have s1:=(Ej h).1;obtain⟨a,b⟩:=UI h ht;refine E8 n r0 _ _ (s1.inv h) (St.kz s1 ht) ?_ fun e f Z2=>?_
   ·rw[List.map_append];exact hm.both a (pV s1)
   ·rcases List.mem_append.1 Z2 with h'|h'
    ·exact hf (pV s1 e) f h'
    ·rw[List.mem_singleton.1 h'];exact b e
  ·exact⟨hm,hf⟩
structure aS(t:aK):Prop where
 chain:aP t.nodes 0 (t.ao.map (·.body)) t.nodes.length
 shape:∀k,k<t.nodes.length->Shape t.nodes (nth t.nodes k)/\(∀a∈(nth t.nodes k).l,0<=a/\a.toNat<k)/\∃lo,aP t.nodes lo (nth t.nodes k).l k
 body:∀f∈t.ao,bX t.nodes f.body=18
 fn:∀f∈t.ao,q9 f/\f.params.length<=3
 many:t.nodes.length<=300
 ao:t.ao.length<=6
variable{s:U0}
def MF{a:Nat}(h:(oA s a).2.2=0):(oA s a).1.size<=12:=by
 unfold oA at h ⊢;simp only at h ⊢;split at h<;>rename_i h1
 ·rw[if_pos h1];split at h<;>rename_i h2
  ·cases h
  ·rw[if_neg h2];simp only[ByteArray.size_extract];omega
 ·cases h
def Rn{a:Nat}(h:(iA s a).2.2=0)(hk:(iA s a).1.kind=2):(iA s a).1.text.size<=12:=by
 unfold iA at h hk ⊢;split at h<;>rename_i h1
 ·rw[if_pos h1]at hk ⊢;split at h<;>rename_i h2
  ·rw[if_pos h2]at hk;cases hk
  ·cases h
 rw[if_neg h1]at hk ⊢;split at h<;>rename_i h2
 ·rw[if_pos h2]at hk ⊢;split at h<;>rename_i h3
  ·rw[if_pos h3]at hk;cases hk
  ·rw[if_neg h3]at hk ⊢;split at h<;>rename_i h4
   ·cases h
   ·rw[if_neg h4]at hk;cases hk
 rw[if_neg h2]at hk ⊢;split at h<;>rename_i h3
 ·rw[if_pos h3]at hk ⊢;exact MF h
 ·rw[if_neg h3]at hk;split at h<;>rename_i h4
  ·cases h
  ·rw[if_neg h4]at hk;cases hk
theorem Ip(s:U0):∀(n i:Nat) (out:List cF),(lM s n i out).2.2=0->(∀t∈out,t.kind=2->t.text.size<=12)->∀t∈(lM s n i out).1,t.kind=2->t.text.size<=12
 |0,i,out,he,ho=>by unfold lM;exact ho
 |n+1,i,out,he,ho=>by
  unfold lM at he ⊢;split at he<;>rename_i hi
  ·rw[if_pos hi];split at he<;>rename_i h3
   ·rw[if_pos h3];refine Ip s n _ _ he fun t ht=>?_
    rcases List.mem_append.1 ht with ht|ht
    ·exact ho t ht
    ·rw[List.mem_singleton.1 ht];exact Rn h3
   ·exact(h3 he).elim
  ·rw[if_neg hi];intro t ht;rcases List.mem_append.1 ht with ht|ht
   ·exact ho t ht
   ·rw[List.mem_singleton.1 ht];intro h;cases h
def Ua(he:(kY s).2.2=0):lh (oz s).l:=by
 have:∀t∈(kY s).1,t.kind=2->t.text.size<=12:=by
  unfold kY at he ⊢;split at he<;>rename_i h
  ·cases he
  ·rw[if_neg h];exact Ip s _ _ _ he (fun t ht=>by simp at ht)
 intro k hk;exact this _ (fc hk)
def v8(h:(ik s).2.2=0):aS (ik s).1:=by
 unfold ik at h ⊢;split at h<;>rename_i h1
 ·exact(h1 h).elim
 rw[if_neg h1];split at h<;>rename_i h2
 ·exact(h2 h).elim
 rw[if_neg h2];split at h<;>rename_i h3
 ·cases h
 rw[if_neg h3];have he:(kY s).2.2=0:=jB;have hf:(nZ s).1.e=0:=jB;obtain⟨a,b⟩:=E8 ((oz s).rem+1) (oz s) (oz s) [] (GP he) (Ua he) (Made.nil _ _) (fun _ f hf=>by simp at hf);obtain⟨a1,a2⟩:=a hf;simp only[ut,Bool.or_eq_true,decide_eq_true_eq,not_or,List.any_eq_true,not_exists,not_and]at h3;refine⟨a1.chain,fun k hk=>a1.shape k (Nat.zero_le _) hk,fun f hf=>a2 _ (List.mem_map.2 ⟨f,hf,rfl⟩),fun f hff=>⟨b hf f hff,by have:=h3.2 f hff;omega⟩,by show(nZ s).1.nodes.length<=300;omega,by show(nZ s).2.length<=6;omega⟩
structure Ck where
 aa:aK
 types:List Int
 slots:List Int
 ao:List Int
 aR:List Int
 fn:Int
 vars:List bB
 more:List bB
 size:Int
 e:Int
 at_:Int
 deriving Inhabited
def jR{α:Type}(f:α->U0)(name:U0):List α->Int->Int
 |[],_=>-1
 |v::l,i=>if f v=name then i else jR f name l (i+1)
def j7{α:Type}(f:α->U0)(name:U0):List α->Int->Int->Int
 |[],_,k=>k
 |v::l,i,k=>j7 f name l (i+1) (if f v=name then i else k)
def mf(sign:U0)(a b:Int):Int:=
 if a≠b then 0
 else if sign=(⟨#[124,124]⟩:U0)\/sign=(⟨#[38,38]⟩:U0)then(if a=2 then 2 else 0)
 else if sign=(⟨#[60]⟩:U0)\/sign=(⟨#[60,61]⟩:U0)then(if a=1 then 2 else 0)
 else if sign=(⟨#[61,61]⟩:U0)\/sign=(⟨#[33,61]⟩:U0)then(if a=1\/a=2\/a=3 then 2 else 0)
 else if sign=(⟨#[43]⟩:U0)then(if a=1\/a=3 then a else 0)
 else(if a=1 then 1 else 0)
namespace Ck
def node(c:Ck)(a:Int):bw:=nth c.aa.nodes a.toNat
def aH(c:Ck)(a:Int)(i:Nat):Int:=nth (c.node a).l i
def aG(c:Ck)(e a:Int):Ck:=if c.e=0 then{ c with e:=e,at_:=a }else c
def ap(c:Ck)(ok:Bool)(a:Int):Ck:=if ok=true then c else c.aG 42 a
def find(c:Ck)(name:U0):Int:=jR bB.name name c.vars 0
def slot(c:Ck)(a s:Int):Ck:={ c with slots:=c.slots.set a.toNat s }
def named(c:Ck)(a:Int):Ck×Int:=
 if c.find (c.node a).name<0 then(c.aG 40 a,0)
 else(c.slot a (nth c.vars (c.find (c.node a).name).toNat).slot,(nth c.vars (c.find (c.node a).name).toNat).ty)
def note(c:Ck)(a t:Int):Ck:={ c with types:=c.types.set a.toNat t,ao:=c.ao.set a.toNat c.fn }
def ai(c:Ck)(a:Int):Ck:={ c with ao:=c.ao.set a.toNat c.fn }
end Ck
def gM(ex:Ck->Int->Ck×Int):Ck->UY->UY->Ck×UY
 |c,[],ts=>(c,ts)
 |c,a::l,ts=>if c.e=0 then gM ex (ex c a).1 l (ts++[(ex c a).2])else(c,ts)
def iP(a:Int):Ck->UY->List bI->Ck
 |c,t::ts,p::ps=>if c.e=0 then iP a (c.ap (decide (t=p.ty)) a) ts ps else c
 |c,_,_=>c
def fV(c:Ck)(a:Int):Int:=j7 bk.name (c.node a).name c.aa.ao 0 (-1)
def jq(ex:Ck->Int->Ck×Int)(c:Ck)(a:Int):Ck×Int:=
 if fV c a<0 then(c.aG 40 a,0)
 else
  let f:=nth c.aa.ao (fV c a).toNat
  let p:=gM ex c (c.node a).l []
  let c1:=if(c.node a).l.length≠f.params.length then p.1.aG 43 a else p.1
  (iP a c1 p.2 f.params,f.ret)
def cz(ex:Ck->Int->Ck×Int)(c:Ck)(a:Int):Ck×Int:=
 let k:=(c.node a).kind
 if k=1\/k=19 then(c,1)
 else if k=2 then(c,2)
 else if k=3 then(c,3)
 else if k=4 then c.named a
 else if k=21 then jq ex c a
 else if k=5 then
  let p:=c.named a
  let x:=ex p.1 (c.aH a 0)
  (x.1.ap (decide (p.2=4) && decide (x.2=1)) a,1)
 else if k=9 then
  let x:=ex c (c.aH a 0)
  let y:=ex x.1 (c.aH a 1)
  let t:=mf (c.node a).name x.2 y.2
  (y.1.ap (!decide (t=0)) a,t)
 else
  let x:=ex c (c.aH a 0)
  if k=6 then(x.1.ap (decide (x.2=3) || decide (x.2=4)) a,1)
  else if k=7 then(x.1.ap (decide (x.2=1)) a,1)
  else if k=8 then(x.1.ap (decide (x.2=2)) a,2)
  else(x.1.ap (decide (x.2=1)) a,4)
def aB:Nat->Ck->Int->Ck×Int
 |0,c,_=>(c,0)
 |n+1,c,a=>if c.e≠0 then(c,0)else((cz (aB n) c a).1.note a (cz (aB n) c a).2,(cz (aB n) c a).2)
def pm(ex:Ck->Int->Ck×Int)(c:Ck)(a:Int):Ck:=
 let x:=ex c (c.aH a 0)
 let c1:=x.1.ap (!decide (x.2=0)) a
 let c2:=if 0<=c1.find (c.node a).name then c1.aG 41 a else c1
 let c3:=if 24<=c2.size then c2.aG 4 a else c2
 { (c3.slot a c3.size)with vars:=c3.vars++[⟨(c.node a).name,x.2,c3.size⟩],more:=c3.more.drop 1,size:=c3.size+1 }
def kP(ex:Ck->Int->Ck×Int)(c:Ck)(a:Int):Ck:=
 let ret:=(nth c.aa.ao c.fn.toNat).ret
 let l:=(c.node a).l
 if decide (l.length=1)≠(!decide (ret=0))then c.aG 43 a
 else if l.length=1 then
  let x:=ex c (c.aH a 0)
  x.1.ap (decide (x.2=ret)) a
 else c
def dW(st:Ck->Int->Ck):Ck->UY->Ck
 |c,[]=>c
 |c,a::l=>if c.e=0 then dW st (st c a) l else c
def fw(st:Ck->Int->Ck)(c:Ck)(a:Int):Ck:=
 let c1:=dW st (c.ai a) (c.node a).l
 { c1 with vars:=c1.vars.take (min c.vars.length c1.vars.length),more:=c1.vars.drop (min c.vars.length c1.vars.length)++c1.more }
def bT:Nat->Ck->Int->Ck
 |0,c,_=>c
 |n+1,c0,a=>
  let c:=c0.ai a
  let k:=(c.node a).kind
  if k=10 then pm (aB n) c a
  else if k=11 then
   let p:=c.named a
   let x:=aB n p.1 (c.aH a 0)
   x.1.ap (decide (p.2=x.2)) a
  else if k=12 then
   let p:=c.named a
   let x:=aB n p.1 (c.aH a 0)
   let y:=aB n x.1 (c.aH a 1)
   y.1.ap (decide (p.2=4) && decide (x.2=1) && decide (y.2=1)) a
  else if k=13 then(aB n c (c.aH a 0)).1
  else if k=14 then
   let x:=aB n c (c.aH a 0)
   x.1.ap (!decide (x.2=4)) a
  else if k=17 then kP (aB n) c a
  else
   let x:=aB n c (c.aH a 0)
   dW (fw (bT n)) (x.1.ap (decide (x.2=2)) a) ((c.node a).l.drop 1)
def fH(body:Int):Ck->List bI->Int->Ck
 |c,[],_=>c
 |c,p::ps,i=>
  let c1:=if 0<=c.find p.name then c.aG 41 body else c
  fH body { c1 with vars:=c1.vars++[⟨p.name,p.ty,i⟩],more:=c1.more.drop 1,size:=c1.size+1 } ps (i+1)
def gT(c:Ck)(k:Nat):Ck:=
 let f:=nth c.aa.ao k
 let c1:=fH f.body { c with fn:=k,vars:=[],more:=[],size:=0 } f.params 0
 let c2:=if c1.e=0 then fw (bT c.aa.nodes.length) c1 f.body else c1
 { c2 with aR:=c2.aR++[c2.size],vars:=[],more:=[] }
def kZ(x:bk):Ck->List bk->Ck
 |c,[]=>c
 |c,f::l=>kZ x (if f.name=x.name then c.aG 41 x.body else c) l
def ws(f:bk):Bool:=decide (f.name=(⟨#[109,97,105,110]⟩:U0)) && decide ((f.params.length:Int)=0) && decide (f.ret=0)
def ki(ao:List bk):Ck->Bool->Nat->Nat->Ck×Bool
 |c,m,_,0=>(c,m)
 |c,m,i,n+1=>ki ao (kZ (nth ao i) c (ao.take i)) (m || ws (nth ao i)) (i+1) n
def ji(c:Ck):Ck:=
 let p:=ki c.aa.ao c false 0 c.aa.ao.length
 if p.2=true then p.1 else p.1.aG 44 0
def gN:Ck->Nat->Nat->Ck
 |c,_,0=>c
 |c,i,n+1=>if c.e=0 then gN (gT c i) (i+1) n else c
def jY(t:aK):Ck:=⟨t,t.nodes.map fun _=>0,t.nodes.map fun _=>-1,t.nodes.map fun _=>0,[],0,[],[],0,0,0⟩
def jh(t:aK):Ck:=gN (ji (jY t)) 0 t.ao.length
def lA:ab:=⟨⟨[],[]⟩,[],[],[],[]⟩
def Ck.prog(c:Ck):ab:=⟨c.aa,c.types,c.slots,c.ao,c.aR⟩
def iE(t:aK):ab×Int×Int:=if(jh t).e≠0 then(lA,(jh t).at_,(jh t).e)else((jh t).prog,0,0)
def ga(s:U0):ab×Int×Int:=
 if(ik s).2.2≠0 then(lA,(ik s).2.1,(ik s).2.2)
 else
  let q:=iE (ik s).1
  if q.2.2=44 then(lA,0,44)
  else if q.2.2≠0 then(lA,(nth (ik s).1.nodes q.2.1.toNat).ci,q.2.2)
  else(q.1,0,0)
def dU(slots:List aj)(k t:Int):aj:=
 if k<0\/(slots.length:Int)<=k then vZ t
 else if lc (nth slots k.toNat)=true/\(nth slots k.toNat).ty=t then nth slots k.toNat else vZ t
end Go.Gd
namespace Go.Proofs.YtjpcgmjaipfgdaaGreatDoor
open Go Go.Gd Tryz
abbrev rI(n:Int):AV:=.raw (.int .i64 n)
abbrev rU(n:Int):AV:=.raw (.int .u8 n)
abbrev rS(s:U0):AV:=.raw (.string s)
abbrev rB(b:Bool):AV:=.raw (.bool b)
def xV(n:Int):aD prog 184 [rU n] (rB (km n)):=by
 refine cB func184 ntmps184 ?_
 (repeat' (first|refine ar fun K hK=>?_|refine av ?_|(refine hK _ _ ?_;clear hK K)|(refine au ?_ ?_<;>intro hc<;>try exact jz)|refine aq ?_|exact jI|(clear hK K)))
 (refine cd [.tmp 2] ?_ ?_<;>(try simp only[go_sem]))
 rfl
def CF(n:Int):aD prog 186 [rU n] (rB (x8 n)):=by
 refine cB func186 ntmps186 ?_
 (repeat' (first|refine ar fun K hK=>?_|refine av ?_|(refine hK _ _ ?_;clear hK K)|(refine au ?_ ?_<;>intro hc<;>try exact jz)|refine aq ?_|exact jI|(clear hK K)))
 (refine cd [.tmp 2] ?_ ?_<;>(try simp only[go_sem]))
 rfl
def LZ(s:U0):aD prog 185 [rS s] (rB (xc s)):=by
 refine cB func185 ntmps185 ?_
 (repeat' (first|refine ar fun K hK=>?_|refine av ?_|(refine hK _ _ ?_;clear hK K)|(refine au ?_ ?_<;>intro hc<;>try exact jz)|refine aq ?_|exact jI|(clear hK K)))
 (refine cd [.tmp 2] ?_ ?_<;>(try simp only[go_sem]))
 rfl
def Uz(s:U0)(at_:Int)(hs:s.size<=1000000):aD prog 190 [rS s,rI at_] (rI (pn s (min s.size at_.toNat))):=by
 refine cB func190 ntmps190 ?_
 (repeat' (first|refine ar fun K hK=>?_|refine av ?_|(refine hK _ _ ?_;clear hK K)|(refine au ?_ ?_<;>intro hc<;>try exact jz)|refine aq ?_|exact jI|(clear hK K)))
 have Vc:=hK;clear hK;refine dJ (S:=Nat) [(5,19)] (fun k=>k<=s.size/\k<=at_.toNat) (fun k=>[(5,rI (pn s k)),(6,rI k)]) (fun _=>⟨[],[]⟩) (fun k=>s.size-k) 0 jB (dK rfl (by simp only[go_sem,lr,Nat.reduceAdd,AV.raw.injEq,Value.int.injEq,Value.slice.injEq,Value.pointer.injEq,AV.rs.injEq,pn];try omega)) ?_;rintro k ⟨VA,Vk⟩ Kr Vb;have hb:=Ix s k;refine S ?_
 (repeat' (first|refine ar fun K hK=>?_|refine av ?_|(refine hK _ _ ?_;clear hK K)|(refine au ?_ ?_<;>intro hc<;>try exact jz)|refine Vc _ _ ?_|refine aq ?_|exact jI|(clear hK K)))
 ·refine Vb _ _ (dT (k+1) jB jJ rfl (by simp only[pn,if_pos hc];exact bU))
 ·refine Vb _ _ (dT (k+1) jB jJ rfl (by simp only[pn,if_neg hc];exact bU))
 ·(refine cd [.tmp 4] ?_ ?_<;>(try simp only[go_sem]))
  rw[show min s.size at_.toNat=k from jB]
def Nu{s:U0}(h:∀j,j<gi.length->nth gi j≠s):vY s=false:=by unfold vY;rw[List.any_eq_false];intro x hm;obtain⟨j,hj,rfl⟩:=List.getElem_of_mem hm;have:=h j hj;rw[fA hj]at this;simp[this]
def Pv{s:U0}{k:Nat}(hk:k<gi.length)(h:nth gi k=s):vY s=true:=by unfold vY;rw[List.any_eq_true];exact⟨gi[k],List.getElem_mem hk,by rw[fA hk]at h;simp[h]⟩
def Mz(s:U0):aD prog 187 [rS s] (rB (vY s)):=by
 refine cB func187 ntmps187 ?_
 (repeat' (first|refine ar fun K hK=>?_|refine av ?_|(refine hK _ _ ?_;clear hK K)|(refine au ?_ ?_<;>intro hc<;>try exact jz)|refine aq ?_|exact jI|(clear hK K)))
 have Vc:=hK;clear hK;refine dJ (S:=Nat) [(2,1),(4,1),(6,12)] (fun k=>k<=16/\∀j,j<k->nth gi j≠s) (fun k=>[(3,.sl true 1 (gi.map eS) []),(4,rI k)]) (fun _=>⟨[],[]⟩) (fun k=>16-k) 0 ⟨jB,fun j h=>jB⟩ (dK rfl (by(repeat' (first|exact jI|exact Or.inr rfl|exact Or.inl rfl|refine jA ?_ ?_)))) ?_;rintro k ⟨VA,Vk⟩ Kr Vb;have hl:=M0;refine S ?_
 (repeat' (first|refine ar fun K hK=>?_|refine av ?_|(refine hK _ _ ?_;clear hK K)|(refine au ?_ ?_<;>intro hc<;>try exact jz)|refine Vc _ _ ?_|refine aq ?_|exact jI|(clear hK K)))
 ·(refine cd [.tmp 2] ?_ ?_<;>(try simp only[go_sem]))
  rw[Pv jB hc]
 ·refine Vb _ _ (dT (k+1) ⟨jB,fun j hj=>?_⟩ jJ rfl bU);by_cases e:j=k
  ·subst e;exact hc
  ·exact Vk j jB
 ·(refine cd [.tmp 2] ?_ ?_<;>(try simp only[go_sem]))
  rw[Nu fun j hj=>Vk j jB]
def F6(s:U0)(i:Nat)(hs:s.size<=1000000)(hi:i<=s.size):aD prog 142 [rS s,rI i] (rI (oS s i:Nat)):=by
 refine cB func142 ntmps142 ?_
 (repeat' (first|refine ar fun K hK=>?_|refine av ?_|(refine hK _ _ ?_;clear hK K)|(refine au ?_ ?_<;>intro hc<;>try exact jz)|refine aq ?_|exact jI|(clear hK K)))
 have Vc:=hK;clear hK;refine dJ (S:=Nat) [(1,1),(4,54)] (fun k=>k<=s.size/\oS s k=oS s i) (fun k=>[(1,rI k)]) (fun _=>⟨[],[]⟩) (fun k=>s.size-k) i ⟨hi,rfl⟩ (dK rfl bU) ?_;rintro k ⟨VA,Vk⟩ Kr Vb;refine S ?_
 (repeat' (first|refine ar fun K hK=>?_|refine av ?_|(refine hK _ _ ?_;clear hK K)|(refine au ?_ ?_<;>intro hc<;>try exact jz)|refine Vc _ _ ?_|refine aq ?_|exact jI|(clear hK K)))
 ·have P':mF s k=some (k+1):=by
   unfold mF;rw[jP,if_pos];simp[yW];omega
  refine Vb _ _ (dT (k+1) ⟨jB,by rw[<-Vk,GR P']⟩ jJ rfl bU)
 ·have P':mF s k=some (iY sQ s k):=by
   unfold mF;rw[jP,if_neg (by simp[yW];omega),if_pos];simp[Az];exact⟨⟨hc.1.1,jB⟩,hc.2⟩
  have D':=yY P';have hKi:=hK;clear hK;refine dJ (S:=Nat) [(1,1),(45,12)] (fun m=>k<=m/\m<=s.size/\∀j,k<=j->j<m->sQ (eZ s j)=true) (fun m=>[(1,rI m)]) (fun _=>⟨[],[]⟩) (fun m=>s.size-m) k ⟨jB,jB,fun j h1 h2=>jB⟩ (dK rfl bU) ?_;rintro m ⟨XA,WX,Wm⟩ Kj hKj;refine S ?_
  (repeat' (first|refine ar fun K hK=>?_|refine av ?_|(refine hK _ _ ?_;clear hK K)|(refine au ?_ ?_<;>intro hc<;>try exact jz)|refine hKi _ _ ?_|refine aq ?_|exact jI|(clear hK K)))
  ·refine hKj _ _ (dT (m+1) ⟨jB,jB,fun j h1 h2=>?_⟩ jJ rfl bU);by_cases e:j=m
   ·subst e;simp only[sQ,decide_eq_true_eq];exact hc.2
   ·exact Wm j h1 jB
  ·have e:iY sQ s k=m:=zJ (by simp only[sQ,decide_eq_true_eq];omega) XA WX Wm;rw[e]at P' D';refine Vb _ _ (dT m ⟨jB,by rw[<-Vk,GR P']⟩ jJ rfl bU)
 ·(refine cd [.tmp 4] ?_ ?_<;>(try simp only[go_sem]))
  rw[<-Vk,Fi];unfold mF;rw[jP,if_neg (by simp[yW];omega),if_neg];simp[Az];omega
 ·(refine cd [.tmp 4] ?_ ?_<;>(try simp only[go_sem]))
  rw[<-Vk,Fi];unfold mF;rw[jN]
def LO(s:U0)(a:Nat)(hs:s.size<=1000000)(ha:a<s.size):aD prog 188 [rS s,rI a] (.ba [rS (oA s a).1,rI (oA s a).2.1,rI (oA s a).2.2]):=by
 refine cB func188 ntmps188 ?_
 (repeat' (first|refine ar fun K hK=>?_|refine av ?_|(refine hK _ _ ?_;clear hK K)|(refine au ?_ ?_<;>intro hc<;>try exact jz)|refine aq ?_|exact jI|(clear hK K)))
 have Vc:=hK;clear hK;refine dJ (S:=Nat) [(7,1),(10,24)] (fun m=>a+1<=m/\m<=s.size/\∀j,a+1<=j->j<m->ui (eZ s j)=true) (fun m=>[(7,rI m)]) (fun _=>⟨[],[]⟩) (fun m=>s.size-m) (a+1) ⟨jB,jB,fun j h1 h2=>jB⟩ (dK rfl bU) ?_;rintro m ⟨XA,WX,Wm⟩ Kr Vb;refine S ?_
 (repeat' (first|refine ar fun K hK=>?_|refine av ?_|(refine hK _ _ ?_;clear hK K)|(refine au ?_ ?_<;>intro hc<;>try exact jz)|refine Vc _ _ ?_|refine aq ?_|exact jI|(clear hK K)))
 ·refine Vb _ _ (dT (m+1) ⟨jB,jB,fun j h1 h2=>?_⟩ jJ rfl bU);by_cases e:j=m
  ·subst e;simp only[ui,Bool.and_eq_true,decide_eq_true_eq];exact⟨⟨hc.1.1.2,hc.1.2⟩,hc.2⟩
  ·exact Wm j h1 jB
 all_goals have e:iY ui s (a+1)=m:=zJ (by simp only[ui,Bool.and_eq_true,decide_eq_true_eq];omega) XA WX Wm
 ·(refine cd [.tmp 4,.tmp 5,.tmp 6] ?_ ?_<;>(try simp only[go_sem]))
  simp only[oA,e];rw[jN]
 ·(refine cd [.tmp 4,.tmp 5,.tmp 6] ?_ ?_<;>(try simp only[go_sem]))
  simp only[oA,e];rw[jP,jP]
 ·(refine cd [.tmp 4,.tmp 5,.tmp 6] ?_ ?_<;>(try simp only[go_sem]))
  simp only[oA,e];rw[jP,jN]
def TT:jL.length=5:=rfl
def Ny(s:U0)(hs:0<s.size)(hs2:s.size<=1000000):aD prog 189 [rS s] (rS (ov s)):=by
 refine cB func189 ntmps189 ?_
 (repeat' (first|refine ar fun K hK=>?_|refine av ?_|(refine hK _ _ ?_;clear hK K)|(refine au ?_ ?_<;>intro hc<;>try exact jz)|refine aq ?_|exact jI|(clear hK K)))
 have Vc:=hK;clear hK;refine dJ (S:=Nat) [(2,1),(4,1),(8,22)] (fun k=>k<=5/\∀j,j<k->qT s (nth jL j)=false) (fun k=>[(3,.sl true 1 (jL.map eS) []),(4,rI k)]) (fun _=>⟨[],[]⟩) (fun k=>5-k) 0 ⟨jB,fun j h=>jB⟩ (dK rfl (by(repeat' (first|exact jI|exact Or.inr rfl|exact Or.inl rfl|refine jA ?_ ?_)))) ?_;rintro k ⟨VA,Vk⟩ Kr Vb;have hl:=TT;refine S ?_
 (repeat' (first|refine ar fun K hK=>?_|refine av ?_|(with_reducible refine gR 5 ?_);refine dE 5 (bf 0 12) mixed ?_|(refine hK _ _ ?_;clear hK K)|(refine au ?_ ?_<;>intro hc<;>try exact jz)|refine Vc _ _ ?_|refine aq ?_|exact jI|(clear hK K)))
 ·(refine cd [.tmp 2] ?_ ?_<;>(try simp only[go_sem]))
  have:jL.find? (qT s)=some (nth jL k):=Aq Vk jB (by simp only[qT,Bool.and_eq_true,decide_eq_true_eq];exact hc);simp only[ov,this]
 ·refine Vb _ _ (dT (k+1) ⟨jB,fun j hj=>?_⟩ jJ rfl bU);by_cases e:j=k
  ·subst e;simp only[qT,Bool.and_eq_false_iff,decide_eq_false_iff_not,Int.not_le];exact hc
  ·exact Vk j jB
 ·have h2:jL.find? (qT s)=none:=C2 fun j hj=>Vk j jB
  have Vc:=hK;clear hK;have hos:iU.size=16:=rfl;refine dJ (S:=Nat) [(2,1),(6,1),(30,17)] (fun k=>k<=16/\∀j,j<k->decide (eZ s 0=eZ iU (nth (List.range 16) j:Nat))=false) (fun k=>[(5,rS iU),(6,rI k)]) (fun _=>⟨[],[]⟩) (fun k=>16-k) 0 ⟨jB,fun j h=>jB⟩ (dK rfl (by(repeat' (first|exact jI|exact Or.inr rfl|exact Or.inl rfl|refine jA ?_ ?_)))) ?_;rintro m ⟨XA,WX⟩ Kj hKj;refine S ?_
  (repeat' (first|refine ar fun K hK=>?_|refine av ?_|(with_reducible refine gR 11 ?_);refine dE 11 (bf 0 6) mixed ?_|(refine hK _ _ ?_;clear hK K)|(refine au ?_ ?_<;>intro hc<;>try exact jz)|refine Vc _ _ ?_|refine aq ?_|exact jI|(clear hK K)))
  ·(refine cd [.tmp 2] ?_ ?_<;>(try simp only[go_sem]))
   have h3:(List.range 16).find? (fun k:Nat=>decide (eZ s 0=eZ iU (k:Nat)))=some (nth (List.range 16) m):=Aq WX jF (by rw[CP jB];simpa using hc);simp only[ov,h2,h3];rw[CP jB]
  ·refine hKj _ _ (dT (m+1) ⟨jB,fun j hj=>?_⟩ jJ rfl bU);by_cases e:j=m
   ·subst e;rw[CP jB];simpa using hc
   ·exact WX j jB
  ·(refine cd [.tmp 2] ?_ ?_<;>(try simp only[go_sem]))
   have h3:(List.range 16).find? (fun k:Nat=>decide (eZ s 0=eZ iU (k:Nat)))=none:=C2 fun j hj=>WX j (by simp at hj;omega)
   simp only[ov,h2,h3]
def qQ(t:cF×Int×Int):AV:=.ba [.agg (mH t.1),rI t.2.1,rI t.2.2]
def LD(s:U0)(a:Nat)(hs:s.size<=1000000)(ha:a<s.size):aD prog 143 [rS s,rI a] (qQ (iA s a)):=by
 have hex:(s.extract a s.size).size=s.size-a:=by rw[ByteArray.size_extract];omega
 have Vi:=T4 (s.extract a s.size);refine cB func143 ntmps143 ?_
 (repeat' (first|refine ar fun K hK=>?_|refine av ?_|(refine hK _ _ ?_;clear hK K)|(refine au ?_ ?_<;>intro hc<;>try exact jz)|refine cp (xV _) ?_|refine cp (CF _) ?_|refine cp (LO s a hs ha) ?_|refine cp (Ny _ jB jB) ?_|refine aq ?_|exact jI|(clear hK K)))
 ·have Vc:=hK;clear hK;refine dJ (S:=Nat) [(8,1),(20,12)] (fun m=>a<=m/\m<=s.size/\∀j,a<=j->j<m->km (eZ s j)=true) (fun m=>[(8,rI m)]) (fun _=>⟨[],[(0,.var 248 (mH wC))]⟩) (fun m=>s.size-m) a ⟨jB,jB,fun j h1 h2=>jB⟩ (dK rfl bU) ?_;rintro m ⟨XA,WX,Wm⟩ Kr Vb;refine S ?_
  (repeat' (first|refine ar fun K hK=>?_|refine av ?_|(refine hK _ _ ?_;clear hK K)|(refine au ?_ ?_<;>intro hc<;>try exact jz)|(first|refine cg (xV _) ?_|refine oH (xV _) ?_)|refine Vc _ _ ?_|refine aq ?_|exact jI|(clear hK K)))
  ·refine Vb _ _ (dT (m+1) ⟨jB,jB,fun j h1 h2=>?_⟩ jJ rfl bU);by_cases e:j=m
   ·subst e;exact hc.2
   ·exact Wm j h1 jB
  ·have hd:km (eZ s a)=true:=by assumption
   have e:iY km s a=m:=zJ (by rintro⟨h1,h2⟩;rcases hc with h|h;omega;rw[h2]at h;cases h) XA WX Wm
   (repeat' (first|refine ar fun K hK=>?_|refine av ?_|(refine hK _ _ ?_;clear hK K)|(refine au ?_ ?_<;>intro hc<;>try exact jz)|refine cp (LZ _) ?_|refine aq ?_|exact jI|(clear hK K)))
   ·(refine bq [.cell 4 248,.tmp 5,.tmp 6] ?_;try simp only[go_sem])
    simp only[iA,hd,if_true,e,if_neg,hc,Bool.false_eq_true,if_false,qQ,wC];rfl
   ·(refine bq [.cell 4 248,.tmp 5,.tmp 6] ?_;try simp only[go_sem])
    simp only[iA,hd,if_true,e,hc,qQ];rfl
 ·have Vc:=hK;clear hK;have ZH:km (eZ s a)=false:=by assumption
  have Vd:x8 (eZ s a)=true:=by assumption
  refine dJ (S:=Nat) [(8,1),(49,24)] (fun m=>a<=m/\m<=s.size/\∀j,a<=j->j<m->pA (eZ s j)=true) (fun m=>[(8,rI m)]) (fun _=>⟨[],[(0,.var 248 (mH wC))]⟩) (fun m=>s.size-m) a ⟨jB,jB,fun j h1 h2=>jB⟩ (dK rfl bU) ?_;rintro m ⟨XA,WX,Wm⟩ Kr Vb;have hexm:(s.extract a m).size=m-a:=by rw[ByteArray.size_extract];omega
  refine S ?_
  (repeat' (first|refine ar fun K hK=>?_|refine av ?_|(refine hK _ _ ?_;clear hK K)|(refine au ?_ ?_<;>intro hc<;>try exact jz)|(first|refine cg (xV _) ?_|refine oH (xV _) ?_)|(first|refine cg (CF _) ?_|refine oH (CF _) ?_)|refine cp (Mz _) ?_|refine Vc _ _ ?_|refine aq ?_|exact jI|(clear hK K)))
  ·refine Vb _ _ (dT (m+1) ⟨jB,jB,fun j h1 h2=>?_⟩ jJ rfl bU);by_cases e:j=m
   ·subst e;simp only[pA,Bool.or_eq_true,decide_eq_true_eq];exact hc.2
   ·exact Wm j h1 jB
  all_goals
   have Yw:(s.size:Int)<=m\/(x8 (eZ s m)=false/\km (eZ s m)=false)/\¬eZ s m=95:=by assumption
   have e:iY pA s a=m:=zJ (by
    simp only[pA,Bool.or_eq_true,decide_eq_true_eq];rintro⟨h1,h2⟩;rcases Yw with h|⟨⟨h3,h4⟩,h5⟩
    ·omega
    ·rcases h2 with(h|h)|h
     ·rw[h]at h3;exact Bool.noConfusion h3
     ·rw[h]at h4;exact Bool.noConfusion h4
     ·exact h5 h) XA WX Wm
  ·(refine bq [.cell 4 248,.tmp 5,.tmp 6] ?_;try simp only[go_sem])
   simp only[iA,ZH,Vd,e,hc,Bool.false_eq_true,if_false,if_true,qQ];rfl
  ·(refine bq [.cell 4 248,.tmp 5,.tmp 6] ?_;try simp only[go_sem])
   simp only[iA,ZH,Vd,e, *,Bool.false_eq_true,if_false,if_true,qQ];rw[jP];rfl
  ·(refine bq [.cell 4 248,.tmp 5,.tmp 6] ?_;try simp only[go_sem])
   simp only[iA,ZH,Vd,e, *,Bool.false_eq_true,if_false,if_true,qQ];rw[jN];rfl
 ·(refine bq [.cell 4 248,.tmp 5,.tmp 6] ?_;try simp only[go_sem])
  simp only[iA, *,Bool.false_eq_true,if_false,if_true,qQ];rfl
 ·(refine bq [.cell 4 248,.tmp 5,.tmp 6] ?_;try simp only[go_sem])
  simp only[iA, *,Bool.false_eq_true,if_false,if_true,qQ];rfl
 ·(refine bq [.cell 4 248,.tmp 5,.tmp 6] ?_;try simp only[go_sem])
  simp only[iA, *,Bool.false_eq_true,if_false,qQ];rfl
attribute [go_sem] qQ
def Kt(s:U0)(hs:s.size<=1000000):aD prog 101 [rS s] (.ba [aM mH 3 (kY s).1,rI (kY s).2.1,rI (kY s).2.2]):=by
 refine cB func101 ntmps101 ?_
 (repeat' (first|refine ar fun K hK=>?_|refine av ?_|(refine hK _ _ ?_;clear hK K)|(refine au ?_ ?_<;>intro hc<;>try exact jz)|refine cp (F6 s 0 hs (Nat.zero_le _)) ?_|refine aq ?_|exact jI|(clear hK K)))
 ·refine fy [.tmp 2,.tmp 3,.tmp 4] ?_;simp only[kY,if_pos hc];refine bD.ba ?_;exact iQ
 ·have Vc:=hK;clear hK;have h0:=wK (s:=s) (i:=0) (Nat.zero_le _);refine dJ (S:=Nat×List cF) [(2,8),(16,22)] (fun p=>p.1<=s.size/\p.2.length<=p.1/\we s p.1 p.2=kY s) (fun p=>[(5,.rs 0 p.2.length 3 p.2.length),(6,rI p.1)]) (fun p=>⟨[],[(0,.aJ 248 3 (p.2.map mH))]⟩) (fun p=>s.size-p.1) (oS s 0,[]) ⟨h0.2,Nat.zero_le _,by simp only[kY];rw[jN]⟩ (dK rfl bU) ?_;rintro⟨k,ts⟩ ⟨VA,Vk,Yh⟩ Kr Vb;simp only at VA Vk Yh
  (refine S ?_;try exact jI)
  by_cases hk:k<s.size
  ·have Vh:=zU (s:=s) (a:=k) hk
   (repeat' (first|refine ar fun K hK=>?_|refine av ?_|(refine hK _ _ ?_;clear hK K)|(refine au ?_ ?_<;>intro hc<;>try exact jz)|refine cp (LD s k hs hk) ?_|refine aq ?_|exact jI|(clear hK K)))
   ·refine fy [.tmp 2,.tmp 3,.tmp 4] ?_;rw[<-Yh,Sz hk (by assumption)];refine bD.ba ?_;exact iQ
   ·obtain⟨e,XG,Z1,he3⟩:=Vh hc;have h4:=wK he3;rw[XG]
    (repeat' (first|refine ar fun K hK=>?_|refine av ?_|(refine hK _ _ ?_;clear hK K)|(refine au ?_ ?_<;>intro hc<;>try exact jz)|refine cp (F6 s e hs he3) ?_|refine aq ?_|exact jI|(clear hK K)))
    refine Vb _ _ (nz [1] (oS s e,ts++[(iA s k).1]) ⟨h4.2,by simp;omega,by rw[<-Yh,LY hk hc,XG];simp⟩ jJ rfl Sd Sd iQ)
  ·(repeat' (first|refine ar fun K hK=>?_|refine av ?_|(refine hK _ _ ?_;clear hK K)|(refine au ?_ ?_<;>intro hc<;>try exact jz)|refine Vc _ _ ?_|refine aq ?_|exact jI|(clear hK K)))
   refine fy [.tmp 2,.tmp 3,.tmp 4] ?_;rw[<-Yh,PT hk];simp only[go_sem];refine bD.ba ?_;refine jA ?_ (jA (.same _ rfl) (jA (.same _ rfl) trivial));refine db.row (enc:=mH) (e:=248) (ts++[⟨0,⟨#[]⟩,s.size⟩]) ?_ ?_ ?_
   ·rfl
   ·(refine S ?_;try exact jI)
    rfl
   ·(refine S ?_;try exact jI)
def iC(r:Rd):UU:=[rS r.src,aM mH 3 r.l,rI r.i,.rs 1 r.nodes.length 5 r.nodes.length,rI r.deep,rI r.e,rI r.at_]
def cH(r:Rd):UT:=[(0,.var 177 (iC r)),(1,.aJ 116 5 (r.nodes.map eT))]
attribute [go_sem] cH iC
abbrev pR:AV:=.pt 0 0 0 0
structure o7(r:Rd):Prop where
 src:r.src.size<=1000
 pos:0<=r.i
 lt:r.i<r.l.length
 len:r.l.length<=2000
 px:-1000<=r.deep
 qm:r.deep<=1000
 nodes:r.nodes.length<=100000
def bC{r:Rd}(h:r.Inv):o7 r:=by have hp:=h.dS;unfold Rd.dS at hp;have:=h.lt;have:=h.px;have:=h.qm;exact⟨h.src,h.pos,h.lt,h.len,jB,jB,by split at hp<;>omega⟩
def ue(r:Rd)(e:Int)(h:o7 r):af prog 191 [pR,rI e] (cH r) (fun v l=>v=.ba []/\l=cH (r.aG e)):=by
 obtain⟨h1,h2,h3,h4,h5,h6,h7⟩:=h;refine aQ func191 ntmps191 ?_;simp only[cH,iC]
 (repeat' (first|refine ar fun K hK=>?_|refine av ?_|(with_reducible refine gR 2 ?_);refine dE 2 (bf 0 15) mixed ?_|(refine hK _ _ ?_;clear hK K)|(refine au ?_ ?_<;>intro hc<;>try exact jz)|refine aq ?_|exact jI|(clear hK K)))
 ·(refine cd [] ?_ ?_<;>(try simp only[go_sem]))
  simp only[Rd.aG,if_pos hc];rfl
 ·(refine cd [] ?_ ?_<;>(try simp only[go_sem]))
  simp only[Rd.aG,if_neg hc]
def gA(r:Rd)(t:U0)(h:o7 r):af prog 147 [pR,rS t] (cH r) (fun v l=>v=rB (r.is t)/\l=cH r):=by
 obtain⟨h1,h2,h3,h4,h5,h6,h7⟩:=h;refine aQ func147 ntmps147 ?_;simp only[cH,iC]
 (repeat' (first|refine ar fun K hK=>?_|refine av ?_|(with_reducible refine gR 1 ?_);refine dE 1 (bf 0 12) mixed ?_|(refine hK _ _ ?_;clear hK K)|(refine au ?_ ?_<;>intro hc<;>try exact jz)|refine aq ?_|exact jI|(clear hK K)))
 (refine bq [.tmp 4] ?_;try simp only[go_sem])
 rfl
def xl(r:Rd)(k:Int)(h:o7 r):af prog 102 [pR,rI k] (cH r) (fun v l=>v=rB (r.kind k)/\l=cH r):=by
 obtain⟨h1,h2,h3,h4,h5,h6,h7⟩:=h;refine aQ func102 ntmps102 ?_;simp only[cH,iC]
 (repeat' (first|refine ar fun K hK=>?_|refine av ?_|(with_reducible refine gR 1 ?_);refine dE 1 (bf 0 21) mixed ?_|(refine hK _ _ ?_;clear hK K)|(refine au ?_ ?_<;>intro hc<;>try exact jz)|refine aq ?_|exact jI|(clear hK K)))
 (refine bq [.tmp 4] ?_;try simp only[go_sem])
 rfl
def ja(r:Rd)(t:U0)(h:o7 r):af prog 145 [pR,rS t] (cH r) (fun v l=>v=.ba []/\l=cH (r.ap t)):=by
 have Ym:=gA r t h;have hf:=ue r 20 h;obtain⟨h1,h2,h3,h4,h5,h6,h7⟩:=h;simp only[cH,iC]at Ym hf;refine aQ func145 ntmps145 ?_;simp only[cH,iC]
 (repeat' (first|refine ar fun K hK=>?_|refine av ?_|(refine hK _ _ ?_;clear hK K)|(refine au ?_ ?_<;>intro hc<;>try exact jz)|refine cm (Ym) ?_|refine cm (hf) ?_|refine aq ?_|exact jI|(clear hK K)))
 ·(refine cd [] ?_ ?_<;>(try simp only[go_sem]))
  simp only[Rd.ap,hc,Bool.false_eq_true,if_false,go_sem]
 ·(refine cd [] ?_ ?_<;>(try simp only[go_sem]))
  simp only[Rd.ap,hc,if_true];rfl
def vK(r:Rd)(h:o7 r):af prog 146 [pR] (cH r) (fun v l=>v=rS r.name.2/\l=cH r.name.1):=by
 have Ym:=xl r 3 h;have hf:=ue r 20 h;obtain⟨h1,h2,h3,h4,h5,h6,h7⟩:=h;simp only[cH,iC]at Ym hf;refine aQ func146 ntmps146 ?_;simp only[cH,iC]
 (repeat' (first|refine ar fun K hK=>?_|refine av ?_|(with_reducible refine gR 6 ?_);refine dE 6 (bf 0 13) mixed ?_|(refine hK _ _ ?_;clear hK K)|(refine au ?_ ?_<;>intro hc<;>try exact jz)|refine cm (Ym) ?_|refine cm (hf) ?_|refine aq ?_|exact jI|(clear hK K)))
 ·(refine cd [.tmp 2] ?_ ?_<;>(try simp only[go_sem]))
  ·simp only[Rd.name,hc,Bool.false_eq_true,if_false]
  ·simp only[Rd.name,hc,Bool.false_eq_true,if_false,go_sem]
 ·(refine cd [.tmp 2] ?_ ?_<;>(try simp only[go_sem]))
  ·simp only[Rd.name,hc,if_true];rw[show r.i+1-1=r.i from jB];rfl
  ·simp only[Rd.name,hc,if_true];rfl
def ix(r:Rd)(h:o7 r):af prog 144 [pR] (cH r) (fun v l=>v=rI r.ci/\l=cH r):=by
 obtain⟨h1,h2,h3,h4,h5,h6,h7⟩:=h;refine aQ func144 ntmps144 ?_;simp only[cH,iC]
 (repeat' (first|refine ar fun K hK=>?_|refine av ?_|(with_reducible refine gR 1 ?_);refine dE 1 (bf 0 17) mixed ?_|(refine hK _ _ ?_;clear hK K)|(refine au ?_ ?_<;>intro hc<;>try exact jz)|refine cp (Uz _ _ jB) ?_|refine aq ?_|exact jI|(clear hK K)))
 (refine cd [.tmp 2] ?_ ?_<;>(try simp only[go_sem]))
 rfl
def xO(r:Rd)(k ln n:Int)(nm:U0)(L:UY)(h:o7 r):af prog 196 [pR,rI k,rI ln,rI n,rS nm,aM eI 1 L] (cH r) (fun v l=>v=rI (r.put k ln n nm L).2/\l=cH (r.put k ln n nm L).1):=by
 obtain⟨h1,h2,h3,h4,h5,h6,h7⟩:=h;refine aQ func196 ntmps196 ?_;simp only[cH,iC]
 (repeat' (first|refine ar fun K hK=>?_|refine av ?_|(refine hK _ _ ?_;clear hK K)|(refine au ?_ ?_<;>intro hc<;>try exact jz)|refine aq ?_|exact jI|(clear hK K)))
 (refine cd [.tmp 12] ?_ ?_<;>(try simp only[go_sem]))
 ·simp only[Rd.put];exact Q4 jB
 ·simp only[Rd.put,Rd.node,List.map_append,List.length_append,List.length_cons,List.length_nil];rfl
def uF(r:Rd)(h:o7 r):af prog 194 [pR] (cH r) (fun v l=>v=.ba []/\l=cH r.down):=by
 have hf:=ue r 21 h;obtain⟨h1,h2,h3,h4,h5,h6,h7⟩:=h;simp only[cH,iC]at hf;refine aQ func194 ntmps194 ?_;simp only[cH,iC]
 (repeat' (first|refine ar fun K hK=>?_|refine av ?_|(refine hK _ _ ?_;clear hK K)|(refine au ?_ ?_<;>intro hc<;>try exact jz)|refine cm (hf) ?_|refine aq ?_|exact jI|(clear hK K)))
 ·(refine cd [] ?_ ?_<;>(try simp only[go_sem]))
  simp only[Rd.down,if_pos hc,go_sem]
 ·(refine cd [] ?_ ?_<;>(try simp only[go_sem]))
  simp only[Rd.down];rw[jN]
def ru(r:Rd)(h:o7 r):af prog 192 [pR] (cH r) (fun v l=>v=rS r.word/\l=cH r):=by
 have Ym:=xl r 4 h;obtain⟨h1,h2,h3,h4,h5,h6,h7⟩:=h;simp only[cH,iC]at Ym;refine aQ func192 ntmps192 ?_;simp only[cH,iC]
 (repeat' (first|refine ar fun K hK=>?_|refine av ?_|(with_reducible refine gR 3 ?_);refine dE 3 (bf 0 12) mixed ?_|(refine hK _ _ ?_;clear hK K)|(refine au ?_ ?_<;>intro hc<;>try exact jz)|refine cm (Ym) ?_|refine aq ?_|exact jI|(clear hK K)))
 ·(refine cd [.tmp 2] ?_ ?_<;>(try simp only[go_sem]))
  simp only[Rd.word,hc,if_true];rfl
 ·(refine cd [.tmp 2] ?_ ?_<;>(try simp only[go_sem]))
  simp only[Rd.word,hc,Bool.false_eq_true,if_false]
def Oi(r:Rd)(h:o7 r)(hn:r.kind 3=true->r.i+1<r.l.length):af prog 254 [pR] (cH r) (fun v l=>v=rB r.calls/\l=cH r):=by
 have Ym:=xl r 3 h;obtain⟨h1,h2,h3,h4,h5,h6,h7⟩:=h;simp only[cH,iC]at Ym;refine aQ func254 ntmps254 ?_;simp only[cH,iC]
 (repeat' (first|refine ar fun K hK=>?_|refine av ?_|(with_reducible refine gR 2 ?_);refine dE 2 (bf 0 32) mixed ?_|(refine hK _ _ ?_;clear hK K)|(refine au ?_ ?_<;>intro hc<;>try exact jz)|refine cm (Ym) ?_|refine aq ?_|exact jI|(clear hK K)))
 refine⟨fun h=>⟨h,jB,hn h⟩,fun h=>⟨h,jB,hn (by simp only[Bool.and_eq_true]at h;exact h.1)⟩,?_⟩
 (repeat' (first|refine ar fun K hK=>?_|refine av ?_|(refine hK _ _ ?_;clear hK K)|(refine au ?_ ?_<;>intro hc<;>try exact jz)|refine aq ?_|exact jI|(clear hK K)))
 (refine bq [.tmp 2] ?_;try simp only[go_sem])
 rfl
def Tj(lv:Int):aD prog 277 [rI lv] (aM eS 1 (nL lv)):=by
 refine cB func277 ntmps277 ?_
 (repeat' (first|refine ar fun K hK=>?_|refine av ?_|(refine hK _ _ ?_;clear hK K)|(refine au ?_ ?_<;>intro hc<;>try exact jz)|refine aq ?_|exact jI|(clear hK K)))
 all_goals refine fy [.tmp 2] ?_
 all_goals simp only[nL, *,if_true,if_false,Int.reduceEq,if_pos,if_neg,not_false_eq_true]
 all_goals exact .lit _ _ _ _ _
def QO(lv:Int):(nL lv).length<=4/\∀s∈nL lv,s≠⟨#[]⟩:=by
 unfold nL;split
 ·decide
 ·split
  ·decide
  ·split
   ·decide
   ·split<;>decide
def Ew(r:Rd)(lv:Int)(h:o7 r):af prog 270 [pR,rI lv] (cH r) (fun v l=>v=rS (r.next lv)/\l=cH r):=by
 have Ym:=fun t=>gA r t h
 have hl:=QO lv;obtain⟨h1,h2,h3,h4,h5,h6,h7⟩:=h;simp only[cH,iC]at Ym;refine aQ func270 ntmps270 ?_;simp only[cH,iC]
 (repeat' (first|refine ar fun K hK=>?_|refine av ?_|(refine hK _ _ ?_;clear hK K)|(refine au ?_ ?_<;>intro hc<;>try exact jz)|refine cp (Tj lv) ?_|refine aq ?_|exact jI|(clear hK K)))
 have Vc:=hK;clear hK;refine dJ (S:=Nat) [(4,1),(6,2),(10,17)] (fun k=>k<=(nL lv).length/\∀j,j<k->r.is (nth (nL lv) j)=false) (fun k=>[(6,rI k)]) (fun _=>⟨[0,1],cH r⟩) (fun k=>(nL lv).length-k) 0 ⟨jB,fun j h=>jB⟩ (dK rfl bU) ?_;rintro k ⟨VA,Vk⟩ Kr Vb;simp only[cH,iC];refine S ?_
 (repeat' (first|refine ar fun K hK=>?_|refine av ?_|(refine hK _ _ ?_;clear hK K)|(refine au ?_ ?_<;>intro hc<;>try exact jz)|refine cm (Ym _) ?_|refine Vc _ _ ?_|refine aq ?_|exact jI|(clear hK K)))
 ·(refine cd [.tmp 4] ?_ ?_<;>(try simp only[go_sem]))
  have:(nL lv).find? (fun s=>r.is s)=some (nth (nL lv) k):=Aq Vk jB hc;simp only[Rd.next,this]
 ·refine Vb _ _ (dT (k+1) ⟨jB,fun j hj=>?_⟩ jJ rfl bU);by_cases e:j=k
  ·subst e;exact hc
  ·exact Vk j jB
 ·(refine cd [.tmp 4] ?_ ?_<;>(try simp only[go_sem]))
  have:(nL lv).find? (fun s=>r.is s)=none:=C2 fun j hj=>Vk j jB
  simp only[Rd.next,this]
def MD{P:U6}{f:FuncId}{args args':UU}{l:UT}{R:AV->List U8->Prop}(hl:pU args args')(h:af P f args' l R):af P f args l R:=fun w vs h1 h2=>by
 obtain⟨O',hg⟩:=hl.get;refine h w vs h1 ⟨O'.symm.trans h2.1,fun i a v ha hv=>?_⟩;have hi:i<args.length:=by rw[O'];exact(List.getElem?_eq_some_iff.1 ha).1
 exact hg i args[i] a (List.getElem?_eq_getElem hi) ha w v (h2.2 i _ v (List.getElem?_eq_getElem hi) hv)
def lj(r:Rd)(k ln n:Int)(nm:U0)(L:UY)(a:AV)(ha:gS a (aM eI 1 L))(h:o7 r):af prog 196 [pR,rI k,rI ln,rI n,rS nm,a] (cH r) (fun v l=>v=rI (r.put k ln n nm L).2/\l=cH (r.put k ln n nm L).1):=
 MD (args':=[pR,rI k,rI ln,rI n,rS nm,aM eI 1 L]) ⟨gS.refl _,gS.refl _,gS.refl _,gS.refl _,gS.refl _,ha,trivial⟩ (xO r k ln n nm L h)
def Db(n:Nat):Prop:=∀r:Rd,r.Inv->8*r.rem+1<=n->af prog 276 [pR] (cH r) (fun v l=>v=rI (qV n r).2/\l=cH (qV n r).1)
def z8(n:Nat):Prop:=∀r:Rd,r.Inv->8*r.rem+2<=n->af prog 269 [pR] (cH r) (fun v l=>v=rI (iS n r).2/\l=cH (iS n r).1)
def z7(n:Nat):Prop:=∀(lv:Nat) (r:Rd),lv<=5->r.Inv->8*r.rem+8-lv<=n->af prog 256 [pR,rI lv] (cH r) (fun v l=>v=rI (dZ n lv r).2/\l=cH (dZ n lv r).1)
def TX(n:Nat)(ha:Db n)(hf:z8 n):z8 (n+1):=by
 intro r h hn;have sg:∀t,r.is t=true->r.e=0/\r.down.Inv/\r.down.inc.Inv/\r.down.inc.rem+1<=r.rem:=fun t ht=>by
  obtain⟨he,hk⟩:=Rd.bc ht;obtain⟨h1,h2,h3,h4,_⟩:=Rd.bK h he;have WS:r.down.tok=r.tok:=by unfold Rd.tok;rw[h3,h4]
  obtain⟨s1,e1⟩:=Rd.bt h1 (by rw[WS];exact hk);have:=s1.inv h1;have hb:=Rd.behind h1 (by rw[WS];exact hk);refine⟨he,h1,this,?_⟩;unfold Rd.rem;rw[if_pos he];have:r.down.inc.i=r.i+1:=by show r.down.i+1=_;rw[h3]
  have hl:r.down.inc.l=r.l:=h4;rw[this,hl];rw[h3,h4]at hb;split<;>omega
 by_cases hm:r.is (⟨#[45]⟩:U0)=true
 ·obtain⟨he,h1,h2,h3⟩:=sg _ hm;have s2:=(sG n).2.1 _ h2;have h4:=s2.inv h2;have h5:(iS n r.down.inc).1.up.Inv:=(Rd.fD h he ((Rd.bt h1 (by obtain⟨_,_,h3,h4,_⟩:=Rd.bK h he;unfold Rd.tok;rw[h3,h4];exact(Rd.bc hm).2)).1.trans s2)).inv h;have hd1:=h2.px;have hd2:=h2.qm;have Xx:=h1.lt;have ZX:=h1.len;have hi3:=h1.pos;have hd3:=h4.px;have hd4:=h4.qm;rw[iS,if_pos hm];refine aQ func269 ntmps269 ?_;refine S ?_
  (have W:=hm;repeat' (first|refine ar fun K hK=>?_|refine av ?_|(refine hK _ _ ?_;clear hK K)|(refine au ?_ ?_<;>intro hc<;>try exact jz)|refine cm (ix r (bC h)) ?_|refine cm (gA r _ (bC h)) ?_|refine cm (uF r (bC h)) ?_|refine cm (hf r.down.inc h2 jB) ?_|refine cm (lj (iS n r.down.inc).1.up _ _ _ _ [(iS n r.down.inc).2] _ gS.sl (bC h5)) ?_|refine aq ?_|exact jI|(clear hK K)))
  (refine cd [.tmp 2] ?_ ?_<;>(try simp only[go_sem]))
 ·have hmf:r.is (⟨#[45]⟩:U0)=false:=by simpa using hm
  by_cases hq:r.is (⟨#[33]⟩:U0)=true
  ·obtain⟨he,h1,h2,h3⟩:=sg _ hq;have s2:=(sG n).2.1 _ h2;have h4:=s2.inv h2;have h5:(iS n r.down.inc).1.up.Inv:=(Rd.fD h he ((Rd.bt h1 (by obtain⟨_,_,h3,h4,_⟩:=Rd.bK h he;unfold Rd.tok;rw[h3,h4];exact(Rd.bc hq).2)).1.trans s2)).inv h;have hd1:=h2.px;have hd2:=h2.qm;have Xx:=h1.lt;have ZX:=h1.len;have hi3:=h1.pos;have hd3:=h4.px;have hd4:=h4.qm;rw[iS,if_neg hm,if_pos hq];refine aQ func269 ntmps269 ?_;refine S ?_
   (have W:=jA hmf hq;repeat' (first|refine ar fun K hK=>?_|refine av ?_|(refine hK _ _ ?_;clear hK K)|(refine au ?_ ?_<;>intro hc<;>try exact jz)|refine cm (ix r (bC h)) ?_|refine cm (gA r _ (bC h)) ?_|refine cm (uF r (bC h)) ?_|refine cm (hf r.down.inc h2 jB) ?_|refine cm (lj (iS n r.down.inc).1.up _ _ _ _ [(iS n r.down.inc).2] _ gS.sl (bC h5)) ?_|refine aq ?_|exact jI|(clear hK K)))
   (refine cd [.tmp 2] ?_ ?_<;>(try simp only[go_sem]))
  ·have hqf:r.is (⟨#[33]⟩:U0)=false:=by simpa using hq
   rw[iS,if_neg hm,if_neg hq];refine aQ func269 ntmps269 ?_;refine S ?_
   (have W:=jA hmf hqf;repeat' (first|refine ar fun K hK=>?_|refine av ?_|(refine hK _ _ ?_;clear hK K)|(refine au ?_ ?_<;>intro hc<;>try exact jz)|refine cm (ix r (bC h)) ?_|refine cm (gA r _ (bC h)) ?_|refine cm (ha r h jB) ?_|refine aq ?_|exact jI|(clear hK K)))
   (refine cd [.tmp 2] ?_ ?_<;>(try simp only[go_sem]))
def Nj(n:Nat)(hf:z8 n)(Yw:∀m,m<=n->z7 m):z7 (n+1):=by
 intro lv r hlv h hn;have U':∀(m:Nat) (q:Rd),m<=n->lv+1<=5->q.Inv->8*q.rem+7-lv<=m->af prog 256 [pR,rI ((lv:Int)+1)] (cH q) (fun v l=>v=rI (dZ m (lv+1) q).2/\l=cH (dZ m (lv+1) q).1):=fun m q hm hl hq hr=>by have:=Yw m hm (lv+1) q hl hq jB;rw[show((lv+1:Nat):Int)=(lv:Int)+1 from jB]at this;exact this
 by_cases h5:lv=5
 ·subst h5;rw[dZ,if_pos rfl];refine aQ func256 ntmps256 ?_;refine S ?_
  (repeat' (first|refine ar fun K hK=>?_|refine av ?_|(refine hK _ _ ?_;clear hK K)|(refine au ?_ ?_<;>intro hc<;>try exact jz)|refine cm (hf r h jB) ?_|refine aq ?_|exact jI|(clear hK K)))
  (refine cd [.tmp 4] ?_ ?_<;>(try simp only[go_sem]))
 ·rw[dZ,if_neg h5];have s1:=(sG n).2.2.1 (lv+1) r h;have h1:=s1.inv h;have WU:=s1.rem;refine aQ func256 ntmps256 ?_;refine S ?_
  (repeat' (first|refine ar fun K hK=>?_|refine av ?_|(refine hK _ _ ?_;clear hK K)|(refine au ?_ ?_<;>intro hc<;>try exact jz)|refine cm (ix r (bC h)) ?_|refine cm (U' n r jl jB h jB) ?_|refine aq ?_|exact jI|(clear hK K)))
  refine dJ (S:=Nat×Rd×Int) [(4,1),(6,3),(19,27)] (fun s=>s.2.1.Inv/\8*s.2.1.rem+7-lv<=s.1/\s.1<=n/\oB s.1 lv r.ci s.2=oB n lv r.ci (dZ n (lv+1) r)) (fun s=>[(6,rI s.2.2)]) (fun s=>⟨[0,1],cH s.2.1⟩) (fun s=>s.1) (n,dZ n (lv+1) r) ⟨h1,jJ,Nat.le_refl _,rfl⟩ (dK rfl bU) ?_;rintro⟨m,q,x⟩ ⟨hq,XA,WX,Wm⟩ Kr Vb;simp only at hq XA WX Wm;rw[<-Wm];obtain⟨m,rfl⟩:∃k,m=k+1:=⟨m-1,jB⟩;have Zt:=hq.lt;have hqp:=hq.pos;have hqn:=hq.len;by_cases hx:q.next lv=⟨#[]⟩
  ·rw[oB,if_pos hx];refine S ?_
   (have W:=hx;repeat' (first|refine ar fun K hK=>?_|refine av ?_|(refine hK _ _ ?_;clear hK K)|(refine au ?_ ?_<;>intro hc<;>try exact jz)|refine cm (Ew q lv (bC hq)) ?_|refine aq ?_|exact jI|(clear hK K)))
   (refine cd [.tmp 4] ?_ ?_<;>(try simp only[go_sem]))
  ·have hk:=Rd.bc (Rd.lI hx);obtain⟨t1,e1⟩:=Rd.bt hq hk.2;have hi:=t1.inv hq;have hri:=Rd.dr hq hk;have t2:=(sG m).2.2.1 (lv+1) _ hi;have hj:=t2.inv hi;have hrj:=t2.rem;have t3:=fun L=>Rd.dj (t1.trans t2) (by have:=t2.dS;omega) 9 r.ci 0 (q.next lv) L
   rw[oB,if_neg hx];refine S ?_
   (have W:=hx;repeat' (first|refine ar fun K hK=>?_|refine av ?_|(refine hK _ _ ?_;clear hK K)|(refine au ?_ ?_<;>intro hc<;>try exact jz)|refine cm (Ew q lv (bC hq)) ?_|refine cm (U' m q.inc jB jB hi jB) ?_|refine cm (lj (dZ m (lv+1) q.inc).1 _ _ _ _ [x,(dZ m (lv+1) q.inc).2] _ gS.sl (bC hj)) ?_|refine aq ?_|exact jI|(clear hK K)))
   ·have h2:lv=2:=jB
    (refine cd [.tmp 4] ?_ ?_<;>(try simp only[go_sem]))
    ·simp only[if_pos h2]
    ·simp only[if_pos h2]
   ·have h2:¬lv=2:=jB;refine Vb _ _ (dT (m,(dZ m (lv+1) q.inc).1.put 9 r.ci 0 (q.next lv) [x,(dZ m (lv+1) q.inc).2]) ⟨(t3 _).inv hq,?_,jJ,?_⟩ jJ rfl bU)
    ·have h6:∀L,((dZ m (lv+1) q.inc).1.put 9 r.ci 0 (q.next lv) L).1.rem=(dZ m (lv+1) q.inc).1.rem:=fun L=>rfl
     simp only[h6];omega
    ·rw[<-Wm,oB,if_neg hx,if_neg h2]
end Go.Proofs.YtjpcgmjaipfgdaaGreatDoor