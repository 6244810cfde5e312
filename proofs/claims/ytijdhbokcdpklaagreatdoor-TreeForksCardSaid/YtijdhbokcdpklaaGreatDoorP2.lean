/- Lemmas. No conditions. -/
import Derived.Test.YtijdhbokcdpklaaGreatDoorLxT
set_option linter.all false
set_option maxHeartbeats 4000000
set_option maxRecDepth 10000
namespace Go.Gd
open Go
def pZ{α:Type}[Inhabited α]{a b:List α}{i:Nat}(h:i<a.length):nth (a++b) i=nth a i:=by simp[nth,List.getD_eq_getElem?_getD,List.getElem?_append_left h]
def qc{α:Type}[Inhabited α](a:List α)(x:α):nth (a++[x]) a.length=x:=by simp[nth,List.getD_eq_getElem?_getD]
def bX(t:List bq)(i:Int):Int:=(nth t i.toNat).kind
def cR(k:Int):Prop:=1<=k/\k<=9
def fv(k:Int):Prop:=cR k\/k=19\/k=20\/k=21
def fC(k:Int):Prop:=10<=k/\k<=17
def zZ:List UI:=[(⟨#[124,124]⟩:UI),(⟨#[38,38]⟩:UI),(⟨#[60]⟩:UI),(⟨#[60,61]⟩:UI),(⟨#[61,61]⟩:UI),(⟨#[33,61]⟩:UI),(⟨#[43]⟩:UI),(⟨#[45]⟩:UI),(⟨#[42]⟩:UI),(⟨#[47]⟩:UI),(⟨#[37]⟩:UI)]
structure Shape(t:List bq)(n:bq):Prop where
 any:1<=n.kind/\n.kind<=21
 zero:n.kind=1\/n.kind=2\/n.kind=3\/n.kind=4\/n.kind=19->n.l=[]
 one:n.kind=5\/n.kind=6\/n.kind=7\/n.kind=8\/n.kind=14\/n.kind=20->∃a,n.l=[a]/\cR (bX t a)
 two:n.kind=9\/n.kind=12->∃a b,n.l=[a,b]/\cR (bX t a)/\cR (bX t b)
 right:n.kind=10\/n.kind=11->∃a,n.l=[a]/\fv (bX t a)
 tx:n.kind=13->∃a,n.l=[a]/\bX t a=21
 lE:n.kind=15->∃a b,cR (bX t a)/\bX t b=18/\(n.l=[a,b]\/∃d,n.l=[a,b,d]/\bX t d=18)
 eG:n.kind=16->∃a b,n.l=[a,b]/\cR (bX t a)/\bX t b=18
 ret:n.kind=17->n.l=[]\/∃a,n.l=[a]/\cR (bX t a)
 block:n.kind=18->∀a∈n.l,fC (bX t a)
 call:n.kind=21->∀a∈n.l,cR (bX t a)
 num:n.kind=1->∃s,rj s/\n.n=pA s
 bool:n.kind=2->n.n=0\/n.n=1
 text:n.kind=3->n.name.size<=12
 sign:n.kind=9->n.name∈zZ
inductive aL(t:List bq):Nat->List Int->Nat->Prop
 |nil (k:Nat):aL t k [] k
 |cons {lo c hi:Nat} {L:List Int} (hc:c<t.length) (h1:aL t lo (nth t c).l c) (h2:aL t (c+1) L hi):aL t lo ((c:Int)::L) hi
variable{t:List bq}{lo hi:Nat}{L:UG}
def aL.le(h:aL t lo L hi):lo<=hi:=by
 induction h with
 |nil=>exact Nat.le_refl _
 |cons _ _ _ i1 i2=>omega
def aL.mem(h:aL t lo L hi):∀a∈L,0<=a/\lo<=a.toNat/\a.toNat<hi/\a.toNat<t.length:=by
 induction h with
 |nil=>intro a ha;simp at ha
 |@cons lo c hi L hc h1 h2 i1 i2=>
  intro a ha;have l1:=h1.le;have l2:=h2.le;rcases List.mem_cons.1 ha with rfl|ha
  ·exact⟨jB,by simpa using l1,by simp;omega,by simpa using hc⟩
  ·have:=i2 a ha;omega
variable{u:List bq}
def aL.mono(h:aL t lo L hi):aL (t++u) lo L hi:=by
 induction h with
 |nil k=>exact .nil k
 |cons hc _ _ i1 i2=>exact .cons jF (by rw[pZ hc];exact i1) i2
variable{M:UG}
def aL.append{mid:Nat}(h:aL t lo L mid):aL t mid M hi->aL t lo (L++M) hi:=by
 induction h with
 |nil=>intro k;exact k
 |cons hc h1 _ _ i2=>intro k;exact .cons hc h1 (i2 k)
def aL.one{c:Nat}(hc:c<t.length)(h:aL t lo (nth t c).l c):aL t lo [(c:Int)] (c+1):=.cons hc h (.nil _)
def mU{a:Int}(h:a.toNat<t.length):bX (t++u) a=bX t a:=by unfold bX;rw[pZ h]
def Shape.mono{n:bq}(h:Shape t n)(hl:∀a∈n.l,a.toNat<t.length):Shape (t++u) n where
 any:=h.any
 zero:=h.zero
 one:=fun e=>by obtain⟨a,h1,h2⟩:=h.one e;exact⟨a,h1,by rw[mU (hl a (by rw[h1];simp))];exact h2⟩
 two:=fun e=>by obtain⟨a,b,h1,h2,h3⟩:=h.two e;exact⟨a,b,h1,by rw[mU (hl a (by rw[h1];simp))];exact h2,by rw[mU (hl b (by rw[h1];simp))];exact h3⟩
 right:=fun e=>by obtain⟨a,h1,h2⟩:=h.right e;exact⟨a,h1,by rw[mU (hl a (by rw[h1];simp))];exact h2⟩
 tx:=fun e=>by obtain⟨a,h1,h2⟩:=h.tx e;exact⟨a,h1,by rw[mU (hl a (by rw[h1];simp))];exact h2⟩
 lE:=fun e=>by
  obtain⟨a,b,h1,h2,h3⟩:=h.lE e;rcases h3 with h3|⟨d,h3,h4⟩
  ·exact⟨a,b,by rw[mU (hl a (by rw[h3];simp))];exact h1,by rw[mU (hl b (by rw[h3];simp))];exact h2,.inl h3⟩
  ·exact⟨a,b,by rw[mU (hl a (by rw[h3];simp))];exact h1,by rw[mU (hl b (by rw[h3];simp))];exact h2,.inr ⟨d,h3,by rw[mU (hl d (by rw[h3];simp))];exact h4⟩⟩
 eG:=fun e=>by obtain⟨a,b,h1,h2,h3⟩:=h.eG e;exact⟨a,b,h1,by rw[mU (hl a (by rw[h1];simp))];exact h2,by rw[mU (hl b (by rw[h1];simp))];exact h3⟩
 ret:=fun e=>by
  rcases h.ret e with h1|⟨a,h1,h2⟩
  ·exact .inl h1
  ·exact .inr ⟨a,h1,by rw[mU (hl a (by rw[h1];simp))];exact h2⟩
 block:=fun e a ha=>by rw[mU (hl a ha)];exact h.block e a ha
 call:=fun e a ha=>by rw[mU (hl a ha)];exact h.call e a ha
 num:=h.num
 bool:=h.bool
 text:=h.text
 sign:=h.sign
def aL.len(h:aL t lo L hi):L.length+lo<=hi:=by
 induction h with
 |nil=>simp
 |@cons lo c hi L hc h1 h2 i1 i2=> have:=h1.le;simp only[List.length_cons];omega
structure Mk(t t':List bq)(L:List Int):Prop where
 pre:∃u,t'=t++u
 chain:aL t' t.length L t'.length
 shape:∀k,t.length<=k->k<t'.length->Shape t' (nth t' k)/\(∀a∈(nth t' k).l,0<=a/\a.toNat<k)/\∃lo,aL t' lo (nth t' k).l k
def Mk.refl(t:List bq):Mk t t []:=⟨⟨[],jE⟩,.nil _,fun k h1 h2=>jB⟩
variable{a b:List bq}
def Mk.trans{c:List bq}(h:Mk a b L)(k:Mk b c M):Mk a c (L++M):=by
 obtain⟨⟨u,rfl⟩,h2,h3⟩:=h;obtain⟨⟨v,rfl⟩,k2,k3⟩:=k;refine⟨⟨u++v,jE⟩,h2.mono.append k2,fun i h4 h5=>?_⟩;by_cases hi:i<(a++u).length
 ·obtain⟨g1,g2,lo,g3⟩:=h3 i h4 hi;rw[pZ hi];exact⟨g1.mono fun x hx=>by have:=g2 x hx;omega,g2,lo,g3.mono⟩
 ·exact k3 i jB h5
def Mk.put(h:Mk a b L)(n:bq)(hn:n.l=L)(hs:Shape b n):Mk a (b++[n]) [(b.length:Int)]:=by
 obtain⟨⟨u,rfl⟩,h2,h3⟩:=h;have hm:∀x∈n.l,0<=x/\x.toNat<(a++u).length:=fun x hx=>by rw[hn]at hx;exact⟨(h2.mem x hx).1,(h2.mem x hx).2.2.1⟩
 refine⟨⟨u++[n],jE⟩,?_,fun i h4 h5=>?_⟩
 ·have e:((a++u)++[n]).length=(a++u).length+1:=by simp only[List.length_append,List.length_cons,List.length_nil]
  rw[e];refine aL.one jE ?_;rw[qc,hn];exact h2.mono
 ·by_cases hi:i<(a++u).length
  ·obtain⟨g1,g2,lo,g3⟩:=h3 i h4 hi;rw[pZ hi];exact⟨g1.mono fun x hx=>by have:=g2 x hx;omega,g2,lo,g3.mono⟩
  ·have:i=(a++u).length:=by simp at h5 hi ⊢;omega
   subst this;rw[qc];exact⟨hs.mono fun x hx=>(hm x hx).2,hm,a.length,by rw[hn];exact h2.mono⟩
def Mk.kind{c:List bq}(h:Mk a b L)(k:Mk b c M){x:Int}(hx:x∈L):bX c x=bX b x:=by obtain⟨⟨v,rfl⟩,_,_⟩:=k;exact mU (h.chain.mem x hx).2.2.2
def O8(t:List bq)(n:bq):bX (t++[n]) (t.length:Int)=n.kind:=by unfold bX;rw[Int.toNat_natCast,qc]
def k6(l:List cA):Prop:=∀k,k<l.length->(nth l k).kind=2->(nth l k).text.size<=12
def Made(r r':Rd)(L:UG)(C:Int->Prop):Prop:=r'.e=0->Mk r.nodes r'.nodes L/\∀a∈L,C (bX r'.nodes a)
structure Still(r r':Rd):Prop where
 nodes:r'.nodes=r.nodes
 err:r'.e=0->r.e=0
 l:r'.l=r.l
def Still.refl(r:Rd):Still r r:=⟨rfl,id,rfl⟩
theorem Still.trans{a b c:Rd}(h:Still a b)(k:Still b c):Still a c:=⟨k.nodes.trans h.nodes,fun e=>h.err (k.err e),k.l.trans h.l⟩
def yl(r:Rd){e:Int}(he:e≠0):Still r (r.aE e):=⟨Rd.dN _ _,fun h=>(Rd.gK he h).elim,Rd.gL _ _⟩
def np(r:Rd):Still r r.inc:=⟨rfl,id,rfl⟩
def zY(r:Rd):Still r r.up:=⟨rfl,id,rfl⟩
def jT(r:Rd)(t:UI):Still r (r.ap t):=by
 unfold Rd.ap;split
 ·exact np r
 ·exact yl r jC
def v7(r:Rd):Still r r.name.1:=by
 unfold Rd.name;split
 ·exact np r
 ·exact yl r jC
def ym(r:Rd):Still r r.down:=by
 unfold Rd.down;split
 ·have:=yl r (e:=21) jC;exact⟨this.nodes,this.err,this.l⟩
 ·exact⟨rfl,id,rfl⟩
variable{r a b:Rd}{C:Int->Prop}
def Made.pre(s:Still r a)(h:Made a b L C):Made r b L C:=fun e=>by have:=h e;rwa [s.nodes]at this
def Made.post(h:Made r a L C)(s:Still a b):Made r b L C:=fun e=>by have:=h (s.err e);rwa [s.nodes]
def Made.nil(r:Rd)(C:Int->Prop):Made r r [] C:=fun _=>⟨Mk.refl _,fun a ha=>by simp at ha⟩
def Made.p4{D:Int->Prop}(h:Made r a L C)(hc:∀k,C k->D k):Made r a L D:=fun e=>⟨(h e).1,fun a ha=>hc _ ((h e).2 a ha)⟩
def Made.seq{c:Rd}{D:Int->Prop}(h:Made a b L C)(k:Made b c M D)(he:c.e=0->b.e=0):c.e=0->Mk a.nodes c.nodes (L++M)/\(∀x∈L,C (bX c.nodes x))/\∀x∈M,D (bX c.nodes x):=fun e=>by obtain⟨h1,h2⟩:=h (he e);obtain⟨k1,k2⟩:=k e;exact⟨h1.trans k1,fun x hx=>by rw[h1.kind k1 hx];exact h2 x hx,k2⟩
def Made.both{c:Rd}(h:Made a b L C)(k:Made b c M C)(he:c.e=0->b.e=0):Made a c (L++M) C:=fun e=>by obtain⟨h1,h2,h3⟩:=h.seq k he e;exact⟨h1,fun x hx=>(List.mem_append.1 hx).elim (h2 x) (h3 x)⟩
def jV(k ln n:Int)(nm:UI)(h:a.e=0->Mk r.nodes a.nodes L/\Shape a.nodes ⟨k,ln,n,nm,L⟩/\C k):Made r (a.put k ln n nm L).1 [(a.put k ln n nm L).2] C:=fun e=>by obtain⟨h1,h2,h3⟩:=h e;refine⟨h1.put _ rfl h2,fun x hx=>?_⟩;rw[List.mem_singleton.1 hx];show C (bX (a.nodes++[_]) (a.nodes.length:Int));rw[O8];exact h3
variable{k ln n:Int}{nm:UI}
def uq(hk:k=1\/k=2\/k=3\/k=4\/k=17\/k=19)(h1:k=1->∃s,rj s/\n=pA s)(h2:k=2->n=0\/n=1)(h3:k=3->nm.size<=12):Shape t ⟨k,ln,n,nm,[]⟩:=by constructor<;>(try simp only)<;>intros<;>first|(clear h1 h2 h3;omega)|(clear h1 h2 h3;exfalso;omega)|trivial|rfl|(exact .inl rfl)|(exact .inl trivial)|(refine h1 ?_;assumption)|(refine h2 ?_;assumption)|(refine h3 ?_;assumption)|fail
variable{a:Int}
def vp(hk:k=5\/k=6\/k=7\/k=8\/k=14\/k=17\/k=20)(h:cR (bX t a)):Shape t ⟨k,ln,n,nm,[a]⟩:=by constructor<;>(try simp only)<;>intros<;>first|omega|omega|trivial|(exact⟨a,rfl,h⟩)|(exact .inr ⟨a,rfl,h⟩)
def FJ(hk:k=10\/k=11)(h:fv (bX t a)):Shape t ⟨k,ln,n,nm,[a]⟩:=by constructor<;>(try simp only)<;>intros<;>first|omega|omega|trivial|(exact⟨a,rfl,h⟩)
def N3(h:bX t a=21):Shape t ⟨13,ln,n,nm,[a]⟩:=by constructor<;>(try simp only)<;>intros<;>first|omega|omega|trivial|(exact⟨a,rfl,h⟩)
variable{b:Int}
def JE(hk:k=12\/k=9/\nm∈zZ)(h:cR (bX t a))(h':cR (bX t b)):Shape t ⟨k,ln,n,nm,[a,b]⟩:=by constructor<;>(try simp only)<;>intros<;>first|omega|omega|trivial|(exact⟨a,b,rfl,h,h'⟩)|(rcases hk with hk|hk;omega;exact hk.2)|fail
def Ko(h:cR (bX t a))(h':bX t b=18):Shape t ⟨16,ln,n,nm,[a,b]⟩:=by constructor<;>(try simp only)<;>intros<;>first|omega|omega|trivial|(exact⟨a,b,rfl,h,h'⟩)
def Kt(h:cR (bX t a))(h':bX t b=18):Shape t ⟨15,ln,n,nm,[a,b]⟩:=by constructor<;>(try simp only)<;>intros<;>first|omega|omega|trivial|(exact⟨a,b,h,h',.inl rfl⟩)
def R5{d:Int}(h:cR (bX t a))(h':bX t b=18)(h'':bX t d=18):Shape t ⟨15,ln,n,nm,[a,b,d]⟩:=by constructor<;>(try simp only)<;>intros<;>first|omega|omega|trivial|(exact⟨a,b,h,h',.inr ⟨d,rfl,h''⟩⟩)
def SG(h:∀a∈L,fC (bX t a)):Shape t ⟨18,ln,n,nm,L⟩:=by constructor<;>(try simp only)<;>intros<;>first|omega|omega|trivial|(refine h _ ?_;assumption)|fail
def SS(h:∀a∈L,cR (bX t a)):Shape t ⟨21,ln,n,nm,L⟩:=by constructor<;>(try simp only)<;>intros<;>first|omega|omega|trivial|(refine h _ ?_;assumption)|fail
def Uk{lv:Int}(h:r.next lv≠⟨#[]⟩):r.next lv∈zZ:=by
 unfold Rd.next at h ⊢;cases e:(nE lv).find? (fun s=>r.is s)with
 |none=>rw[e]at h;exact(h rfl).elim
 |some s=>
  have:=List.mem_of_find?_eq_some e;unfold nE at this;simp only;unfold zZ;split at this
  ·simp at this ⊢;simp[this]
  split at this
  ·simp at this ⊢;simp[this]
  split at this
  ·simp at this ⊢;rcases this with h|h|h|h<;>simp[h]
  split at this
  ·simp at this ⊢;rcases this with h|h<;>simp[h]
  ·simp at this ⊢;rcases this with h|h|h<;>simp[h]
def pP{r':Rd}(s:Rd.St r r'):r'.e=0->r.e=0:=fun h=>Classical.byContradiction fun e=>s.err e h
def EV{e:Int}(he:e≠0):Made r (r.aE e) L C:=fun h=>(Rd.gK he h).elim
theorem JJ:∀n,(∀r:Rd,r.Inv->k6 r.l->8*r.rem+1<=n->Made r (qk n r).1 [(qk n r).2] cR)/\(∀r:Rd,r.Inv->k6 r.l->8*r.rem+2<=n->Made r (iF n r).1 [(iF n r).2] cR)/\
  (∀lv (r:Rd),r.Inv->k6 r.l->lv<=5->8*r.rem+8<=n+lv->Made r (dT n lv r).1 [(dT n lv r).2] cR)/\
  (∀lv ln (r:Rd) (p:Rd×Int),p.1.Inv->k6 p.1.l->lv<=4->8*p.1.rem+7<=n+lv->Made r p.1 [p.2] cR->Made r (oz n lv ln p).1 [(oz n lv ln p).2] cR)
 |0=>⟨fun r h ht hn=>by omega,fun r h ht hn=>by omega,fun lv r h ht h5 hn=>by omega,fun lv ln r p h ht h5 hn hp=>by omega⟩
 |n+1=>by
  obtain⟨ia,lE,ic,il⟩:=JJ n;have ist:=tv n;have deeper:∀(r:Rd) (t u:UI),r.Inv->k6 r.l->r.e=0->8*r.rem+1<=n+1->(r.is t=true\/8*r.rem+8<=n)->Made r ((dT n 0 (r.down.ap t)).1.ap u).up [(dT n 0 (r.down.ap t)).2] cR:=fun r t u h ht he hn hx=>by
   have h1:=(Rd.bK h he).1;have s1:=Rd.aK h1 t;have hr:8*(r.down.ap t).rem+8<=n+0:=by
    rcases hx with hx|hx
    ·have:=(Rd.gI h hx).1;omega
    ·have:=s1.rem;have Yw:r.down.rem<=r.rem:=by
      unfold Rd.rem;obtain⟨_,_,h3,h4,_⟩:=Rd.bK h he;rw[h3,h4,if_pos he];split<;>omega
     omega
   have st:=(ym r).trans (jT r.down t);have:=ic 0 (r.down.ap t) (s1.inv h1) (by rw[st.l];exact ht) jB hr;exact((this.pre st).post (jT _ _)).post (zY _)
  refine⟨fun r h ht hn=>?_,fun r h ht hn=>?_,fun lv r h ht h5 hn=>?_,fun lv ln r p h ht h5 hn hp=>?_⟩
  ·unfold qk;split
   ·rename_i he;exact fun h=>(he h).elim
   rename_i he;have he:r.e=0:=jB;have Wn:r.i.toNat<r.l.length:=by have:=h.lt;have:=h.pos;omega
   split
   ·rename_i hk;exact jV _ _ _ _ fun _=>⟨Mk.refl _,uq jB (fun _=>⟨_,h.num _ Wn hk,rfl⟩) jH jH,by unfold cR;omega⟩
   split
   ·rename_i hk;exact jV _ _ _ _ fun _=>⟨Mk.refl _,uq jB jH jH (fun _=>ht _ Wn hk),by unfold cR;omega⟩
   split
   ·rename_i hk;have Wg:r.e=0/\r.tok.kind≠0:=⟨he,jB⟩;split
    ·have hi:=(Rd.br h Wg.2).1.inv h;have hr:=Rd.de h Wg;have hm:=deeper r.inc (⟨#[91]⟩:UI) (⟨#[93]⟩:UI) hi ht he jB (.inl (by assumption));exact jV _ _ _ _ fun e=>⟨(hm e).1,vp jB ((hm e).2 _ jE),by unfold cR;omega⟩
    ·exact jV _ _ _ _ fun _=>⟨Mk.refl _,uq jB jH jH jH,by unfold cR;omega⟩
   split
   ·exact jV _ _ _ _ fun _=>⟨Mk.refl _,uq jB jH (fun _=>.inr rfl) jH,by unfold cR;omega⟩
   split
   ·exact jV _ _ _ _ fun _=>⟨Mk.refl _,uq jB jH (fun _=>.inl rfl) jH,by unfold cR;omega⟩
   split
   ·rename_i hs;have Wg:=Rd.aZ hs;split
    ·have hi:=(Rd.br h Wg.2).1.inv h;have hr:=Rd.de h Wg;have hm:=deeper r.inc (⟨#[40]⟩:UI) (⟨#[41]⟩:UI) hi ht he jB (.inl (by assumption));exact jV _ _ _ _ fun e=>⟨(hm e).1,vp jB ((hm e).2 _ jE),by unfold cR;omega⟩
    ·exact fun e=>(Rd.gK jC e).elim
   split
   ·exact deeper r (⟨#[40]⟩:UI) (⟨#[41]⟩:UI) h ht he hn (.inl (by assumption))
   ·exact EV jC
  ·unfold iF;have sg:∀t,r.is t=true->∀k ln nm,(k=7\/k=8)->Made r (((iF n r.down.inc).1.up).put k ln 0 nm [(iF n r.down.inc).2]).1 [(((iF n r.down.inc).1.up).put k ln 0 nm [(iF n r.down.inc).2]).2] cR:=fun t XX k ln nm hk=>by
    obtain⟨he,XA⟩:=Rd.aZ XX;obtain⟨h1,h2,h3,h4,h5,h6⟩:=Rd.bK h he;have Wn:r.down.tok=r.tok:=by unfold Rd.tok;rw[h3,h4]
    have s1:=(Rd.br h1 (by rw[Wn];exact XA)).1;have st:=(ym r).trans (np r.down);have hr:8*r.down.inc.rem+2<=n:=by
     have hb:=Rd.behind h XA;unfold Rd.rem at hn ⊢;rw[if_pos he]at hn;have e1:r.down.inc.i=r.i+1:=by show r.down.i+1=_;rw[h3]
     have e2:r.down.inc.l=r.l:=h4;rw[e1,e2];have:=h.pos;split<;>omega
    have hm:=((lE r.down.inc (s1.inv h1) (by rw[st.l];exact ht) hr).pre st).post (zY _);exact jV _ _ _ _ fun e=>⟨(hm e).1,vp jB ((hm e).2 _ jE),by unfold cR;omega⟩
   split
   ·rename_i XX;exact sg _ XX _ _ _ (.inl rfl)
   split
   ·rename_i XX;exact sg _ XX _ _ _ (.inr rfl)
   ·exact ia r h ht jB
  ·unfold dT;split
   ·exact lE r h ht jB
   ·have s1:=ist.2.2.1 (lv+1) r h;exact il lv _ r _ (s1.inv h) (by rw[s1.l];exact ht) jB (by have:=s1.rem;omega) (ic (lv+1) r h ht jB jB)
  ·unfold oz;split
   ·exact hp
   rename_i Y5;have Wg:=Rd.aZ (Rd.lH Y5);have s1:=(Rd.br h Wg.2).1;have hr:=Rd.de h Wg;have s2:=ist.2.2.1 (lv+1) _ (s1.inv h);have hm:=ic (lv+1) p.1.inc (s1.inv h) (by rw[s1.l];exact ht) jB jB;have Zs:=(hp.post (np _)).seq hm (pP s2);have haw:Made r ((dT n (lv+1) p.1.inc).1.put 9 ln 0 (p.1.next lv) [p.2,(dT n (lv+1) p.1.inc).2]).1 [((dT n (lv+1) p.1.inc).1.put 9 ln 0 (p.1.next lv) [p.2,(dT n (lv+1) p.1.inc).2]).2] cR:=
    jV _ _ _ _ fun e=>⟨(Zs e).1,JE (.inr ⟨rfl,Uk Y5⟩) ((Zs e).2.1 _ jE) ((Zs e).2.2 _ jE),by unfold cR;omega⟩
   split
   ·exact haw
   ·have s3:=Rd.da (s1.trans s2) (by have:=s2.dO;have:=(Rd.br h Wg.2).2;omega) 9 ln 0 (p.1.next lv) [p.2,(dT n (lv+1) p.1.inc).2];exact il lv ln r _ (s3.inv h) (by rw[s3.l];exact ht) h5 (by have e:((dT n (lv+1) p.1.inc).1.put 9 ln 0 (p.1.next lv) [p.2,(dT n (lv+1) p.1.inc).2]).1.rem=(dT n (lv+1) p.1.inc).1.rem:=rfl;show 8*((dT n (lv+1) p.1.inc).1.put 9 ln 0 (p.1.next lv) [p.2,(dT n (lv+1) p.1.inc).2]).1.rem+7<=_;rw[e];have:=s2.rem;omega) haw
def sa(h:r.Inv)(ht:k6 r.l):Made r (dh r).1 [(dh r).2] cR:=(JJ _).2.2.1 0 r h ht jB jB
def St.kf{r':Rd}(s:Rd.St r r')(h:k6 r.l):k6 r'.l:=by rw[s.l];exact h
theorem J5:∀(n:Nat) (b:Bool) (r0 r:Rd) (L:UG),r.Inv->k6 r.l->Made r0 r L cR->Made r0 (ns n b r L).1 (ns n b r L).2 cR
 |0,_,r0,r,L,h,ht,hm=>by unfold ns;exact hm
 |n+1,false,r0,r,L,h,ht,hm=>by unfold ns;exact hm
 |n+1,true,r0,r,L,h,ht,hm=>by
  have s1:=ka h;have h1:=s1.inv h;have m1:=hm.both (sa h ht) (pP s1);unfold ns;split
  ·rename_i hs;have s2:=(Rd.br h1 (Rd.aZ hs).2).1;exact J5 n _ r0 _ _ (s2.inv h1) (St.kf s2 (St.kf s1 ht)) (m1.post (np _))
  ·exact m1
def DD(h:r.Inv)(ht:k6 r.l):Made r (mT r).1 [(mT r).2] (fun k=>k=21):=by have hs:=yD h;have st:=(v7 r).trans (jT r.name.1 (⟨#[40]⟩:UI));have hm:Made r (nY r).1 (nY r).2 cR:=J5 _ _ r _ _ (hs.inv h) (St.kf hs ht) ((Made.nil _ _).pre st);have hm:=hm.post (jT (nY r).1 (⟨#[41]⟩:UI));exact jV _ _ _ _ fun e=>⟨(hm e).1,SS (hm e).2,rfl⟩
def ER(h:r.Inv)(ht:k6 r.l):Made r (lP r).1 [(lP r).2] fv:=by
 unfold lP;split
 ·exact jV _ _ _ _ fun _=>⟨Mk.refl _,uq jB jH jH jH,by unfold fv;omega⟩
 split
 ·rename_i hs;have s1:=(Rd.br h (Rd.aZ hs).2).1;have s2:=s1.trans (Rd.aK (s1.inv h) (⟨#[40]⟩:UI));have hm:=((sa (s2.inv h) (St.kf s2 ht)).pre ((np r).trans (jT _ _))).post (jT _ (⟨#[41]⟩:UI));exact jV _ _ _ _ fun e=>⟨(hm e).1,vp jB ((hm e).2 _ jE),by unfold fv;omega⟩
 split
 ·exact(DD h ht).p4 fun k hk=>by unfold fv;omega
 ·exact(sa h ht).p4 fun k hk=>.inl hk
def MQ(h:r.Inv)(ht:k6 r.l)(he:r.e=0):Made r (pe r).1 [(pe r).2] cR:=by have h1:=(Rd.bK h he).1;have s1:=Rd.aK h1 (⟨#[91]⟩:UI);have st:=(ym r).trans (jT r.down (⟨#[91]⟩:UI));exact(sa (s1.inv h1) (by rw[st.l];exact ht)).pre st
def OE(h:r.Inv)(ht:k6 r.l)(he:r.e=0)(ln:Int):Made r (pv r ln).1 [(pv r ln).2] fC:=by
 unfold pv;split
 ·have hm:=(DD h ht).post (jT _ (⟨#[59]⟩:UI));exact jV _ _ _ _ fun e=>⟨(hm e).1,N3 ((hm e).2 _ jE),by unfold fC;omega⟩
 have s0:=Rd.dr h;have h0:=s0.inv h;split
 ·rename_i hs;have he0:=(Rd.aZ hs).1;have m1:=MQ h0 (St.kf s0 ht) he0;obtain⟨t1,t2⟩:=yY h0 hs;have sB:Rd.St r.name.1 ((pe r.name.1).1.ap (⟨#[93]⟩:UI)).up:=(Dw h0 hs).2;have stl:Still (pe r.name.1).1 (((pe r.name.1).1.ap (⟨#[93]⟩:UI)).up.ap (⟨#[61]⟩:UI)):=((jT _ _).trans (zY _)).trans (jT _ _);have m2:Made (((pe r.name.1).1.ap (⟨#[93]⟩:UI)).up.ap (⟨#[61]⟩:UI)) (vW r.name.1).1 [(vW r.name.1).2] cR:=sa (t1.inv h0) (St.kf t1 (St.kf s0 ht));have hm:=((m1.post stl).both m2 (pP (ka (t1.inv h0)))).post (jT _ (⟨#[59]⟩:UI));have hm:=hm.pre (v7 r);exact jV _ _ _ _ fun e=>⟨(hm e).1,JE (.inl rfl) ((hm e).2 _ jE) ((hm e).2 _ jE),by unfold fC;omega⟩
 ·have s1:=s0.trans (Rd.aK h0 (⟨#[61]⟩:UI));have hm:=((ER (s1.inv h) (St.kf s1 ht)).pre ((v7 r).trans (jT _ _))).post (jT _ (⟨#[59]⟩:UI));exact jV _ _ _ _ fun e=>⟨(hm e).1,FJ (.inr rfl) ((hm e).2 _ jE),by unfold fC;omega⟩
theorem IG:∀n,(∀r:Rd,r.Inv->k6 r.l->4*r.rem+1<=n->Made r (gf n r).1 [(gf n r).2] (fun k=>k=18))/\
  (∀(r0 r:Rd) L,r.Inv->k6 r.l->4*r.rem+3<=n->Made r0 r L fC->Made r0 (mQ n r L).1 (mQ n r L).2 fC)/\
  (∀r:Rd,r.Inv->k6 r.l->r.e=0->4*r.rem+2<=n->Made r (nX n r).1 [(nX n r).2] fC)
 |0=>⟨fun r h ht hn=>by omega,fun r0 r L h ht hn hm=>by omega,fun r h ht he hn=>by omega⟩
 |n+1=>by
  obtain⟨ib,il,is_⟩:=IG n;have ist:=sZ n;refine⟨fun r h ht hn=>?_,fun r0 r L h ht hn hm=>?_,fun r h ht he hn=>?_⟩
  ·unfold gf;split
   ·rename_i hx;have he:=(Rd.aZ hx).1;have hd:=(Rd.bK h he).1;have s1:=Rd.aK hd (⟨#[123]⟩:UI);have st:=(ym r).trans (jT r.down (⟨#[123]⟩:UI));have hr:=(Rd.gI h hx).1;have hm:=il r (r.down.ap (⟨#[123]⟩:UI)) [] (s1.inv hd) (by rw[st.l];exact ht) jB ((Made.nil _ _).pre st);have hm:=(hm.post (jT _ (⟨#[125]⟩:UI))).post (zY _);exact jV _ _ _ _ fun e=>⟨(hm e).1,SG (hm e).2,rfl⟩
   ·exact EV jC
  ·unfold mQ;split
   ·rename_i hc;have Yk:0<n:=jB;obtain⟨s1,s2⟩:=ist.2.2 r h hc.1 Yk;have Wv:=hm.both (is_ r h ht hc.1 jB) (pP s1);exact il r0 _ _ (s1.inv h) (St.kf s1 ht) jB Wv
   ·exact hm
  ·unfold nX;have word:∀w:UI,w≠⟨#[]⟩->r.word=w->r.inc.Inv/\r.inc.rem+1<=r.rem/\Rd.St r r.inc:=fun w h0 hw=>by
    have hk:=Rd.dM (Rd.gS hw h0) jC;exact⟨(Rd.br h hk.2).1.inv h,Rd.de h hk,(Rd.br h hk.2).1⟩
   split
   ·rename_i hw;obtain⟨h1,h2,s1⟩:=word _ jC hw;have s2:=Rd.dr h1;have s3:=s2.trans (Rd.aK (s2.inv h1) (⟨#[61]⟩:UI));have hm:=((ER (s3.inv h1) (St.kf s3 ht)).pre ((np r).trans ((v7 r.inc).trans (jT _ _)))).post (jT _ (⟨#[59]⟩:UI));exact jV _ _ _ _ fun e=>⟨(hm e).1,FJ (.inl rfl) ((hm e).2 _ jE),by unfold fC;omega⟩
   split
   ·rename_i hw;obtain⟨h1,h2,s1⟩:=word _ jC hw;have hm:=((sa h1 (St.kf s1 ht)).pre (np r)).post (jT _ (⟨#[59]⟩:UI));exact jV _ _ _ _ fun e=>⟨(hm e).1,vp jB ((hm e).2 _ jE),by unfold fC;omega⟩
   split
   ·rename_i hw;obtain⟨h1,h2,s1⟩:=word _ jC hw;have s2:=ka h1;have s3:=ist.1 _ (s2.inv h1);have hm:=((sa h1 (St.kf s1 ht)).pre (np r)).seq (ib (dh r.inc).1 (s2.inv h1) (St.kf s2 (St.kf s1 ht)) (by have:=s2.rem;omega)) (pP s3);exact jV _ _ _ _ fun e=>⟨(hm e).1,Ko ((hm e).2.1 _ jE) ((hm e).2.2 _ jE),by unfold fC;omega⟩
   split
   ·rename_i hw;obtain⟨h1,h2,s1⟩:=word _ jC hw;have s2:=ka h1;have h3:=s2.inv h1;have s3:=ist.1 _ h3;have h4:=s3.inv h3;have hm:=((sa h1 (St.kf s1 ht)).pre (np r)).seq (ib (dh r.inc).1 h3 (St.kf s2 (St.kf s1 ht)) (by have:=s2.rem;omega)) (pP s3);split
    ·rename_i hx;have hk:=Rd.aZ hx;have s5:=(Rd.br h4 hk.2).1;have hr5:=Rd.de h4 hk;have h5:=s5.inv h4;have s6:=ist.1 _ h5;have m3:=(ib (gf n (dh r.inc).1).1.inc h5 (St.kf s5 (St.kf s3 (St.kf s2 (St.kf s1 ht)))) (by have:=s2.rem;have:=s3.rem;omega)).pre (np _);have he5:=fun e=>pP s5 (pP s6 e)
     exact jV _ _ _ _ fun e=>by obtain⟨a1,a2,a3⟩:=hm (he5 e);obtain⟨b1,b2⟩:=m3 e;exact⟨a1.trans b1,R5 (by rw[a1.kind b1 jE];exact a2 _ jE) (by rw[a1.kind b1 jE];exact a3 _ jE) (b2 _ jE),by unfold fC;omega⟩
    ·exact jV _ _ _ _ fun e=>⟨(hm e).1,Kt ((hm e).2.1 _ jE) ((hm e).2.2 _ jE),by unfold fC;omega⟩
   split
   ·rename_i hw;obtain⟨h1,h2,s1⟩:=word _ jC hw;split
    ·have hm:=((Made.nil r.inc cR).pre (np r)).post (jT _ (⟨#[59]⟩:UI));exact jV _ _ _ _ fun e=>⟨(hm e).1,uq jB jH jH jH,by unfold fC;omega⟩
    ·have hm:=((sa h1 (St.kf s1 ht)).pre (np r)).post (jT _ (⟨#[59]⟩:UI));exact jV _ _ _ _ fun e=>⟨(hm e).1,vp jB ((hm e).2 _ jE),by unfold fC;omega⟩
   ·exact OE h ht he _
def T7(h:r.Inv)(ht:k6 r.l):Made r (oT r).1 [(oT r).2] (fun k=>k=18):=(IG _).1 r h ht jB
-- functions
structure rb(f:bh):Prop where
 ps:∀p∈f.params,1<=p.ty/\p.ty<=4
 ret:0<=f.ret/\f.ret<=4
def NL(w:UI):0<=sq w/\sq w<=4:=by
 unfold sq;repeat' split
 all_goals omega
def G8(r:Rd):Still r (iS r).1:=by
 unfold iS;split
 ·exact yl r jC
 ·exact np r
def GJ(he:(iS r).1.e=0):1<=(iS r).2/\(iS r).2<=4:=by
 unfold iS at he ⊢;split
 ·rename_i h;rw[if_pos h]at he;exact(Rd.gK jC he).elim
 ·have:=NL r.word;simp only;omega
theorem FR:∀(n:Nat) (b:Bool) (r:Rd) (L:List bI),Still r (mI n b r L).1/\((mI n b r L).1.e=0->(∀p∈L,1<=p.ty/\p.ty<=4)->∀p∈(mI n b r L).2,1<=p.ty/\p.ty<=4)
 |0,_,r,L=>by unfold mI;exact⟨.refl r,fun _ h=>h⟩
 |n+1,false,r,L=>by unfold mI;exact⟨.refl r,fun _ h=>h⟩
 |n+1,true,r,L=>by
  have st:Still r (pu r):=(v7 r).trans (G8 _);have hL:(pu r).e=0->(∀p∈L,1<=p.ty/\p.ty<=4)->∀p∈L++[⟨r.name.2,(iS r.name.1).2⟩],1<=p.ty/\p.ty<=4:=fun e h p hp=>by
   rcases List.mem_append.1 hp with hp|hp
   ·exact h p hp
   ·rw[List.mem_singleton.1 hp];exact GJ e
  unfold mI;split
  ·obtain⟨a,b⟩:=FR n true (pu r).inc (L++[⟨r.name.2,(iS r.name.1).2⟩]);exact⟨st.trans ((np _).trans a),fun e h=>b e (hL (a.err e) h)⟩
  ·exact⟨st,hL⟩
def RU(h:r.Inv)(ht:k6 r.l):Made r (mX r).1 [(mX r).2.body] (fun k=>k=18)/\((mX r).1.e=0->rb (mX r).2):=by
 have h1:=(qw h).1.inv h;have h2:=(zr h).inv h1;obtain⟨a,b⟩:=FR ((nF r).rem+2) (more (nF r)) (nF r) [];have stA:Still r (nF r):=((jT r (⟨#[102,110]⟩:UI)).trans (v7 _)).trans (jT _ _);have wE:Still r (lQ r):=(stA.trans a).trans (jT _ _);have stD:Still (lQ r) (mA r).1:=by
  unfold mA;split
  ·exact .refl _
  ·exact G8 _
 have hb:=T7 h2 (by rw[(wE.trans stD).l];exact ht);refine⟨hb.pre (wE.trans stD),fun e=>?_⟩;have e2:(mA r).1.e=0:=pP (AY h2) e;have e1:(lQ r).e=0:=stD.err e2;have e0:(tB r).1.e=0:=(jT _ _).err e1;refine⟨b e0 (fun p hp=>by simp at hp),?_⟩;show 0<=(mA r).2/\(mA r).2<=4;unfold mA at e2 ⊢;split
 ·simp
 ·rename_i hc;rw[if_neg hc]at e2;have:=GJ e2;omega
theorem HO:∀(n:Nat) (r0 r:Rd) (L:List bh),r.Inv->k6 r.l->Made r0 r (L.map (·.body)) (fun k=>k=18)->(r.e=0->∀f∈L,rb f)->
  Made r0 (qm n r L).1 ((qm n r L).2.map (·.body)) (fun k=>k=18)/\((qm n r L).1.e=0->∀f∈(qm n r L).2,rb f)
 |0,r0,r,L,h,ht,hm,hf=>by unfold qm;exact⟨hm,hf⟩
 |n+1,r0,r,L,h,ht,hm,hf=>by
  unfold qm;split
  ·have s1:=(Jl h).1;obtain⟨a,b⟩:=RU h ht;refine HO n r0 _ _ (s1.inv h) (St.kf s1 ht) ?_ fun e f Zq=>?_
   ·rw[List.map_append];exact hm.both a (pP s1)
   ·rcases List.mem_append.1 Zq with h'|h'
    ·exact hf (pP s1 e) f h'
    ·rw[List.mem_singleton.1 h'];exact b e
  ·exact⟨hm,hf⟩
structure aR(t:aH):Prop where
 chain:aL t.nodes 0 (t.aw.map (·.body)) t.nodes.length
 shape:∀k,k<t.nodes.length->Shape t.nodes (nth t.nodes k)/\(∀a∈(nth t.nodes k).l,0<=a/\a.toNat<k)/\∃lo,aL t.nodes lo (nth t.nodes k).l k
 body:∀f∈t.aw,bX t.nodes f.body=18
 fn:∀f∈t.aw,rb f/\f.params.length<=3
 many:t.nodes.length<=300
 aw:t.aw.length<=6
variable{s:UI}
def LJ{a:Nat}(h:(oV s a).2.2=0):(oV s a).1.size<=12:=by
 unfold oV at h ⊢;simp only at h ⊢;split at h<;>rename_i h1
 ·rw[if_pos h1];split at h<;>rename_i h2
  ·cases h
  ·rw[if_neg h2];simp only[ByteArray.size_extract];omega
 ·cases h
def PM{a:Nat}(h:(io s a).2.2=0)(hk:(io s a).1.kind=2):(io s a).1.text.size<=12:=by
 unfold io at h hk ⊢;split at h<;>rename_i h1
 ·rw[if_pos h1]at hk ⊢;split at h<;>rename_i h2
  ·rw[if_pos h2]at hk;cases hk
  ·cases h
 rw[if_neg h1]at hk ⊢;split at h<;>rename_i h2
 ·rw[if_pos h2]at hk ⊢;split at h<;>rename_i h3
  ·rw[if_pos h3]at hk;cases hk
  ·rw[if_neg h3]at hk ⊢;split at h<;>rename_i h4
   ·cases h
   ·rw[if_neg h4]at hk;cases hk
 rw[if_neg h2]at hk ⊢;split at h<;>rename_i h3
 ·rw[if_pos h3]at hk ⊢;exact LJ h
 ·rw[if_neg h3]at hk;split at h<;>rename_i h4
  ·cases h
  ·rw[if_neg h4]at hk;cases hk
theorem D2(s:UI):∀(n i:Nat) (out:List cA),(lr s n i out).2.2=0->(∀t∈out,t.kind=2->t.text.size<=12)->∀t∈(lr s n i out).1,t.kind=2->t.text.size<=12
 |0,i,out,he,ho=>by unfold lr;exact ho
 |n+1,i,out,he,ho=>by
  unfold lr at he ⊢;split at he<;>rename_i hi
  ·rw[if_pos hi];split at he<;>rename_i h3
   ·rw[if_pos h3];refine D2 s n _ _ he fun t ht=>?_
    rcases List.mem_append.1 ht with ht|ht
    ·exact ho t ht
    ·rw[List.mem_singleton.1 ht];exact PM h3
   ·exact(h3 he).elim
  ·rw[if_neg hi];intro t ht;rcases List.mem_append.1 ht with ht|ht
   ·exact ho t ht
   ·rw[List.mem_singleton.1 ht];intro h;cases h
def S0(he:(kR s).2.2=0):k6 (ou s).l:=by
 have:∀t∈(kR s).1,t.kind=2->t.text.size<=12:=by
  unfold kR at he ⊢;split at he<;>rename_i h
  ·cases he
  ·rw[if_neg h];exact D2 s _ _ _ he (fun t ht=>by simp at ht)
 intro k hk;exact this _ (ff hk)
def vD(h:(gV s).2.2=0):aR (gV s).1:=by
 unfold gV at h ⊢;split at h<;>rename_i h1
 ·exact(h1 h).elim
 rw[if_neg h1];split at h<;>rename_i h2
 ·exact(h2 h).elim
 rw[if_neg h2];split at h<;>rename_i h3
 ·cases h
 rw[if_neg h3];have he:(kR s).2.2=0:=jB;have hf:(nK s).1.e=0:=jB;obtain⟨a,b⟩:=HO ((ou s).rem+1) (ou s) (ou s) [] (F8 he) (S0 he) (Made.nil _ _) (fun _ f hf=>by simp at hf);obtain⟨a1,a2⟩:=a hf;simp only[uI,Bool.or_eq_true,decide_eq_true_eq,not_or,List.any_eq_true,not_exists,not_and]at h3;refine⟨a1.chain,fun k hk=>a1.shape k (Nat.zero_le _) hk,fun f hf=>a2 _ (List.mem_map.2 ⟨f,hf,rfl⟩),fun f hff=>⟨b hf f hff,by have:=h3.2 f hff;omega⟩,by show(nK s).1.nodes.length<=300;omega,by show(nK s).2.length<=6;omega⟩
structure Ck where
 aa:aH
 types:List Int
 slots:List Int
 aw:List Int
 aO:List Int
 fn:Int
 vars:List bE
 more:List bE
 size:Int
 e:Int
 at_:Int
 deriving Inhabited
def ji{α:Type}(f:α->UI)(name:UI):List α->Int->Int
 |[],_=>-1
 |v::l,i=>if f v=name then i else ji f name l (i+1)
def jy{α:Type}(f:α->UI)(name:UI):List α->Int->Int->Int
 |[],_,k=>k
 |v::l,i,k=>jy f name l (i+1) (if f v=name then i else k)
def lT(sign:UI)(a b:Int):Int:=
 if a≠b then 0
 else if sign=(⟨#[124,124]⟩:UI)\/sign=(⟨#[38,38]⟩:UI)then(if a=2 then 2 else 0)
 else if sign=(⟨#[60]⟩:UI)\/sign=(⟨#[60,61]⟩:UI)then(if a=1 then 2 else 0)
 else if sign=(⟨#[61,61]⟩:UI)\/sign=(⟨#[33,61]⟩:UI)then(if a=1\/a=2\/a=3 then 2 else 0)
 else if sign=(⟨#[43]⟩:UI)then(if a=1\/a=3 then a else 0)
 else(if a=1 then 1 else 0)
namespace Ck
def node(c:Ck)(a:Int):bq:=nth c.aa.nodes a.toNat
def aF(c:Ck)(a:Int)(i:Nat):Int:=nth (c.node a).l i
def aE(c:Ck)(e a:Int):Ck:=if c.e=0 then{ c with e:=e,at_:=a }else c
def ap(c:Ck)(ok:Bool)(a:Int):Ck:=if ok=true then c else c.aE 42 a
def find(c:Ck)(name:UI):Int:=ji bE.name name c.vars 0
def slot(c:Ck)(a s:Int):Ck:={ c with slots:=c.slots.set a.toNat s }
def named(c:Ck)(a:Int):Ck×Int:=
 if c.find (c.node a).name<0 then(c.aE 40 a,0)
 else(c.slot a (nth c.vars (c.find (c.node a).name).toNat).slot,(nth c.vars (c.find (c.node a).name).toNat).ty)
def note(c:Ck)(a t:Int):Ck:={ c with types:=c.types.set a.toNat t,aw:=c.aw.set a.toNat c.fn }
def ai(c:Ck)(a:Int):Ck:={ c with aw:=c.aw.set a.toNat c.fn }
end Ck
def gD(ex:Ck->Int->Ck×Int):Ck->UG->UG->Ck×UG
 |c,[],ts=>(c,ts)
 |c,a::l,ts=>if c.e=0 then gD ex (ex c a).1 l (ts++[(ex c a).2])else(c,ts)
def iG(a:Int):Ck->UG->List bI->Ck
 |c,t::ts,p::ps=>if c.e=0 then iG a (c.ap (decide (t=p.ty)) a) ts ps else c
 |c,_,_=>c
def fL(c:Ck)(a:Int):Int:=jy bh.name (c.node a).name c.aa.aw 0 (-1)
def iX(ex:Ck->Int->Ck×Int)(c:Ck)(a:Int):Ck×Int:=
 if fL c a<0 then(c.aE 40 a,0)
 else
  let f:=nth c.aa.aw (fL c a).toNat
  let p:=gD ex c (c.node a).l []
  let c1:=if(c.node a).l.length≠f.params.length then p.1.aE 43 a else p.1
  (iG a c1 p.2 f.params,f.ret)
def cw(ex:Ck->Int->Ck×Int)(c:Ck)(a:Int):Ck×Int:=
 let k:=(c.node a).kind
 if k=1\/k=19 then(c,1)
 else if k=2 then(c,2)
 else if k=3 then(c,3)
 else if k=4 then c.named a
 else if k=21 then iX ex c a
 else if k=5 then
  let p:=c.named a
  let x:=ex p.1 (c.aF a 0)
  (x.1.ap (decide (p.2=4) && decide (x.2=1)) a,1)
 else if k=9 then
  let x:=ex c (c.aF a 0)
  let y:=ex x.1 (c.aF a 1)
  let t:=lT (c.node a).name x.2 y.2
  (y.1.ap (!decide (t=0)) a,t)
 else
  let x:=ex c (c.aF a 0)
  if k=6 then(x.1.ap (decide (x.2=3) || decide (x.2=4)) a,1)
  else if k=7 then(x.1.ap (decide (x.2=1)) a,1)
  else if k=8 then(x.1.ap (decide (x.2=2)) a,2)
  else(x.1.ap (decide (x.2=1)) a,4)
def az:Nat->Ck->Int->Ck×Int
 |0,c,_=>(c,0)
 |n+1,c,a=>if c.e≠0 then(c,0)else((cw (az n) c a).1.note a (cw (az n) c a).2,(cw (az n) c a).2)
def o3(ex:Ck->Int->Ck×Int)(c:Ck)(a:Int):Ck:=
 let x:=ex c (c.aF a 0)
 let c1:=x.1.ap (!decide (x.2=0)) a
 let c2:=if 0<=c1.find (c.node a).name then c1.aE 41 a else c1
 let c3:=if 24<=c2.size then c2.aE 4 a else c2
 { (c3.slot a c3.size)with vars:=c3.vars++[⟨(c.node a).name,x.2,c3.size⟩],more:=c3.more.drop 1,size:=c3.size+1 }
def kH(ex:Ck->Int->Ck×Int)(c:Ck)(a:Int):Ck:=
 let ret:=(nth c.aa.aw c.fn.toNat).ret
 let l:=(c.node a).l
 if decide (l.length=1)≠(!decide (ret=0))then c.aE 43 a
 else if l.length=1 then
  let x:=ex c (c.aF a 0)
  x.1.ap (decide (x.2=ret)) a
 else c
def dP(st:Ck->Int->Ck):Ck->UG->Ck
 |c,[]=>c
 |c,a::l=>if c.e=0 then dP st (st c a) l else c
def fl(st:Ck->Int->Ck)(c:Ck)(a:Int):Ck:=
 let c1:=dP st (c.ai a) (c.node a).l
 { c1 with vars:=c1.vars.take (min c.vars.length c1.vars.length),more:=c1.vars.drop (min c.vars.length c1.vars.length)++c1.more }
def bT:Nat->Ck->Int->Ck
 |0,c,_=>c
 |n+1,c0,a=>
  let c:=c0.ai a
  let k:=(c.node a).kind
  if k=10 then o3 (az n) c a
  else if k=11 then
   let p:=c.named a
   let x:=az n p.1 (c.aF a 0)
   x.1.ap (decide (p.2=x.2)) a
  else if k=12 then
   let p:=c.named a
   let x:=az n p.1 (c.aF a 0)
   let y:=az n x.1 (c.aF a 1)
   y.1.ap (decide (p.2=4) && decide (x.2=1) && decide (y.2=1)) a
  else if k=13 then(az n c (c.aF a 0)).1
  else if k=14 then
   let x:=az n c (c.aF a 0)
   x.1.ap (!decide (x.2=4)) a
  else if k=17 then kH (az n) c a
  else
   let x:=az n c (c.aF a 0)
   dP (fl (bT n)) (x.1.ap (decide (x.2=2)) a) ((c.node a).l.drop 1)
def fB(body:Int):Ck->List bI->Int->Ck
 |c,[],_=>c
 |c,p::ps,i=>
  let c1:=if 0<=c.find p.name then c.aE 41 body else c
  fB body { c1 with vars:=c1.vars++[⟨p.name,p.ty,i⟩],more:=c1.more.drop 1,size:=c1.size+1 } ps (i+1)
def gQ(c:Ck)(k:Nat):Ck:=
 let f:=nth c.aa.aw k
 let c1:=fB f.body { c with fn:=k,vars:=[],more:=[],size:=0 } f.params 0
 let c2:=if c1.e=0 then fl (bT c.aa.nodes.length) c1 f.body else c1
 { c2 with aO:=c2.aO++[c2.size],vars:=[],more:=[] }
def kU(x:bh):Ck->List bh->Ck
 |c,[]=>c
 |c,f::l=>kU x (if f.name=x.name then c.aE 41 x.body else c) l
def vj(f:bh):Bool:=decide (f.name=(⟨#[109,97,105,110]⟩:UI)) && decide ((f.params.length:Int)=0) && decide (f.ret=0)
def jX(aw:List bh):Ck->Bool->Nat->Nat->Ck×Bool
 |c,m,_,0=>(c,m)
 |c,m,i,n+1=>jX aw (kU (nth aw i) c (aw.take i)) (m || vj (nth aw i)) (i+1) n
def jd(c:Ck):Ck:=
 let p:=jX c.aa.aw c false 0 c.aa.aw.length
 if p.2=true then p.1 else p.1.aE 44 0
def gz:Ck->Nat->Nat->Ck
 |c,_,0=>c
 |c,i,n+1=>if c.e=0 then gz (gQ c i) (i+1) n else c
def js(t:aH):Ck:=⟨t,t.nodes.map fun _=>0,t.nodes.map fun _=>-1,t.nodes.map fun _=>0,[],0,[],[],0,0,0⟩
def jc(t:aH):Ck:=gz (jd (js t)) 0 t.aw.length
def k9:af:=⟨⟨[],[]⟩,[],[],[],[]⟩
def Ck.prog(c:Ck):af:=⟨c.aa,c.types,c.slots,c.aw,c.aO⟩
def iy(t:aH):af×Int×Int:=if(jc t).e≠0 then(k9,(jc t).at_,(jc t).e)else((jc t).prog,0,0)
def gh(s:UI):af×Int×Int:=
 if(gV s).2.2≠0 then(k9,(gV s).2.1,(gV s).2.2)
 else
  let q:=iy (gV s).1
  if q.2.2=44 then(k9,0,44)
  else if q.2.2≠0 then(k9,(nth (gV s).1.nodes q.2.1.toNat).cV,q.2.2)
  else(q.1,0,0)
def fc(slots:List aj)(k t:Int):aj:=
 if k<0\/(slots.length:Int)<=k then vZ t
 else if lW (nth slots k.toNat)=true/\(nth slots k.toNat).ty=t then nth slots k.toNat else vZ t
end Go.Gd
namespace Go.Proofs.YtijdhbokcdpklaaGreatDoor
open Go Go.Gd Tryz
abbrev rI(n:Int):AV:=.raw (.int .i64 n)
abbrev rU(n:Int):AV:=.raw (.int .u8 n)
abbrev rS(s:UI):AV:=.raw (.string s)
abbrev rB(b:Bool):AV:=.raw (.bool b)
def wX(n:Int):aC prog 92 [rU n] (rB (j7 n)):=by
 refine bQ func92 ntmps92 ?_
 (repeat' (first|refine av fun K hK=>?_|refine au ?_|(refine hK _ _ ?_;clear hK K)|(refine ar ?_ ?_<;>intro hc<;>try exact jz)|refine aq ?_|exact jI|(clear hK K)))
 (refine bW [.tmp 2] ?_ ?_<;>(try simp only[go_sem]))
 rfl
def Aq(n:Int):aC prog 94 [rU n] (rB (wS n)):=by
 refine bQ func94 ntmps94 ?_
 (repeat' (first|refine av fun K hK=>?_|refine au ?_|(refine hK _ _ ?_;clear hK K)|(refine ar ?_ ?_<;>intro hc<;>try exact jz)|refine aq ?_|exact jI|(clear hK K)))
 (refine bW [.tmp 2] ?_ ?_<;>(try simp only[go_sem]))
 rfl
def Tq(s:UI):aC prog 93 [rS s] (rB (xg s)):=by
 refine bQ func93 ntmps93 ?_
 (repeat' (first|refine av fun K hK=>?_|refine au ?_|(refine hK _ _ ?_;clear hK K)|(refine ar ?_ ?_<;>intro hc<;>try exact jz)|refine aq ?_|exact jI|(clear hK K)))
 (refine bW [.tmp 2] ?_ ?_<;>(try simp only[go_sem]))
 rfl
def Kl(s:UI)(at_:Int)(hs:s.size<=1000000):aC prog 98 [rS s,rI at_] (rI (pj s (min s.size at_.toNat))):=by
 refine bQ func98 ntmps98 ?_
 (repeat' (first|refine av fun K hK=>?_|refine au ?_|(refine hK _ _ ?_;clear hK K)|(refine ar ?_ ?_<;>intro hc<;>try exact jz)|refine aq ?_|exact jI|(clear hK K)))
 have Ux:=hK;clear hK;refine eN (S:=Nat) [(5,19)] (fun k=>k<=s.size/\k<=at_.toNat) (fun k=>[(5,rI (pj s k)),(6,rI k)]) (fun _=>⟨[],[]⟩) (fun k=>s.size-k) 0 jB (eR rfl (by simp only[go_sem,lj,Nat.reduceAdd,AV.raw.injEq,Value.int.injEq,Value.slice.injEq,Value.pointer.injEq,AV.rs.injEq,pj];try omega)) ?_;rintro k ⟨U8,Uy⟩ Kr Ut;have hb:=IP s k;refine S ?_
 (repeat' (first|refine av fun K hK=>?_|refine au ?_|(refine hK _ _ ?_;clear hK K)|(refine ar ?_ ?_<;>intro hc<;>try exact jz)|refine Ux _ _ ?_|refine aq ?_|exact jI|(clear hK K)))
 ·refine Ut _ _ (eQ (k+1) jB jJ rfl (by simp only[pj,if_pos hc];exact cH))
 ·refine Ut _ _ (eQ (k+1) jB jJ rfl (by simp only[pj,if_neg hc];exact cH))
 ·(refine bW [.tmp 4] ?_ ?_<;>(try simp only[go_sem]))
  rw[show min s.size at_.toNat=k from jB]
def Ou{s:UI}(h:∀j,j<fY.length->nth fY j≠s):wg s=false:=by unfold wg;rw[List.any_eq_false];intro x hm;obtain⟨j,hj,rfl⟩:=List.getElem_of_mem hm;have:=h j hj;rw[fO hj]at this;simp[this]
def RP{s:UI}{k:Nat}(hk:k<fY.length)(h:nth fY k=s):wg s=true:=by unfold wg;rw[List.any_eq_true];exact⟨fY[k],List.getElem_mem hk,by rw[fO hk]at h;simp[h]⟩
def T6(s:UI):aC prog 95 [rS s] (rB (wg s)):=by
 refine bQ func95 ntmps95 ?_
 (repeat' (first|refine av fun K hK=>?_|refine au ?_|(refine hK _ _ ?_;clear hK K)|(refine ar ?_ ?_<;>intro hc<;>try exact jz)|refine aq ?_|exact jI|(clear hK K)))
 have Ux:=hK;clear hK;refine eN (S:=Nat) [(2,1),(4,1),(6,12)] (fun k=>k<=16/\∀j,j<k->nth fY j≠s) (fun k=>[(3,.sl true 1 (fY.map eS) []),(4,rI k)]) (fun _=>⟨[],[]⟩) (fun k=>16-k) 0 ⟨jB,fun j h=>jB⟩ (eR rfl (by(repeat' (first|exact jI|exact Or.inr rfl|exact Or.inl rfl|refine jA ?_ ?_)))) ?_;rintro k ⟨U8,Uy⟩ Kr Ut;have hl:=PK;refine S ?_
 (repeat' (first|refine av fun K hK=>?_|refine au ?_|(refine hK _ _ ?_;clear hK K)|(refine ar ?_ ?_<;>intro hc<;>try exact jz)|refine Ux _ _ ?_|refine aq ?_|exact jI|(clear hK K)))
 ·(refine bW [.tmp 2] ?_ ?_<;>(try simp only[go_sem]))
  rw[RP jB hc]
 ·refine Ut _ _ (eQ (k+1) ⟨jB,fun j hj=>?_⟩ jJ rfl cH);by_cases e:j=k
  ·subst e;exact hc
  ·exact Uy j jB
 ·(refine bW [.tmp 2] ?_ ?_<;>(try simp only[go_sem]))
  rw[Ou fun j hj=>Uy j jB]
def JX(s:UI)(i:Nat)(hs:s.size<=1000000)(hi:i<=s.size):aC prog 65 [rS s,rI i] (rI (od s i:Nat)):=by
 refine bQ func65 ntmps65 ?_
 (repeat' (first|refine av fun K hK=>?_|refine au ?_|(refine hK _ _ ?_;clear hK K)|(refine ar ?_ ?_<;>intro hc<;>try exact jz)|refine aq ?_|exact jI|(clear hK K)))
 have Ux:=hK;clear hK;refine eN (S:=Nat) [(1,1),(4,54)] (fun k=>k<=s.size/\od s k=od s i) (fun k=>[(1,rI k)]) (fun _=>⟨[],[]⟩) (fun k=>s.size-k) i ⟨hi,rfl⟩ (eR rfl cH) ?_;rintro k ⟨U8,Uy⟩ Kr Ut;refine S ?_
 (repeat' (first|refine av fun K hK=>?_|refine au ?_|(refine hK _ _ ?_;clear hK K)|(refine ar ?_ ?_<;>intro hc<;>try exact jz)|refine Ux _ _ ?_|refine aq ?_|exact jI|(clear hK K)))
 ·have P':mc s k=some (k+1):=by
   unfold mc;rw[jP,if_pos];simp[yp];omega
  refine Ut _ _ (eQ (k+1) ⟨jB,by rw[<-Uy,Kf P']⟩ jJ rfl cH)
 ·have P':mc s k=some (iO sj s k):=by
   unfold mc;rw[jP,if_neg (by simp[yp];omega),if_pos];simp[zp];exact⟨⟨hc.1.1,jB⟩,hc.2⟩
  have O':=zt P';have hKi:=hK;clear hK;refine eN (S:=Nat) [(1,1),(45,12)] (fun m=>k<=m/\m<=s.size/\∀j,k<=j->j<m->sj (eO s j)=true) (fun m=>[(1,rI m)]) (fun _=>⟨[],[]⟩) (fun m=>s.size-m) k ⟨jB,jB,fun j h1 h2=>jB⟩ (eR rfl cH) ?_;rintro m ⟨W8,Wv,VQ⟩ Kj hKj;refine S ?_
  (repeat' (first|refine av fun K hK=>?_|refine au ?_|(refine hK _ _ ?_;clear hK K)|(refine ar ?_ ?_<;>intro hc<;>try exact jz)|refine hKi _ _ ?_|refine aq ?_|exact jI|(clear hK K)))
  ·refine hKj _ _ (eQ (m+1) ⟨jB,jB,fun j h1 h2=>?_⟩ jJ rfl cH);by_cases e:j=m
   ·subst e;simp only[sj,decide_eq_true_eq];exact hc.2
   ·exact VQ j h1 jB
  ·have e:iO sj s k=m:=yU (by simp only[sj,decide_eq_true_eq];omega) W8 Wv VQ;rw[e]at P' O';refine Ut _ _ (eQ m ⟨jB,by rw[<-Uy,Kf P']⟩ jJ rfl cH)
 ·(refine bW [.tmp 4] ?_ ?_<;>(try simp only[go_sem]))
  rw[<-Uy,Ek];unfold mc;rw[jP,if_neg (by simp[yp];omega),if_neg];simp[zp];omega
 ·(refine bW [.tmp 4] ?_ ?_<;>(try simp only[go_sem]))
  rw[<-Uy,Ek];unfold mc;rw[jN]
def NK(s:UI)(a:Nat)(hs:s.size<=1000000)(ha:a<s.size):aC prog 96 [rS s,rI a] (.aQ [rS (oV s a).1,rI (oV s a).2.1,rI (oV s a).2.2]):=by
 refine bQ func96 ntmps96 ?_
 (repeat' (first|refine av fun K hK=>?_|refine au ?_|(refine hK _ _ ?_;clear hK K)|(refine ar ?_ ?_<;>intro hc<;>try exact jz)|refine aq ?_|exact jI|(clear hK K)))
 have Ux:=hK;clear hK;refine eN (S:=Nat) [(7,1),(10,24)] (fun m=>a+1<=m/\m<=s.size/\∀j,a+1<=j->j<m->uu (eO s j)=true) (fun m=>[(7,rI m)]) (fun _=>⟨[],[]⟩) (fun m=>s.size-m) (a+1) ⟨jB,jB,fun j h1 h2=>jB⟩ (eR rfl cH) ?_;rintro m ⟨W8,Wv,VQ⟩ Kr Ut;refine S ?_
 (repeat' (first|refine av fun K hK=>?_|refine au ?_|(refine hK _ _ ?_;clear hK K)|(refine ar ?_ ?_<;>intro hc<;>try exact jz)|refine Ux _ _ ?_|refine aq ?_|exact jI|(clear hK K)))
 ·refine Ut _ _ (eQ (m+1) ⟨jB,jB,fun j h1 h2=>?_⟩ jJ rfl cH);by_cases e:j=m
  ·subst e;simp only[uu,Bool.and_eq_true,decide_eq_true_eq];exact⟨⟨hc.1.1.2,hc.1.2⟩,hc.2⟩
  ·exact VQ j h1 jB
 all_goals have e:iO uu s (a+1)=m:=yU (by simp only[uu,Bool.and_eq_true,decide_eq_true_eq];omega) W8 Wv VQ
 ·(refine bW [.tmp 4,.tmp 5,.tmp 6] ?_ ?_<;>(try simp only[go_sem]))
  simp only[oV,e];rw[jN]
 ·(refine bW [.tmp 4,.tmp 5,.tmp 6] ?_ ?_<;>(try simp only[go_sem]))
  simp only[oV,e];rw[jP,jP]
 ·(refine bW [.tmp 4,.tmp 5,.tmp 6] ?_ ?_<;>(try simp only[go_sem]))
  simp only[oV,e];rw[jP,jN]
def NR:jm.length=5:=rfl
def QC(s:UI)(hs:0<s.size)(hs2:s.size<=1000000):aC prog 97 [rS s] (rS (nJ s)):=by
 refine bQ func97 ntmps97 ?_
 (repeat' (first|refine av fun K hK=>?_|refine au ?_|(refine hK _ _ ?_;clear hK K)|(refine ar ?_ ?_<;>intro hc<;>try exact jz)|refine aq ?_|exact jI|(clear hK K)))
 have Ux:=hK;clear hK;refine eN (S:=Nat) [(2,1),(4,1),(8,22)] (fun k=>k<=5/\∀j,j<k->qg s (nth jm j)=false) (fun k=>[(3,.sl true 1 (jm.map eS) []),(4,rI k)]) (fun _=>⟨[],[]⟩) (fun k=>5-k) 0 ⟨jB,fun j h=>jB⟩ (eR rfl (by(repeat' (first|exact jI|exact Or.inr rfl|exact Or.inl rfl|refine jA ?_ ?_)))) ?_;rintro k ⟨U8,Uy⟩ Kr Ut;have hl:=NR;refine S ?_
 (repeat' (first|refine av fun K hK=>?_|refine au ?_|(with_reducible refine gR 5 ?_);refine dE 5 (bf 0 12) mixed ?_|(refine hK _ _ ?_;clear hK K)|(refine ar ?_ ?_<;>intro hc<;>try exact jz)|refine Ux _ _ ?_|refine aq ?_|exact jI|(clear hK K)))
 ·(refine bW [.tmp 2] ?_ ?_<;>(try simp only[go_sem]))
  have:jm.find? (qg s)=some (nth jm k):=zJ Uy jB (by simp only[qg,Bool.and_eq_true,decide_eq_true_eq];exact hc);simp only[nJ,this]
 ·refine Ut _ _ (eQ (k+1) ⟨jB,fun j hj=>?_⟩ jJ rfl cH);by_cases e:j=k
  ·subst e;simp only[qg,Bool.and_eq_false_iff,decide_eq_false_iff_not,Int.not_le];exact hc
  ·exact Uy j jB
 ·have h2:jm.find? (qg s)=none:=CB fun j hj=>Uy j jB
  have Ux:=hK;clear hK;have hos:iC.size=16:=rfl;refine eN (S:=Nat) [(2,1),(6,1),(30,17)] (fun k=>k<=16/\∀j,j<k->decide (eO s 0=eO iC (nth (List.range 16) j:Nat))=false) (fun k=>[(5,rS iC),(6,rI k)]) (fun _=>⟨[],[]⟩) (fun k=>16-k) 0 ⟨jB,fun j h=>jB⟩ (eR rfl (by(repeat' (first|exact jI|exact Or.inr rfl|exact Or.inl rfl|refine jA ?_ ?_)))) ?_;rintro m ⟨W8,Wv⟩ Kj hKj;refine S ?_
  (repeat' (first|refine av fun K hK=>?_|refine au ?_|(with_reducible refine gR 11 ?_);refine dE 11 (bf 0 6) mixed ?_|(refine hK _ _ ?_;clear hK K)|(refine ar ?_ ?_<;>intro hc<;>try exact jz)|refine Ux _ _ ?_|refine aq ?_|exact jI|(clear hK K)))
  ·(refine bW [.tmp 2] ?_ ?_<;>(try simp only[go_sem]))
   have h3:(List.range 16).find? (fun k:Nat=>decide (eO s 0=eO iC (k:Nat)))=some (nth (List.range 16) m):=zJ Wv jF (by rw[C4 jB];simpa using hc);simp only[nJ,h2,h3];rw[C4 jB]
  ·refine hKj _ _ (eQ (m+1) ⟨jB,fun j hj=>?_⟩ jJ rfl cH);by_cases e:j=m
   ·subst e;rw[C4 jB];simpa using hc
   ·exact Wv j jB
  ·(refine bW [.tmp 2] ?_ ?_<;>(try simp only[go_sem]))
   have h3:(List.range 16).find? (fun k:Nat=>decide (eO s 0=eO iC (k:Nat)))=none:=CB fun j hj=>Wv j (by simp at hj;omega)
   simp only[nJ,h2,h3]
def qp(t:cA×Int×Int):AV:=.aQ [.agg (mn t.1),rI t.2.1,rI t.2.2]
def QH(s:UI)(a:Nat)(hs:s.size<=1000000)(ha:a<s.size):aC prog 66 [rS s,rI a] (qp (io s a)):=by
 have hex:(s.extract a s.size).size=s.size-a:=by rw[ByteArray.size_extract];omega
 have Uu:=Th (s.extract a s.size);refine bQ func66 ntmps66 ?_
 (repeat' (first|refine av fun K hK=>?_|refine au ?_|(refine hK _ _ ?_;clear hK K)|(refine ar ?_ ?_<;>intro hc<;>try exact jz)|refine cp (wX _) ?_|refine cp (Aq _) ?_|refine cp (NK s a hs ha) ?_|refine cp (QC _ jB jB) ?_|refine aq ?_|exact jI|(clear hK K)))
 ·have Ux:=hK;clear hK;refine eN (S:=Nat) [(8,1),(20,12)] (fun m=>a<=m/\m<=s.size/\∀j,a<=j->j<m->j7 (eO s j)=true) (fun m=>[(8,rI m)]) (fun _=>⟨[],[(0,.var 133 (mn vX))]⟩) (fun m=>s.size-m) a ⟨jB,jB,fun j h1 h2=>jB⟩ (eR rfl cH) ?_;rintro m ⟨W8,Wv,VQ⟩ Kr Ut;refine S ?_
  (repeat' (first|refine av fun K hK=>?_|refine au ?_|(refine hK _ _ ?_;clear hK K)|(refine ar ?_ ?_<;>intro hc<;>try exact jz)|(first|refine cg (wX _) ?_|refine qb (wX _) ?_)|refine Ux _ _ ?_|refine aq ?_|exact jI|(clear hK K)))
  ·refine Ut _ _ (eQ (m+1) ⟨jB,jB,fun j h1 h2=>?_⟩ jJ rfl cH);by_cases e:j=m
   ·subst e;exact hc.2
   ·exact VQ j h1 jB
  ·have hd:j7 (eO s a)=true:=by assumption
   have e:iO j7 s a=m:=yU (by rintro⟨h1,h2⟩;rcases hc with h|h;omega;rw[h2]at h;cases h) W8 Wv VQ
   (repeat' (first|refine av fun K hK=>?_|refine au ?_|(refine hK _ _ ?_;clear hK K)|(refine ar ?_ ?_<;>intro hc<;>try exact jz)|refine cp (Tq _) ?_|refine aq ?_|exact jI|(clear hK K)))
   ·(refine ba [.cell 4 133,.tmp 5,.tmp 6] ?_;try simp only[go_sem])
    simp only[io,hd,if_true,e,if_neg,hc,Bool.false_eq_true,if_false,qp,vX];rfl
   ·(refine ba [.cell 4 133,.tmp 5,.tmp 6] ?_;try simp only[go_sem])
    simp only[io,hd,if_true,e,hc,qp];rfl
 ·have Ux:=hK;clear hK;have ZS:j7 (eO s a)=false:=by assumption
  have Uq:wS (eO s a)=true:=by assumption
  refine eN (S:=Nat) [(8,1),(49,24)] (fun m=>a<=m/\m<=s.size/\∀j,a<=j->j<m->o6 (eO s j)=true) (fun m=>[(8,rI m)]) (fun _=>⟨[],[(0,.var 133 (mn vX))]⟩) (fun m=>s.size-m) a ⟨jB,jB,fun j h1 h2=>jB⟩ (eR rfl cH) ?_;rintro m ⟨W8,Wv,VQ⟩ Kr Ut;have hexm:(s.extract a m).size=m-a:=by rw[ByteArray.size_extract];omega
  refine S ?_
  (repeat' (first|refine av fun K hK=>?_|refine au ?_|(refine hK _ _ ?_;clear hK K)|(refine ar ?_ ?_<;>intro hc<;>try exact jz)|(first|refine cg (wX _) ?_|refine qb (wX _) ?_)|(first|refine cg (Aq _) ?_|refine qb (Aq _) ?_)|refine cp (T6 _) ?_|refine Ux _ _ ?_|refine aq ?_|exact jI|(clear hK K)))
  ·refine Ut _ _ (eQ (m+1) ⟨jB,jB,fun j h1 h2=>?_⟩ jJ rfl cH);by_cases e:j=m
   ·subst e;simp only[o6,Bool.or_eq_true,decide_eq_true_eq];exact hc.2
   ·exact VQ j h1 jB
  all_goals
   have XG:(s.size:Int)<=m\/(wS (eO s m)=false/\j7 (eO s m)=false)/\¬eO s m=95:=by assumption
   have e:iO o6 s a=m:=yU (by
    simp only[o6,Bool.or_eq_true,decide_eq_true_eq];rintro⟨h1,h2⟩;rcases XG with h|⟨⟨h3,h4⟩,h5⟩
    ·omega
    ·rcases h2 with(h|h)|h
     ·rw[h]at h3;exact Bool.noConfusion h3
     ·rw[h]at h4;exact Bool.noConfusion h4
     ·exact h5 h) W8 Wv VQ
  ·(refine ba [.cell 4 133,.tmp 5,.tmp 6] ?_;try simp only[go_sem])
   simp only[io,ZS,Uq,e,hc,Bool.false_eq_true,if_false,if_true,qp];rfl
  ·(refine ba [.cell 4 133,.tmp 5,.tmp 6] ?_;try simp only[go_sem])
   simp only[io,ZS,Uq,e, *,Bool.false_eq_true,if_false,if_true,qp];rw[jP];rfl
  ·(refine ba [.cell 4 133,.tmp 5,.tmp 6] ?_;try simp only[go_sem])
   simp only[io,ZS,Uq,e, *,Bool.false_eq_true,if_false,if_true,qp];rw[jN];rfl
 ·(refine ba [.cell 4 133,.tmp 5,.tmp 6] ?_;try simp only[go_sem])
  simp only[io, *,Bool.false_eq_true,if_false,if_true,qp];rfl
 ·(refine ba [.cell 4 133,.tmp 5,.tmp 6] ?_;try simp only[go_sem])
  simp only[io, *,Bool.false_eq_true,if_false,if_true,qp];rfl
 ·(refine ba [.cell 4 133,.tmp 5,.tmp 6] ?_;try simp only[go_sem])
  simp only[io, *,Bool.false_eq_true,if_false,qp];rfl
attribute [go_sem] qp
def JA(s:UI)(hs:s.size<=1000000):aC prog 42 [rS s] (.aQ [aP mn 3 (kR s).1,rI (kR s).2.1,rI (kR s).2.2]):=by
 refine bQ func42 ntmps42 ?_
 (repeat' (first|refine av fun K hK=>?_|refine au ?_|(refine hK _ _ ?_;clear hK K)|(refine ar ?_ ?_<;>intro hc<;>try exact jz)|refine cp (JX s 0 hs (Nat.zero_le _)) ?_|refine aq ?_|exact jI|(clear hK K)))
 ·refine fF [.tmp 2,.tmp 3,.tmp 4] ?_;simp only[kR,if_pos hc];refine bt.aQ ?_;exact jL
 ·have Ux:=hK;clear hK;have h0:=uY (s:=s) (i:=0) (Nat.zero_le _);refine eN (S:=Nat×List cA) [(2,8),(16,22)] (fun p=>p.1<=s.size/\p.2.length<=p.1/\vS s p.1 p.2=kR s) (fun p=>[(5,.rs 0 p.2.length 3 p.2.length),(6,rI p.1)]) (fun p=>⟨[],[(0,.aG 133 3 (p.2.map mn))]⟩) (fun p=>s.size-p.1) (od s 0,[]) ⟨h0.2,Nat.zero_le _,by simp only[kR];rw[jN]⟩ (eR rfl cH) ?_;rintro⟨k,ts⟩ ⟨U8,Uy,XL⟩ Kr Ut;simp only at U8 Uy XL
  (refine S ?_;try exact jI)
  by_cases hk:k<s.size
  ·have UT:=zo (s:=s) (a:=k) hk
   (repeat' (first|refine av fun K hK=>?_|refine au ?_|(refine hK _ _ ?_;clear hK K)|(refine ar ?_ ?_<;>intro hc<;>try exact jz)|refine cp (QH s k hs hk) ?_|refine aq ?_|exact jI|(clear hK K)))
   ·refine fF [.tmp 2,.tmp 3,.tmp 4] ?_;rw[<-XL,LV hk (by assumption)];refine bt.aQ ?_;exact jL
   ·obtain⟨e,Xm,Zo,he3⟩:=UT hc;have h4:=uY he3;rw[Xm]
    (repeat' (first|refine av fun K hK=>?_|refine au ?_|(refine hK _ _ ?_;clear hK K)|(refine ar ?_ ?_<;>intro hc<;>try exact jz)|refine cp (JX s e hs he3) ?_|refine aq ?_|exact jI|(clear hK K)))
    refine Ut _ _ (py [1] (od s e,ts++[(io s k).1]) ⟨h4.2,by simp;omega,by rw[<-XL,Sa hk hc,Xm];simp⟩ jJ rfl Sd Sd jL)
  ·(repeat' (first|refine av fun K hK=>?_|refine au ?_|(refine hK _ _ ?_;clear hK K)|(refine ar ?_ ?_<;>intro hc<;>try exact jz)|refine Ux _ _ ?_|refine aq ?_|exact jI|(clear hK K)))
   refine fF [.tmp 2,.tmp 3,.tmp 4] ?_;rw[<-XL,L6 hk];simp only[go_sem];refine bt.aQ ?_;refine jA ?_ (jA (.same _ rfl) (jA (.same _ rfl) trivial));refine cY.row (enc:=mn) (e:=133) (ts++[⟨0,⟨#[]⟩,s.size⟩]) ?_ ?_ ?_
   ·rfl
   ·(refine S ?_;try exact jI)
    rfl
   ·(refine S ?_;try exact jI)
def ix(r:Rd):UE:=[rS r.src,aP mn 3 r.l,rI r.i,.rs 1 r.nodes.length 5 r.nodes.length,rI r.deep,rI r.e,rI r.at_]
def cC(r:Rd):UD:=[(0,.var 94 (ix r)),(1,.aG 66 5 (r.nodes.map eH))]
attribute [go_sem] cC ix
abbrev pR:AV:=.pt 0 0 0 0
structure oR(r:Rd):Prop where
 src:r.src.size<=1000
 pos:0<=r.i
 lt:r.i<r.l.length
 len:r.l.length<=2000
 pd:-1000<=r.deep
 pL:r.deep<=1000
 nodes:r.nodes.length<=100000
def bw{r:Rd}(h:r.Inv):oR r:=by have hp:=h.dO;unfold Rd.dO at hp;have:=h.lt;have:=h.pd;have:=h.pL;exact⟨h.src,h.pos,h.lt,h.len,jB,jB,by split at hp<;>omega⟩
def tU(r:Rd)(e:Int)(h:oR r):ab prog 99 [pR,rI e] (cC r) (fun v l=>v=.aQ []/\l=cC (r.aE e)):=by
 obtain⟨h1,h2,h3,h4,h5,h6,h7⟩:=h;refine aM func99 ntmps99 ?_;simp only[cC,ix]
 (repeat' (first|refine av fun K hK=>?_|refine au ?_|(with_reducible refine gR 2 ?_);refine dE 2 (bf 0 15) mixed ?_|(refine hK _ _ ?_;clear hK K)|(refine ar ?_ ?_<;>intro hc<;>try exact jz)|refine aq ?_|exact jI|(clear hK K)))
 ·(refine bW [] ?_ ?_<;>(try simp only[go_sem]))
  simp only[Rd.aE,if_pos hc];rfl
 ·(refine bW [] ?_ ?_<;>(try simp only[go_sem]))
  simp only[Rd.aE,if_neg hc]
def gC(r:Rd)(t:UI)(h:oR r):ab prog 70 [pR,rS t] (cC r) (fun v l=>v=rB (r.is t)/\l=cC r):=by
 obtain⟨h1,h2,h3,h4,h5,h6,h7⟩:=h;refine aM func70 ntmps70 ?_;simp only[cC,ix]
 (repeat' (first|refine av fun K hK=>?_|refine au ?_|(with_reducible refine gR 1 ?_);refine dE 1 (bf 0 12) mixed ?_|(refine hK _ _ ?_;clear hK K)|(refine ar ?_ ?_<;>intro hc<;>try exact jz)|refine aq ?_|exact jI|(clear hK K)))
 (refine ba [.tmp 4] ?_;try simp only[go_sem])
 rfl
def xN(r:Rd)(k:Int)(h:oR r):ab prog 43 [pR,rI k] (cC r) (fun v l=>v=rB (r.kind k)/\l=cC r):=by
 obtain⟨h1,h2,h3,h4,h5,h6,h7⟩:=h;refine aM func43 ntmps43 ?_;simp only[cC,ix]
 (repeat' (first|refine av fun K hK=>?_|refine au ?_|(with_reducible refine gR 1 ?_);refine dE 1 (bf 0 21) mixed ?_|(refine hK _ _ ?_;clear hK K)|(refine ar ?_ ?_<;>intro hc<;>try exact jz)|refine aq ?_|exact jI|(clear hK K)))
 (refine ba [.tmp 4] ?_;try simp only[go_sem])
 rfl
def iV(r:Rd)(t:UI)(h:oR r):ab prog 68 [pR,rS t] (cC r) (fun v l=>v=.aQ []/\l=cC (r.ap t)):=by
 have XQ:=gC r t h;have hf:=tU r 20 h;obtain⟨h1,h2,h3,h4,h5,h6,h7⟩:=h;simp only[cC,ix]at XQ hf;refine aM func68 ntmps68 ?_;simp only[cC,ix]
 (repeat' (first|refine av fun K hK=>?_|refine au ?_|(refine hK _ _ ?_;clear hK K)|(refine ar ?_ ?_<;>intro hc<;>try exact jz)|refine cm (XQ) ?_|refine cm (hf) ?_|refine aq ?_|exact jI|(clear hK K)))
 ·(refine bW [] ?_ ?_<;>(try simp only[go_sem]))
  simp only[Rd.ap,hc,Bool.false_eq_true,if_false,go_sem]
 ·(refine bW [] ?_ ?_<;>(try simp only[go_sem]))
  simp only[Rd.ap,hc,if_true];rfl
def vo(r:Rd)(h:oR r):ab prog 69 [pR] (cC r) (fun v l=>v=rS r.name.2/\l=cC r.name.1):=by
 have XQ:=xN r 3 h;have hf:=tU r 20 h;obtain⟨h1,h2,h3,h4,h5,h6,h7⟩:=h;simp only[cC,ix]at XQ hf;refine aM func69 ntmps69 ?_;simp only[cC,ix]
 (repeat' (first|refine av fun K hK=>?_|refine au ?_|(with_reducible refine gR 6 ?_);refine dE 6 (bf 0 13) mixed ?_|(refine hK _ _ ?_;clear hK K)|(refine ar ?_ ?_<;>intro hc<;>try exact jz)|refine cm (XQ) ?_|refine cm (hf) ?_|refine aq ?_|exact jI|(clear hK K)))
 ·(refine bW [.tmp 2] ?_ ?_<;>(try simp only[go_sem]))
  ·simp only[Rd.name,hc,Bool.false_eq_true,if_false]
  ·simp only[Rd.name,hc,Bool.false_eq_true,if_false,go_sem]
 ·(refine bW [.tmp 2] ?_ ?_<;>(try simp only[go_sem]))
  ·simp only[Rd.name,hc,if_true];rw[show r.i+1-1=r.i from jB];rfl
  ·simp only[Rd.name,hc,if_true];rfl
def im(r:Rd)(h:oR r):ab prog 67 [pR] (cC r) (fun v l=>v=rI r.cV/\l=cC r):=by
 obtain⟨h1,h2,h3,h4,h5,h6,h7⟩:=h;refine aM func67 ntmps67 ?_;simp only[cC,ix]
 (repeat' (first|refine av fun K hK=>?_|refine au ?_|(with_reducible refine gR 1 ?_);refine dE 1 (bf 0 17) mixed ?_|(refine hK _ _ ?_;clear hK K)|(refine ar ?_ ?_<;>intro hc<;>try exact jz)|refine cp (Kl _ _ jB) ?_|refine aq ?_|exact jI|(clear hK K)))
 (refine bW [.tmp 2] ?_ ?_<;>(try simp only[go_sem]))
 rfl
def xL(r:Rd)(k ln n:Int)(nm:UI)(L:UG)(h:oR r):ab prog 104 [pR,rI k,rI ln,rI n,rS nm,aP eI 1 L] (cC r) (fun v l=>v=rI (r.put k ln n nm L).2/\l=cC (r.put k ln n nm L).1):=by
 obtain⟨h1,h2,h3,h4,h5,h6,h7⟩:=h;refine aM func104 ntmps104 ?_;simp only[cC,ix]
 (repeat' (first|refine av fun K hK=>?_|refine au ?_|(refine hK _ _ ?_;clear hK K)|(refine ar ?_ ?_<;>intro hc<;>try exact jz)|refine aq ?_|exact jI|(clear hK K)))
 (refine bW [.tmp 12] ?_ ?_<;>(try simp only[go_sem]))
 ·simp only[Rd.put];exact R9 jB
 ·simp only[Rd.put,Rd.node,List.map_append,List.length_append,List.length_cons,List.length_nil];rfl
def uz(r:Rd)(h:oR r):ab prog 102 [pR] (cC r) (fun v l=>v=.aQ []/\l=cC r.down):=by
 have hf:=tU r 21 h;obtain⟨h1,h2,h3,h4,h5,h6,h7⟩:=h;simp only[cC,ix]at hf;refine aM func102 ntmps102 ?_;simp only[cC,ix]
 (repeat' (first|refine av fun K hK=>?_|refine au ?_|(refine hK _ _ ?_;clear hK K)|(refine ar ?_ ?_<;>intro hc<;>try exact jz)|refine cm (hf) ?_|refine aq ?_|exact jI|(clear hK K)))
 ·(refine bW [] ?_ ?_<;>(try simp only[go_sem]))
  simp only[Rd.down,if_pos hc,go_sem]
 ·(refine bW [] ?_ ?_<;>(try simp only[go_sem]))
  simp only[Rd.down];rw[jN]
def qZ(r:Rd)(h:oR r):ab prog 100 [pR] (cC r) (fun v l=>v=rS r.word/\l=cC r):=by
 have XQ:=xN r 4 h;obtain⟨h1,h2,h3,h4,h5,h6,h7⟩:=h;simp only[cC,ix]at XQ;refine aM func100 ntmps100 ?_;simp only[cC,ix]
 (repeat' (first|refine av fun K hK=>?_|refine au ?_|(with_reducible refine gR 3 ?_);refine dE 3 (bf 0 12) mixed ?_|(refine hK _ _ ?_;clear hK K)|(refine ar ?_ ?_<;>intro hc<;>try exact jz)|refine cm (XQ) ?_|refine aq ?_|exact jI|(clear hK K)))
 ·(refine bW [.tmp 2] ?_ ?_<;>(try simp only[go_sem]))
  simp only[Rd.word,hc,if_true];rfl
 ·(refine bW [.tmp 2] ?_ ?_<;>(try simp only[go_sem]))
  simp only[Rd.word,hc,Bool.false_eq_true,if_false]
def Rr(r:Rd)(h:oR r)(hn:r.kind 3=true->r.i+1<r.l.length):ab prog 136 [pR] (cC r) (fun v l=>v=rB r.calls/\l=cC r):=by
 have XQ:=xN r 3 h;obtain⟨h1,h2,h3,h4,h5,h6,h7⟩:=h;simp only[cC,ix]at XQ;refine aM func136 ntmps136 ?_;simp only[cC,ix]
 (repeat' (first|refine av fun K hK=>?_|refine au ?_|(with_reducible refine gR 2 ?_);refine dE 2 (bf 0 32) mixed ?_|(refine hK _ _ ?_;clear hK K)|(refine ar ?_ ?_<;>intro hc<;>try exact jz)|refine cm (XQ) ?_|refine aq ?_|exact jI|(clear hK K)))
 refine⟨fun h=>⟨h,jB,hn h⟩,fun h=>⟨h,jB,hn (by simp only[Bool.and_eq_true]at h;exact h.1)⟩,?_⟩
 (repeat' (first|refine av fun K hK=>?_|refine au ?_|(refine hK _ _ ?_;clear hK K)|(refine ar ?_ ?_<;>intro hc<;>try exact jz)|refine aq ?_|exact jI|(clear hK K)))
 (refine ba [.tmp 2] ?_;try simp only[go_sem])
 rfl
def K0(lv:Int):aC prog 175 [rI lv] (aP eS 1 (nE lv)):=by
 refine bQ func175 ntmps175 ?_
 (repeat' (first|refine av fun K hK=>?_|refine au ?_|(refine hK _ _ ?_;clear hK K)|(refine ar ?_ ?_<;>intro hc<;>try exact jz)|refine aq ?_|exact jI|(clear hK K)))
 all_goals refine fF [.tmp 2] ?_
 all_goals simp only[nE, *,if_true,if_false,Int.reduceEq,if_pos,if_neg,not_false_eq_true]
 all_goals exact .lit _ _ _ _ _
def Pr(lv:Int):(nE lv).length<=4/\∀s∈nE lv,s≠⟨#[]⟩:=by
 unfold nE;split
 ·decide
 ·split
  ·decide
  ·split
   ·decide
   ·split<;>decide
def J1(r:Rd)(lv:Int)(h:oR r):ab prog 163 [pR,rI lv] (cC r) (fun v l=>v=rS (r.next lv)/\l=cC r):=by
 have XQ:=fun t=>gC r t h
 have hl:=Pr lv;obtain⟨h1,h2,h3,h4,h5,h6,h7⟩:=h;simp only[cC,ix]at XQ;refine aM func163 ntmps163 ?_;simp only[cC,ix]
 (repeat' (first|refine av fun K hK=>?_|refine au ?_|(refine hK _ _ ?_;clear hK K)|(refine ar ?_ ?_<;>intro hc<;>try exact jz)|refine cp (K0 lv) ?_|refine aq ?_|exact jI|(clear hK K)))
 have Ux:=hK;clear hK;refine eN (S:=Nat) [(4,1),(6,2),(10,17)] (fun k=>k<=(nE lv).length/\∀j,j<k->r.is (nth (nE lv) j)=false) (fun k=>[(6,rI k)]) (fun _=>⟨[0,1],cC r⟩) (fun k=>(nE lv).length-k) 0 ⟨jB,fun j h=>jB⟩ (eR rfl cH) ?_;rintro k ⟨U8,Uy⟩ Kr Ut;simp only[cC,ix];refine S ?_
 (repeat' (first|refine av fun K hK=>?_|refine au ?_|(refine hK _ _ ?_;clear hK K)|(refine ar ?_ ?_<;>intro hc<;>try exact jz)|refine cm (XQ _) ?_|refine Ux _ _ ?_|refine aq ?_|exact jI|(clear hK K)))
 ·(refine bW [.tmp 4] ?_ ?_<;>(try simp only[go_sem]))
  have:(nE lv).find? (fun s=>r.is s)=some (nth (nE lv) k):=zJ Uy jB hc;simp only[Rd.next,this]
 ·refine Ut _ _ (eQ (k+1) ⟨jB,fun j hj=>?_⟩ jJ rfl cH);by_cases e:j=k
  ·subst e;exact hc
  ·exact Uy j jB
 ·(refine bW [.tmp 4] ?_ ?_<;>(try simp only[go_sem]))
  have:(nE lv).find? (fun s=>r.is s)=none:=CB fun j hj=>Uy j jB
  simp only[Rd.next,this]
def LP{P:UP}{f:FuncId}{args args':UE}{l:UD}{R:AV->List UR->Prop}(hl:pS args args')(h:ab P f args' l R):ab P f args l R:=fun w vs h1 h2=>by
 obtain⟨I',hg⟩:=hl.get;refine h w vs h1 ⟨I'.symm.trans h2.1,fun i a v ha hv=>?_⟩;have hi:i<args.length:=by rw[I'];exact(List.getElem?_eq_some_iff.1 ha).1
 exact hg i args[i] a (List.getElem?_eq_getElem hi) ha w v (h2.2 i _ v (List.getElem?_eq_getElem hi) hv)
def kZ(r:Rd)(k ln n:Int)(nm:UI)(L:UG)(a:AV)(ha:gN a (aP eI 1 L))(h:oR r):ab prog 104 [pR,rI k,rI ln,rI n,rS nm,a] (cC r) (fun v l=>v=rI (r.put k ln n nm L).2/\l=cC (r.put k ln n nm L).1):=
 LP (args':=[pR,rI k,rI ln,rI n,rS nm,aP eI 1 L]) ⟨gN.refl _,gN.refl _,gN.refl _,gN.refl _,gN.refl _,ha,trivial⟩ (xL r k ln n nm L h)
def Cg(n:Nat):Prop:=∀r:Rd,r.Inv->8*r.rem+1<=n->ab prog 174 [pR] (cC r) (fun v l=>v=rI (qk n r).2/\l=cC (qk n r).1)
def zg(n:Nat):Prop:=∀r:Rd,r.Inv->8*r.rem+2<=n->ab prog 162 [pR] (cC r) (fun v l=>v=rI (iF n r).2/\l=cC (iF n r).1)
def zP(n:Nat):Prop:=∀(lv:Nat) (r:Rd),lv<=5->r.Inv->8*r.rem+8-lv<=n->ab prog 138 [pR,rI lv] (cC r) (fun v l=>v=rI (dT n lv r).2/\l=cC (dT n lv r).1)
def MW(n:Nat)(ha:Cg n)(hf:zg n):zg (n+1):=by
 intro r h hn;have sg:∀t,r.is t=true->r.e=0/\r.down.Inv/\r.down.inc.Inv/\r.down.inc.rem+1<=r.rem:=fun t ht=>by
  obtain⟨he,hk⟩:=Rd.aZ ht;obtain⟨h1,h2,h3,h4,_⟩:=Rd.bK h he;have Wn:r.down.tok=r.tok:=by unfold Rd.tok;rw[h3,h4]
  obtain⟨s1,e1⟩:=Rd.br h1 (by rw[Wn];exact hk);have:=s1.inv h1;have hb:=Rd.behind h1 (by rw[Wn];exact hk);refine⟨he,h1,this,?_⟩;unfold Rd.rem;rw[if_pos he];have:r.down.inc.i=r.i+1:=by show r.down.i+1=_;rw[h3]
  have hl:r.down.inc.l=r.l:=h4;rw[this,hl];rw[h3,h4]at hb;split<;>omega
 by_cases hm:r.is (⟨#[45]⟩:UI)=true
 ·obtain⟨he,h1,h2,h3⟩:=sg _ hm;have s2:=(tv n).2.1 _ h2;have h4:=s2.inv h2;have h5:(iF n r.down.inc).1.up.Inv:=(Rd.fz h he ((Rd.br h1 (by obtain⟨_,_,h3,h4,_⟩:=Rd.bK h he;unfold Rd.tok;rw[h3,h4];exact(Rd.aZ hm).2)).1.trans s2)).inv h;have hd1:=h2.pd;have hd2:=h2.pL;have Xc:=h1.lt;have hi2:=h1.len;have hi3:=h1.pos;have hd3:=h4.pd;have hd4:=h4.pL;rw[iF,if_pos hm];refine aM func162 ntmps162 ?_;refine S ?_
  (have W:=hm;repeat' (first|refine av fun K hK=>?_|refine au ?_|(refine hK _ _ ?_;clear hK K)|(refine ar ?_ ?_<;>intro hc<;>try exact jz)|refine cm (im r (bw h)) ?_|refine cm (gC r _ (bw h)) ?_|refine cm (uz r (bw h)) ?_|refine cm (hf r.down.inc h2 jB) ?_|refine cm (kZ (iF n r.down.inc).1.up _ _ _ _ [(iF n r.down.inc).2] _ gN.sl (bw h5)) ?_|refine aq ?_|exact jI|(clear hK K)))
  (refine bW [.tmp 2] ?_ ?_<;>(try simp only[go_sem]))
 ·have hmf:r.is (⟨#[45]⟩:UI)=false:=by simpa using hm
  by_cases hq:r.is (⟨#[33]⟩:UI)=true
  ·obtain⟨he,h1,h2,h3⟩:=sg _ hq;have s2:=(tv n).2.1 _ h2;have h4:=s2.inv h2;have h5:(iF n r.down.inc).1.up.Inv:=(Rd.fz h he ((Rd.br h1 (by obtain⟨_,_,h3,h4,_⟩:=Rd.bK h he;unfold Rd.tok;rw[h3,h4];exact(Rd.aZ hq).2)).1.trans s2)).inv h;have hd1:=h2.pd;have hd2:=h2.pL;have Xc:=h1.lt;have hi2:=h1.len;have hi3:=h1.pos;have hd3:=h4.pd;have hd4:=h4.pL;rw[iF,if_neg hm,if_pos hq];refine aM func162 ntmps162 ?_;refine S ?_
   (have W:=jA hmf hq;repeat' (first|refine av fun K hK=>?_|refine au ?_|(refine hK _ _ ?_;clear hK K)|(refine ar ?_ ?_<;>intro hc<;>try exact jz)|refine cm (im r (bw h)) ?_|refine cm (gC r _ (bw h)) ?_|refine cm (uz r (bw h)) ?_|refine cm (hf r.down.inc h2 jB) ?_|refine cm (kZ (iF n r.down.inc).1.up _ _ _ _ [(iF n r.down.inc).2] _ gN.sl (bw h5)) ?_|refine aq ?_|exact jI|(clear hK K)))
   (refine bW [.tmp 2] ?_ ?_<;>(try simp only[go_sem]))
  ·have hqf:r.is (⟨#[33]⟩:UI)=false:=by simpa using hq
   rw[iF,if_neg hm,if_neg hq];refine aM func162 ntmps162 ?_;refine S ?_
   (have W:=jA hmf hqf;repeat' (first|refine av fun K hK=>?_|refine au ?_|(refine hK _ _ ?_;clear hK K)|(refine ar ?_ ?_<;>intro hc<;>try exact jz)|refine cm (im r (bw h)) ?_|refine cm (gC r _ (bw h)) ?_|refine cm (ha r h jB) ?_|refine aq ?_|exact jI|(clear hK K)))
   (refine bW [.tmp 2] ?_ ?_<;>(try simp only[go_sem]))
def Ni(n:Nat)(hf:zg n)(XG:∀m,m<=n->zP m):zP (n+1):=by
 intro lv r hlv h hn;have Un:∀(m:Nat) (q:Rd),m<=n->lv+1<=5->q.Inv->8*q.rem+7-lv<=m->ab prog 138 [pR,rI ((lv:Int)+1)] (cC q) (fun v l=>v=rI (dT m (lv+1) q).2/\l=cC (dT m (lv+1) q).1):=fun m q hm hl hq hr=>by have:=XG m hm (lv+1) q hl hq jB;rw[show((lv+1:Nat):Int)=(lv:Int)+1 from jB]at this;exact this
 by_cases h5:lv=5
 ·subst h5;rw[dT,if_pos rfl];refine aM func138 ntmps138 ?_;refine S ?_
  (repeat' (first|refine av fun K hK=>?_|refine au ?_|(refine hK _ _ ?_;clear hK K)|(refine ar ?_ ?_<;>intro hc<;>try exact jz)|refine cm (hf r h jB) ?_|refine aq ?_|exact jI|(clear hK K)))
  (refine bW [.tmp 4] ?_ ?_<;>(try simp only[go_sem]))
 ·rw[dT,if_neg h5];have s1:=(tv n).2.2.1 (lv+1) r h;have h1:=s1.inv h;have WO:=s1.rem;refine aM func138 ntmps138 ?_;refine S ?_
  (repeat' (first|refine av fun K hK=>?_|refine au ?_|(refine hK _ _ ?_;clear hK K)|(refine ar ?_ ?_<;>intro hc<;>try exact jz)|refine cm (im r (bw h)) ?_|refine cm (Un n r jl jB h jB) ?_|refine aq ?_|exact jI|(clear hK K)))
  refine eN (S:=Nat×Rd×Int) [(4,1),(6,3),(19,27)] (fun s=>s.2.1.Inv/\8*s.2.1.rem+7-lv<=s.1/\s.1<=n/\oz s.1 lv r.cV s.2=oz n lv r.cV (dT n (lv+1) r)) (fun s=>[(6,rI s.2.2)]) (fun s=>⟨[0,1],cC s.2.1⟩) (fun s=>s.1) (n,dT n (lv+1) r) ⟨h1,jJ,Nat.le_refl _,rfl⟩ (eR rfl cH) ?_;rintro⟨m,q,x⟩ ⟨hq,W8,Wv,VQ⟩ Kr Ut;simp only at hq W8 Wv VQ;rw[<-VQ];obtain⟨m,rfl⟩:∃k,m=k+1:=⟨m-1,jB⟩;have YS:=hq.lt;have hqp:=hq.pos;have hqn:=hq.len;by_cases hx:q.next lv=⟨#[]⟩
  ·rw[oz,if_pos hx];refine S ?_
   (have W:=hx;repeat' (first|refine av fun K hK=>?_|refine au ?_|(refine hK _ _ ?_;clear hK K)|(refine ar ?_ ?_<;>intro hc<;>try exact jz)|refine cm (J1 q lv (bw hq)) ?_|refine aq ?_|exact jI|(clear hK K)))
   (refine bW [.tmp 4] ?_ ?_<;>(try simp only[go_sem]))
  ·have hk:=Rd.aZ (Rd.lH hx);obtain⟨t1,e1⟩:=Rd.br hq hk.2;have hi:=t1.inv hq;have hri:=Rd.de hq hk;have t2:=(tv m).2.2.1 (lv+1) _ hi;have hj:=t2.inv hi;have hrj:=t2.rem;have t3:=fun L=>Rd.da (t1.trans t2) (by have:=t2.dO;omega) 9 r.cV 0 (q.next lv) L
   rw[oz,if_neg hx];refine S ?_
   (have W:=hx;repeat' (first|refine av fun K hK=>?_|refine au ?_|(refine hK _ _ ?_;clear hK K)|(refine ar ?_ ?_<;>intro hc<;>try exact jz)|refine cm (J1 q lv (bw hq)) ?_|refine cm (Un m q.inc jB jB hi jB) ?_|refine cm (kZ (dT m (lv+1) q.inc).1 _ _ _ _ [x,(dT m (lv+1) q.inc).2] _ gN.sl (bw hj)) ?_|refine aq ?_|exact jI|(clear hK K)))
   ·have h2:lv=2:=jB
    (refine bW [.tmp 4] ?_ ?_<;>(try simp only[go_sem]))
    ·simp only[if_pos h2]
    ·simp only[if_pos h2]
   ·have h2:¬lv=2:=jB;refine Ut _ _ (eQ (m,(dT m (lv+1) q.inc).1.put 9 r.cV 0 (q.next lv) [x,(dT m (lv+1) q.inc).2]) ⟨(t3 _).inv hq,?_,jJ,?_⟩ jJ rfl cH)
    ·have h6:∀L,((dT m (lv+1) q.inc).1.put 9 r.cV 0 (q.next lv) L).1.rem=(dT m (lv+1) q.inc).1.rem:=fun L=>rfl
     simp only[h6];omega
    ·rw[<-VQ,oz,if_neg hx,if_neg h2]
end Go.Proofs.YtijdhbokcdpklaaGreatDoor