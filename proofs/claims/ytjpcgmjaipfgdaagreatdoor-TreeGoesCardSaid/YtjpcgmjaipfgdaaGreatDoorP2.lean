/- Lemmas. No conditions. -/
import Derived.Test.YtjpcgmjaipfgdaaGreatDoorLxT
set_option linter.all false
set_option maxHeartbeats 4000000
set_option maxRecDepth 10000
namespace Go.Gd
open Go
def pJ{α:Type}[Inhabited α]{a b:List α}{i:Nat}(h:i<a.length):nth (a++b) i=nth a i:=by simp[nth,List.getD_eq_getElem?_getD,List.getElem?_append_left h]
def qh{α:Type}[Inhabited α](a:List α)(x:α):nth (a++[x]) a.length=x:=by simp[nth,List.getD_eq_getElem?_getD]
def bX(t:List br)(i:Int):Int:=(nth t i.toNat).kind
def cQ(k:Int):Prop:=1<=k/\k<=9
def fm(k:Int):Prop:=cQ k\/k=19\/k=20\/k=21
def fu(k:Int):Prop:=10<=k/\k<=17
def zb:List TF:=[(⟨#[124,124]⟩:TF),(⟨#[38,38]⟩:TF),(⟨#[60]⟩:TF),(⟨#[60,61]⟩:TF),(⟨#[61,61]⟩:TF),(⟨#[33,61]⟩:TF),(⟨#[43]⟩:TF),(⟨#[45]⟩:TF),(⟨#[42]⟩:TF),(⟨#[47]⟩:TF),(⟨#[37]⟩:TF)]
structure Shape(t:List br)(n:br):Prop where
 any:1<=n.kind/\n.kind<=21
 zero:n.kind=1\/n.kind=2\/n.kind=3\/n.kind=4\/n.kind=19->n.l=[]
 one:n.kind=5\/n.kind=6\/n.kind=7\/n.kind=8\/n.kind=14\/n.kind=20->∃a,n.l=[a]/\cQ (bX t a)
 two:n.kind=9\/n.kind=12->∃a b,n.l=[a,b]/\cQ (bX t a)/\cQ (bX t b)
 right:n.kind=10\/n.kind=11->∃a,n.l=[a]/\fm (bX t a)
 sX:n.kind=13->∃a,n.l=[a]/\bX t a=21
 lC:n.kind=15->∃a b,cQ (bX t a)/\bX t b=18/\(n.l=[a,b]\/∃d,n.l=[a,b,d]/\bX t d=18)
 dX:n.kind=16->∃a b,n.l=[a,b]/\cQ (bX t a)/\bX t b=18
 ret:n.kind=17->n.l=[]\/∃a,n.l=[a]/\cQ (bX t a)
 block:n.kind=18->∀a∈n.l,fu (bX t a)
 call:n.kind=21->∀a∈n.l,cQ (bX t a)
 num:n.kind=1->∃s,qG s/\n.n=pq s
 bool:n.kind=2->n.n=0\/n.n=1
 text:n.kind=3->n.name.size<=12
 sign:n.kind=9->n.name∈zb
inductive aK(t:List br):Nat->List Int->Nat->Prop
 |nil (k:Nat):aK t k [] k
 |cons {lo c hi:Nat} {L:List Int} (hc:c<t.length) (h1:aK t lo (nth t c).l c) (h2:aK t (c+1) L hi):aK t lo ((c:Int)::L) hi
variable{t:List br}{lo hi:Nat}{L:TD}
def aK.le(h:aK t lo L hi):lo<=hi:=by
 induction h with
 |nil=>exact Nat.le_refl _
 |cons _ _ _ i1 i2=>omega
def aK.mem(h:aK t lo L hi):∀a∈L,0<=a/\lo<=a.toNat/\a.toNat<hi/\a.toNat<t.length:=by
 induction h with
 |nil=>intro a ha;simp at ha
 |@cons lo c hi L hc h1 h2 i1 i2=>
  intro a ha;have l1:=h1.le;have l2:=h2.le;rcases List.mem_cons.1 ha with rfl|ha
  ·exact⟨jB,by simpa using l1,by simp;omega,by simpa using hc⟩
  ·have:=i2 a ha;omega
variable{u:List br}
def aK.mono(h:aK t lo L hi):aK (t++u) lo L hi:=by
 induction h with
 |nil k=>exact .nil k
 |cons hc _ _ i1 i2=>exact .cons jF (by rw[pJ hc];exact i1) i2
variable{M:TD}
def aK.append{mid:Nat}(h:aK t lo L mid):aK t mid M hi->aK t lo (L++M) hi:=by
 induction h with
 |nil=>intro k;exact k
 |cons hc h1 _ _ i2=>intro k;exact .cons hc h1 (i2 k)
def aK.one{c:Nat}(hc:c<t.length)(h:aK t lo (nth t c).l c):aK t lo [(c:Int)] (c+1):=.cons hc h (.nil _)
def mG{a:Int}(h:a.toNat<t.length):bX (t++u) a=bX t a:=by unfold bX;rw[pJ h]
def Shape.mono{n:br}(h:Shape t n)(hl:∀a∈n.l,a.toNat<t.length):Shape (t++u) n where
 any:=h.any
 zero:=h.zero
 one:=fun e=>by obtain⟨a,h1,h2⟩:=h.one e;exact⟨a,h1,by rw[mG (hl a (by rw[h1];simp))];exact h2⟩
 two:=fun e=>by obtain⟨a,b,h1,h2,h3⟩:=h.two e;exact⟨a,b,h1,by rw[mG (hl a (by rw[h1];simp))];exact h2,by rw[mG (hl b (by rw[h1];simp))];exact h3⟩
 right:=fun e=>by obtain⟨a,h1,h2⟩:=h.right e;exact⟨a,h1,by rw[mG (hl a (by rw[h1];simp))];exact h2⟩
 sX:=fun e=>by obtain⟨a,h1,h2⟩:=h.sX e;exact⟨a,h1,by rw[mG (hl a (by rw[h1];simp))];exact h2⟩
 lC:=fun e=>by
  obtain⟨a,b,h1,h2,h3⟩:=h.lC e;rcases h3 with h3|⟨d,h3,h4⟩
  ·exact⟨a,b,by rw[mG (hl a (by rw[h3];simp))];exact h1,by rw[mG (hl b (by rw[h3];simp))];exact h2,.inl h3⟩
  ·exact⟨a,b,by rw[mG (hl a (by rw[h3];simp))];exact h1,by rw[mG (hl b (by rw[h3];simp))];exact h2,.inr ⟨d,h3,by rw[mG (hl d (by rw[h3];simp))];exact h4⟩⟩
 dX:=fun e=>by obtain⟨a,b,h1,h2,h3⟩:=h.dX e;exact⟨a,b,h1,by rw[mG (hl a (by rw[h1];simp))];exact h2,by rw[mG (hl b (by rw[h1];simp))];exact h3⟩
 ret:=fun e=>by
  rcases h.ret e with h1|⟨a,h1,h2⟩
  ·exact .inl h1
  ·exact .inr ⟨a,h1,by rw[mG (hl a (by rw[h1];simp))];exact h2⟩
 block:=fun e a ha=>by rw[mG (hl a ha)];exact h.block e a ha
 call:=fun e a ha=>by rw[mG (hl a ha)];exact h.call e a ha
 num:=h.num
 bool:=h.bool
 text:=h.text
 sign:=h.sign
def aK.len(h:aK t lo L hi):L.length+lo<=hi:=by
 induction h with
 |nil=>simp
 |@cons lo c hi L hc h1 h2 i1 i2=> have:=h1.le;simp only[List.length_cons];omega
structure Mk(t t':List br)(L:List Int):Prop where
 pre:∃u,t'=t++u
 chain:aK t' t.length L t'.length
 shape:∀k,t.length<=k->k<t'.length->Shape t' (nth t' k)/\(∀a∈(nth t' k).l,0<=a/\a.toNat<k)/\∃lo,aK t' lo (nth t' k).l k
def Mk.refl(t:List br):Mk t t []:=⟨⟨[],jE⟩,.nil _,fun k h1 h2=>jB⟩
variable{a b:List br}
def Mk.trans{c:List br}(h:Mk a b L)(k:Mk b c M):Mk a c (L++M):=by
 obtain⟨⟨u,rfl⟩,h2,h3⟩:=h;obtain⟨⟨v,rfl⟩,k2,k3⟩:=k;refine⟨⟨u++v,jE⟩,h2.mono.append k2,fun i h4 h5=>?_⟩;by_cases hi:i<(a++u).length
 ·obtain⟨g1,g2,lo,g3⟩:=h3 i h4 hi;rw[pJ hi];exact⟨g1.mono fun x hx=>by have:=g2 x hx;omega,g2,lo,g3.mono⟩
 ·exact k3 i jB h5
def Mk.put(h:Mk a b L)(n:br)(hn:n.l=L)(hs:Shape b n):Mk a (b++[n]) [(b.length:Int)]:=by
 obtain⟨⟨u,rfl⟩,h2,h3⟩:=h;have hm:∀x∈n.l,0<=x/\x.toNat<(a++u).length:=fun x hx=>by rw[hn]at hx;exact⟨(h2.mem x hx).1,(h2.mem x hx).2.2.1⟩
 refine⟨⟨u++[n],jE⟩,?_,fun i h4 h5=>?_⟩
 ·have e:((a++u)++[n]).length=(a++u).length+1:=by simp only[List.length_append,List.length_cons,List.length_nil]
  rw[e];refine aK.one jE ?_;rw[qh,hn];exact h2.mono
 ·by_cases hi:i<(a++u).length
  ·obtain⟨g1,g2,lo,g3⟩:=h3 i h4 hi;rw[pJ hi];exact⟨g1.mono fun x hx=>by have:=g2 x hx;omega,g2,lo,g3.mono⟩
  ·have:i=(a++u).length:=by simp at h5 hi ⊢;omega
   subst this;rw[qh];exact⟨hs.mono fun x hx=>(hm x hx).2,hm,a.length,by rw[hn];exact h2.mono⟩
def Mk.kind{c:List br}(h:Mk a b L)(k:Mk b c M){x:Int}(hx:x∈L):bX c x=bX b x:=by obtain⟨⟨v,rfl⟩,_,_⟩:=k;exact mG (h.chain.mem x hx).2.2.2
def KC(t:List br)(n:br):bX (t++[n]) (t.length:Int)=n.kind:=by unfold bX;rw[Int.toNat_natCast,qh]
def kW(l:List cz):Prop:=∀k,k<l.length->(nth l k).kind=2->(nth l k).text.size<=12
def Made(r r':Rd)(L:TD)(C:Int->Prop):Prop:=r'.e=0->Mk r.nodes r'.nodes L/\∀a∈L,C (bX r'.nodes a)
structure Still(r r':Rd):Prop where
 nodes:r'.nodes=r.nodes
 err:r'.e=0->r.e=0
 l:r'.l=r.l
def Still.refl(r:Rd):Still r r:=⟨rfl,id,rfl⟩
theorem Still.trans{a b c:Rd}(h:Still a b)(k:Still b c):Still a c:=⟨k.nodes.trans h.nodes,fun e=>h.err (k.err e),k.l.trans h.l⟩
def yC(r:Rd){e:Int}(he:e≠0):Still r (r.aC e):=⟨Rd.dH _ _,fun h=>(Rd.gN he h).elim,Rd.gM _ _⟩
def nn(r:Rd):Still r r.inc:=⟨rfl,id,rfl⟩
def yv(r:Rd):Still r r.up:=⟨rfl,id,rfl⟩
def jK(r:Rd)(t:TF):Still r (r.ao t):=by
 unfold Rd.ao;split
 ·exact nn r
 ·exact yC r jC
def vU(r:Rd):Still r r.name.1:=by
 unfold Rd.name;split
 ·exact nn r
 ·exact yC r jC
def zC(r:Rd):Still r r.down:=by
 unfold Rd.down;split
 ·have:=yC r (e:=21) jC;exact⟨this.nodes,this.err,this.l⟩
 ·exact⟨rfl,id,rfl⟩
variable{r a b:Rd}{C:Int->Prop}
def Made.pre(s:Still r a)(h:Made a b L C):Made r b L C:=fun e=>by have:=h e;rwa [s.nodes]at this
def Made.post(h:Made r a L C)(s:Still a b):Made r b L C:=fun e=>by have:=h (s.err e);rwa [s.nodes]
def Made.nil(r:Rd)(C:Int->Prop):Made r r [] C:=fun _=>⟨Mk.refl _,fun a ha=>by simp at ha⟩
def Made.pC{D:Int->Prop}(h:Made r a L C)(hc:∀k,C k->D k):Made r a L D:=fun e=>⟨(h e).1,fun a ha=>hc _ ((h e).2 a ha)⟩
def Made.seq{c:Rd}{D:Int->Prop}(h:Made a b L C)(k:Made b c M D)(he:c.e=0->b.e=0):c.e=0->Mk a.nodes c.nodes (L++M)/\(∀x∈L,C (bX c.nodes x))/\∀x∈M,D (bX c.nodes x):=fun e=>by obtain⟨h1,h2⟩:=h (he e);obtain⟨k1,k2⟩:=k e;exact⟨h1.trans k1,fun x hx=>by rw[h1.kind k1 hx];exact h2 x hx,k2⟩
def Made.both{c:Rd}(h:Made a b L C)(k:Made b c M C)(he:c.e=0->b.e=0):Made a c (L++M) C:=fun e=>by obtain⟨h1,h2,h3⟩:=h.seq k he e;exact⟨h1,fun x hx=>(List.mem_append.1 hx).elim (h2 x) (h3 x)⟩
def j8(k ln n:Int)(nm:TF)(h:a.e=0->Mk r.nodes a.nodes L/\Shape a.nodes ⟨k,ln,n,nm,L⟩/\C k):Made r (a.put k ln n nm L).1 [(a.put k ln n nm L).2] C:=fun e=>by obtain⟨h1,h2,h3⟩:=h e;refine⟨h1.put _ rfl h2,fun x hx=>?_⟩;rw[List.mem_singleton.1 hx];show C (bX (a.nodes++[_]) (a.nodes.length:Int));rw[KC];exact h3
variable{ln n:Int}{nm:TF}
def ud{k:Int}(hk:k=1\/k=2\/k=3\/k=4\/k=17\/k=19)(h1:k=1->∃s,qG s/\n=pq s)(h2:k=2->n=0\/n=1)(h3:k=3->nm.size<=12):Shape t ⟨k,ln,n,nm,[]⟩:=by constructor<;>(try simp only)<;>intros<;>first|(clear h1 h2 h3;omega)|(clear h1 h2 h3;exfalso;omega)|trivial|rfl|(exact .inl rfl)|(exact .inl trivial)|(refine h1 ?_;assumption)|(refine h2 ?_;assumption)|(refine h3 ?_;assumption)|fail
variable{a:Int}
def vp{k:Int}(hk:k=5\/k=6\/k=7\/k=8\/k=14\/k=17\/k=20)(h:cQ (bX t a)):Shape t ⟨k,ln,n,nm,[a]⟩:=by constructor<;>(try simp only)<;>intros<;>first|omega|omega|trivial|(exact⟨a,rfl,h⟩)|(exact .inr ⟨a,rfl,h⟩)
def Ho{k:Int}(hk:k=10\/k=11)(h:fm (bX t a)):Shape t ⟨k,ln,n,nm,[a]⟩:=by constructor<;>(try simp only)<;>intros<;>first|omega|omega|trivial|(exact⟨a,rfl,h⟩)
def KM(h:bX t a=21):Shape t ⟨13,ln,n,nm,[a]⟩:=by constructor<;>(try simp only)<;>intros<;>first|omega|omega|trivial|(exact⟨a,rfl,h⟩)
variable{b:Int}
def Ie{k:Int}(hk:k=12\/k=9/\nm∈zb)(h:cQ (bX t a))(h':cQ (bX t b)):Shape t ⟨k,ln,n,nm,[a,b]⟩:=by constructor<;>(try simp only)<;>intros<;>first|omega|omega|trivial|(exact⟨a,b,rfl,h,h'⟩)|(rcases hk with hk|hk;omega;exact hk.2)|fail
def Mb(h:cQ (bX t a))(h':bX t b=18):Shape t ⟨16,ln,n,nm,[a,b]⟩:=by constructor<;>(try simp only)<;>intros<;>first|omega|omega|trivial|(exact⟨a,b,rfl,h,h'⟩)
def PQ(h:cQ (bX t a))(h':bX t b=18):Shape t ⟨15,ln,n,nm,[a,b]⟩:=by constructor<;>(try simp only)<;>intros<;>first|omega|omega|trivial|(exact⟨a,b,h,h',.inl rfl⟩)
def Mx{d:Int}(h:cQ (bX t a))(h':bX t b=18)(h'':bX t d=18):Shape t ⟨15,ln,n,nm,[a,b,d]⟩:=by constructor<;>(try simp only)<;>intros<;>first|omega|omega|trivial|(exact⟨a,b,h,h',.inr ⟨d,rfl,h''⟩⟩)
def Rq(h:∀a∈L,fu (bX t a)):Shape t ⟨18,ln,n,nm,L⟩:=by constructor<;>(try simp only)<;>intros<;>first|omega|omega|trivial|(refine h _ ?_;assumption)|fail
def RG(h:∀a∈L,cQ (bX t a)):Shape t ⟨21,ln,n,nm,L⟩:=by constructor<;>(try simp only)<;>intros<;>first|omega|omega|trivial|(refine h _ ?_;assumption)|fail
def Jq{lv:Int}(h:r.next lv≠⟨#[]⟩):r.next lv∈zb:=by
 unfold Rd.next at h ⊢;cases e:(mW lv).find? (fun s=>r.is s)with
 |none=>rw[e]at h;exact(h rfl).elim
 |some s=>
  have:=List.mem_of_find?_eq_some e;unfold mW at this;simp only;unfold zb;split at this
  ·simp at this ⊢;simp[this]
  split at this
  ·simp at this ⊢;simp[this]
  split at this
  ·simp at this ⊢;rcases this with h|h|h|h<;>simp[h]
  split at this
  ·simp at this ⊢;rcases this with h|h<;>simp[h]
  ·simp at this ⊢;rcases this with h|h|h<;>simp[h]
def pH{r':Rd}(s:Rd.St r r'):r'.e=0->r.e=0:=fun h=>Classical.byContradiction fun e=>s.err e h
def GS{e:Int}(he:e≠0):Made r (r.aC e) L C:=fun h=>(Rd.gN he h).elim
theorem Fi:∀n,(∀r:Rd,r.Inv->kW r.l->8*r.rem+1<=n->Made r (qs n r).1 [(qs n r).2] cQ)/\(∀r:Rd,r.Inv->kW r.l->8*r.rem+2<=n->Made r (iv n r).1 [(iv n r).2] cQ)/\
  (∀lv (r:Rd),r.Inv->kW r.l->lv<=5->8*r.rem+8<=n+lv->Made r (dL n lv r).1 [(dL n lv r).2] cQ)/\
  (∀lv ln (r:Rd) (p:Rd×Int),p.1.Inv->kW p.1.l->lv<=4->8*p.1.rem+7<=n+lv->Made r p.1 [p.2] cQ->Made r (oa n lv ln p).1 [(oa n lv ln p).2] cQ)
 |0=>⟨fun r h ht hn=>by omega,fun r h ht hn=>by omega,fun lv r h ht h5 hn=>by omega,fun lv ln r p h ht h5 hn hp=>by omega⟩
 |n+1=>by
  obtain⟨ia,lC,ic,il⟩:=Fi n;have ist:=td n;have deeper:∀(r:Rd) (t u:TF),r.Inv->kW r.l->r.e=0->8*r.rem+1<=n+1->(r.is t=true\/8*r.rem+8<=n)->Made r ((dL n 0 (r.down.ao t)).1.ao u).up [(dL n 0 (r.down.ao t)).2] cQ:=fun r t u h ht he hn hx=>by
   have h1:=(Rd.bJ h he).1;have s1:=Rd.aJ h1 t;have hr:8*(r.down.ao t).rem+8<=n+0:=by
    rcases hx with hx|hx
    ·have:=(Rd.gJ h hx).1;omega
    ·have:=s1.rem;have Xj:r.down.rem<=r.rem:=by
      unfold Rd.rem;obtain⟨_,_,h3,h4,_⟩:=Rd.bJ h he;rw[h3,h4,if_pos he];split<;>omega
     omega
   have st:=(zC r).trans (jK r.down t);have:=ic 0 (r.down.ao t) (s1.inv h1) (by rw[st.l];exact ht) jB hr;exact((this.pre st).post (jK _ _)).post (yv _)
  refine⟨fun r h ht hn=>?_,fun r h ht hn=>?_,fun lv r h ht h5 hn=>?_,fun lv ln r p h ht h5 hn hp=>?_⟩
  ·unfold qs;split
   ·rename_i he;exact fun h=>(he h).elim
   rename_i he;have he:r.e=0:=jB;have Vq:r.i.toNat<r.l.length:=by have:=h.lt;have:=h.pos;omega
   split
   ·rename_i hk;exact j8 _ _ _ _ fun _=>⟨Mk.refl _,ud jB (fun _=>⟨_,h.num _ Vq hk,rfl⟩) jH jH,by unfold cQ;omega⟩
   split
   ·rename_i hk;exact j8 _ _ _ _ fun _=>⟨Mk.refl _,ud jB jH jH (fun _=>ht _ Vq hk),by unfold cQ;omega⟩
   split
   ·rename_i hk;have U0:r.e=0/\r.tok.kind≠0:=⟨he,jB⟩;split
    ·have hi:=(Rd.bs h U0.2).1.inv h;have hr:=Rd.dc h U0;have hm:=deeper r.inc (⟨#[91]⟩:TF) (⟨#[93]⟩:TF) hi ht he jB (.inl (by assumption));exact j8 _ _ _ _ fun e=>⟨(hm e).1,vp jB ((hm e).2 _ jE),by unfold cQ;omega⟩
    ·exact j8 _ _ _ _ fun _=>⟨Mk.refl _,ud jB jH jH jH,by unfold cQ;omega⟩
   split
   ·exact j8 _ _ _ _ fun _=>⟨Mk.refl _,ud jB jH (fun _=>.inr rfl) jH,by unfold cQ;omega⟩
   split
   ·exact j8 _ _ _ _ fun _=>⟨Mk.refl _,ud jB jH (fun _=>.inl rfl) jH,by unfold cQ;omega⟩
   split
   ·rename_i hs;have U0:=Rd.aY hs;split
    ·have hi:=(Rd.bs h U0.2).1.inv h;have hr:=Rd.dc h U0;have hm:=deeper r.inc (⟨#[40]⟩:TF) (⟨#[41]⟩:TF) hi ht he jB (.inl (by assumption));exact j8 _ _ _ _ fun e=>⟨(hm e).1,vp jB ((hm e).2 _ jE),by unfold cQ;omega⟩
    ·exact fun e=>(Rd.gN jC e).elim
   split
   ·exact deeper r (⟨#[40]⟩:TF) (⟨#[41]⟩:TF) h ht he hn (.inl (by assumption))
   ·exact GS jC
  ·unfold iv;have sg:∀t,r.is t=true->∀k ln nm,(k=7\/k=8)->Made r (((iv n r.down.inc).1.up).put k ln 0 nm [(iv n r.down.inc).2]).1 [(((iv n r.down.inc).1.up).put k ln 0 nm [(iv n r.down.inc).2]).2] cQ:=fun t WD k ln nm hk=>by
    obtain⟨he,WN⟩:=Rd.aY WD;obtain⟨h1,h2,h3,h4,h5,h6⟩:=Rd.bJ h he;have Vq:r.down.tok=r.tok:=by unfold Rd.tok;rw[h3,h4]
    have s1:=(Rd.bs h1 (by rw[Vq];exact WN)).1;have st:=(zC r).trans (nn r.down);have hr:8*r.down.inc.rem+2<=n:=by
     have hb:=Rd.behind h WN;unfold Rd.rem at hn ⊢;rw[if_pos he]at hn;have e1:r.down.inc.i=r.i+1:=by show r.down.i+1=_;rw[h3]
     have e2:r.down.inc.l=r.l:=h4;rw[e1,e2];have:=h.pos;split<;>omega
    have hm:=((lC r.down.inc (s1.inv h1) (by rw[st.l];exact ht) hr).pre st).post (yv _);exact j8 _ _ _ _ fun e=>⟨(hm e).1,vp jB ((hm e).2 _ jE),by unfold cQ;omega⟩
   split
   ·rename_i WD;exact sg _ WD _ _ _ (.inl rfl)
   split
   ·rename_i WD;exact sg _ WD _ _ _ (.inr rfl)
   ·exact ia r h ht jB
  ·unfold dL;split
   ·exact lC r h ht jB
   ·have s1:=ist.2.2.1 (lv+1) r h;exact il lv _ r _ (s1.inv h) (by rw[s1.l];exact ht) jB (by have:=s1.rem;omega) (ic (lv+1) r h ht jB jB)
  ·unfold oa;split
   ·exact hp
   rename_i XV;have U0:=Rd.aY (Rd.lF XV);have s1:=(Rd.bs h U0.2).1;have hr:=Rd.dc h U0;have s2:=ist.2.2.1 (lv+1) _ (s1.inv h);have hm:=ic (lv+1) p.1.inc (s1.inv h) (by rw[s1.l];exact ht) jB jB;have Yj:=(hp.post (nn _)).seq hm (pH s2);have ZC:Made r ((dL n (lv+1) p.1.inc).1.put 9 ln 0 (p.1.next lv) [p.2,(dL n (lv+1) p.1.inc).2]).1 [((dL n (lv+1) p.1.inc).1.put 9 ln 0 (p.1.next lv) [p.2,(dL n (lv+1) p.1.inc).2]).2] cQ:=
    j8 _ _ _ _ fun e=>⟨(Yj e).1,Ie (.inr ⟨rfl,Jq XV⟩) ((Yj e).2.1 _ jE) ((Yj e).2.2 _ jE),by unfold cQ;omega⟩
   split
   ·exact ZC
   ·have s3:=Rd.cZ (s1.trans s2) (by have:=s2.dI;have:=(Rd.bs h U0.2).2;omega) 9 ln 0 (p.1.next lv) [p.2,(dL n (lv+1) p.1.inc).2];exact il lv ln r _ (s3.inv h) (by rw[s3.l];exact ht) h5 (by have e:((dL n (lv+1) p.1.inc).1.put 9 ln 0 (p.1.next lv) [p.2,(dL n (lv+1) p.1.inc).2]).1.rem=(dL n (lv+1) p.1.inc).1.rem:=rfl;show 8*((dL n (lv+1) p.1.inc).1.put 9 ln 0 (p.1.next lv) [p.2,(dL n (lv+1) p.1.inc).2]).1.rem+7<=_;rw[e];have:=s2.rem;omega) ZC
def qw(h:r.Inv)(ht:kW r.l):Made r (df r).1 [(df r).2] cQ:=(Fi _).2.2.1 0 r h ht jB jB
def St.jV{r':Rd}(s:Rd.St r r')(h:kW r.l):kW r'.l:=by rw[s.l];exact h
theorem Hg:∀(n:Nat) (b:Bool) (r0 r:Rd) (L:TD),r.Inv->kW r.l->Made r0 r L cQ->Made r0 (mX n b r L).1 (mX n b r L).2 cQ
 |0,_,r0,r,L,h,ht,hm=>by unfold mX;exact hm
 |n+1,false,r0,r,L,h,ht,hm=>by unfold mX;exact hm
 |n+1,true,r0,r,L,h,ht,hm=>by
  have s1:=jU h;have h1:=s1.inv h;have m1:=hm.both (qw h ht) (pH s1);unfold mX;split
  ·rename_i hs;have s2:=(Rd.bs h1 (Rd.aY hs).2).1;exact Hg n _ r0 _ _ (s2.inv h1) (St.jV s2 (St.jV s1 ht)) (m1.post (nn _))
  ·exact m1
def D1(h:r.Inv)(ht:kW r.l):Made r (mD r).1 [(mD r).2] (fun k=>k=21):=by have hs:=xO h;have st:=(vU r).trans (jK r.name.1 (⟨#[40]⟩:TF));have hm:Made r (nN r).1 (nN r).2 cQ:=Hg _ _ r _ _ (hs.inv h) (St.jV hs ht) ((Made.nil _ _).pre st);have hm:=hm.post (jK (nN r).1 (⟨#[41]⟩:TF));exact j8 _ _ _ _ fun e=>⟨(hm e).1,RG (hm e).2,rfl⟩
def HT(h:r.Inv)(ht:kW r.l):Made r (lH r).1 [(lH r).2] fm:=by
 unfold lH;split
 ·exact j8 _ _ _ _ fun _=>⟨Mk.refl _,ud jB jH jH jH,by unfold fm;omega⟩
 split
 ·rename_i hs;have s1:=(Rd.bs h (Rd.aY hs).2).1;have s2:=s1.trans (Rd.aJ (s1.inv h) (⟨#[40]⟩:TF));have hm:=((qw (s2.inv h) (St.jV s2 ht)).pre ((nn r).trans (jK _ _))).post (jK _ (⟨#[41]⟩:TF));exact j8 _ _ _ _ fun e=>⟨(hm e).1,vp jB ((hm e).2 _ jE),by unfold fm;omega⟩
 split
 ·exact(D1 h ht).pC fun k hk=>by unfold fm;omega
 ·exact(qw h ht).pC fun k hk=>.inl hk
def RU(h:r.Inv)(ht:kW r.l)(he:r.e=0):Made r (o4 r).1 [(o4 r).2] cQ:=by have h1:=(Rd.bJ h he).1;have s1:=Rd.aJ h1 (⟨#[91]⟩:TF);have st:=(zC r).trans (jK r.down (⟨#[91]⟩:TF));exact(qw (s1.inv h1) (by rw[st.l];exact ht)).pre st
def Lg(h:r.Inv)(ht:kW r.l)(he:r.e=0)(ln:Int):Made r (pB r ln).1 [(pB r ln).2] fu:=by
 unfold pB;split
 ·have hm:=(D1 h ht).post (jK _ (⟨#[59]⟩:TF));exact j8 _ _ _ _ fun e=>⟨(hm e).1,KM ((hm e).2 _ jE),by unfold fu;omega⟩
 have s0:=Rd.dq h;have h0:=s0.inv h;split
 ·rename_i hs;have he0:=(Rd.aY hs).1;have m1:=RU h0 (St.jV s0 ht) he0;obtain⟨t1,t2⟩:=y8 h0 hs;have sB:Rd.St r.name.1 ((o4 r.name.1).1.ao (⟨#[93]⟩:TF)).up:=(AI h0 hs).2;have stl:Still (o4 r.name.1).1 (((o4 r.name.1).1.ao (⟨#[93]⟩:TF)).up.ao (⟨#[61]⟩:TF)):=((jK _ _).trans (yv _)).trans (jK _ _);have m2:Made (((o4 r.name.1).1.ao (⟨#[93]⟩:TF)).up.ao (⟨#[61]⟩:TF)) (vW r.name.1).1 [(vW r.name.1).2] cQ:=qw (t1.inv h0) (St.jV t1 (St.jV s0 ht));have hm:=((m1.post stl).both m2 (pH (jU (t1.inv h0)))).post (jK _ (⟨#[59]⟩:TF));have hm:=hm.pre (vU r);exact j8 _ _ _ _ fun e=>⟨(hm e).1,Ie (.inl rfl) ((hm e).2 _ jE) ((hm e).2 _ jE),by unfold fu;omega⟩
 ·have s1:=s0.trans (Rd.aJ h0 (⟨#[61]⟩:TF));have hm:=((HT (s1.inv h) (St.jV s1 ht)).pre ((vU r).trans (jK _ _))).post (jK _ (⟨#[59]⟩:TF));exact j8 _ _ _ _ fun e=>⟨(hm e).1,Ho (.inr rfl) ((hm e).2 _ jE),by unfold fu;omega⟩
theorem EC:∀n,(∀r:Rd,r.Inv->kW r.l->4*r.rem+1<=n->Made r (gb n r).1 [(gb n r).2] (fun k=>k=18))/\
  (∀(r0 r:Rd) L,r.Inv->kW r.l->4*r.rem+3<=n->Made r0 r L fu->Made r0 (mM n r L).1 (mM n r L).2 fu)/\
  (∀r:Rd,r.Inv->kW r.l->r.e=0->4*r.rem+2<=n->Made r (nP n r).1 [(nP n r).2] fu)
 |0=>⟨fun r h ht hn=>by omega,fun r0 r L h ht hn hm=>by omega,fun r h ht he hn=>by omega⟩
 |n+1=>by
  obtain⟨ib,il,is_⟩:=EC n;have ist:=sk n;refine⟨fun r h ht hn=>?_,fun r0 r L h ht hn hm=>?_,fun r h ht he hn=>?_⟩
  ·unfold gb;split
   ·rename_i hx;have he:=(Rd.aY hx).1;have hd:=(Rd.bJ h he).1;have s1:=Rd.aJ hd (⟨#[123]⟩:TF);have st:=(zC r).trans (jK r.down (⟨#[123]⟩:TF));have hr:=(Rd.gJ h hx).1;have hm:=il r (r.down.ao (⟨#[123]⟩:TF)) [] (s1.inv hd) (by rw[st.l];exact ht) jB ((Made.nil _ _).pre st);have hm:=(hm.post (jK _ (⟨#[125]⟩:TF))).post (yv _);exact j8 _ _ _ _ fun e=>⟨(hm e).1,Rq (hm e).2,rfl⟩
   ·exact GS jC
  ·unfold mM;split
   ·rename_i hc;have Wu:0<n:=jB;obtain⟨s1,s2⟩:=ist.2.2 r h hc.1 Wu;have Ve:=hm.both (is_ r h ht hc.1 jB) (pH s1);exact il r0 _ _ (s1.inv h) (St.jV s1 ht) jB Ve
   ·exact hm
  ·unfold nP;have word:∀w:TF,w≠⟨#[]⟩->r.word=w->r.inc.Inv/\r.inc.rem+1<=r.rem/\Rd.St r r.inc:=fun w h0 hw=>by
    have hk:=Rd.dF (Rd.gG hw h0) jC;exact⟨(Rd.bs h hk.2).1.inv h,Rd.dc h hk,(Rd.bs h hk.2).1⟩
   split
   ·rename_i hw;obtain⟨h1,h2,s1⟩:=word _ jC hw;have s2:=Rd.dq h1;have s3:=s2.trans (Rd.aJ (s2.inv h1) (⟨#[61]⟩:TF));have hm:=((HT (s3.inv h1) (St.jV s3 ht)).pre ((nn r).trans ((vU r.inc).trans (jK _ _)))).post (jK _ (⟨#[59]⟩:TF));exact j8 _ _ _ _ fun e=>⟨(hm e).1,Ho (.inl rfl) ((hm e).2 _ jE),by unfold fu;omega⟩
   split
   ·rename_i hw;obtain⟨h1,h2,s1⟩:=word _ jC hw;have hm:=((qw h1 (St.jV s1 ht)).pre (nn r)).post (jK _ (⟨#[59]⟩:TF));exact j8 _ _ _ _ fun e=>⟨(hm e).1,vp jB ((hm e).2 _ jE),by unfold fu;omega⟩
   split
   ·rename_i hw;obtain⟨h1,h2,s1⟩:=word _ jC hw;have s2:=jU h1;have s3:=ist.1 _ (s2.inv h1);have hm:=((qw h1 (St.jV s1 ht)).pre (nn r)).seq (ib (df r.inc).1 (s2.inv h1) (St.jV s2 (St.jV s1 ht)) (by have:=s2.rem;omega)) (pH s3);exact j8 _ _ _ _ fun e=>⟨(hm e).1,Mb ((hm e).2.1 _ jE) ((hm e).2.2 _ jE),by unfold fu;omega⟩
   split
   ·rename_i hw;obtain⟨h1,h2,s1⟩:=word _ jC hw;have s2:=jU h1;have h3:=s2.inv h1;have s3:=ist.1 _ h3;have h4:=s3.inv h3;have hm:=((qw h1 (St.jV s1 ht)).pre (nn r)).seq (ib (df r.inc).1 h3 (St.jV s2 (St.jV s1 ht)) (by have:=s2.rem;omega)) (pH s3);split
    ·rename_i hx;have hk:=Rd.aY hx;have s5:=(Rd.bs h4 hk.2).1;have hr5:=Rd.dc h4 hk;have h5:=s5.inv h4;have s6:=ist.1 _ h5;have m3:=(ib (gb n (df r.inc).1).1.inc h5 (St.jV s5 (St.jV s3 (St.jV s2 (St.jV s1 ht)))) (by have:=s2.rem;have:=s3.rem;omega)).pre (nn _);have he5:=fun e=>pH s5 (pH s6 e)
     exact j8 _ _ _ _ fun e=>by obtain⟨a1,a2,a3⟩:=hm (he5 e);obtain⟨b1,b2⟩:=m3 e;exact⟨a1.trans b1,Mx (by rw[a1.kind b1 jE];exact a2 _ jE) (by rw[a1.kind b1 jE];exact a3 _ jE) (b2 _ jE),by unfold fu;omega⟩
    ·exact j8 _ _ _ _ fun e=>⟨(hm e).1,PQ ((hm e).2.1 _ jE) ((hm e).2.2 _ jE),by unfold fu;omega⟩
   split
   ·rename_i hw;obtain⟨h1,h2,s1⟩:=word _ jC hw;split
    ·have hm:=((Made.nil r.inc cQ).pre (nn r)).post (jK _ (⟨#[59]⟩:TF));exact j8 _ _ _ _ fun e=>⟨(hm e).1,ud jB jH jH jH,by unfold fu;omega⟩
    ·have hm:=((qw h1 (St.jV s1 ht)).pre (nn r)).post (jK _ (⟨#[59]⟩:TF));exact j8 _ _ _ _ fun e=>⟨(hm e).1,vp jB ((hm e).2 _ jE),by unfold fu;omega⟩
   ·exact Lg h ht he _
def Kq(h:r.Inv)(ht:kW r.l):Made r (oH r).1 [(oH r).2] (fun k=>k=18):=(EC _).1 r h ht jB
-- functions
structure qP(f:bh):Prop where
 ps:∀p∈f.params,1<=p.ty/\p.ty<=4
 ret:0<=f.ret/\f.ret<=4
def Kb(w:TF):0<=sj w/\sj w<=4:=by
 unfold sj;repeat' split
 all_goals omega
def Ep(r:Rd):Still r (iO r).1:=by
 unfold iO;split
 ·exact yC r jC
 ·exact nn r
def Hi(he:(iO r).1.e=0):1<=(iO r).2/\(iO r).2<=4:=by
 unfold iO at he ⊢;split
 ·rename_i h;rw[if_pos h]at he;exact(Rd.gN jC he).elim
 ·have:=Kb r.word;simp only;omega
theorem Fq:∀(n:Nat) (b:Bool) (r:Rd) (L:List bK),Still r (mo n b r L).1/\((mo n b r L).1.e=0->(∀p∈L,1<=p.ty/\p.ty<=4)->∀p∈(mo n b r L).2,1<=p.ty/\p.ty<=4)
 |0,_,r,L=>by unfold mo;exact⟨.refl r,fun _ h=>h⟩
 |n+1,false,r,L=>by unfold mo;exact⟨.refl r,fun _ h=>h⟩
 |n+1,true,r,L=>by
  have st:Still r (pE r):=(vU r).trans (Ep _);have hL:(pE r).e=0->(∀p∈L,1<=p.ty/\p.ty<=4)->∀p∈L++[⟨r.name.2,(iO r.name.1).2⟩],1<=p.ty/\p.ty<=4:=fun e h p hp=>by
   rcases List.mem_append.1 hp with hp|hp
   ·exact h p hp
   ·rw[List.mem_singleton.1 hp];exact Hi e
  unfold mo;split
  ·obtain⟨a,b⟩:=Fq n true (pE r).inc (L++[⟨r.name.2,(iO r.name.1).2⟩]);exact⟨st.trans ((nn _).trans a),fun e h=>b e (hL (a.err e) h)⟩
  ·exact⟨st,hL⟩
def P6(h:r.Inv)(ht:kW r.l):Made r (mI r).1 [(mI r).2.body] (fun k=>k=18)/\((mI r).1.e=0->qP (mI r).2):=by
 have h1:=(qu h).1.inv h;have h2:=(yT h).inv h1;obtain⟨a,b⟩:=Fq ((np r).rem+2) (more (np r)) (np r) [];have stA:Still r (np r):=((jK r (⟨#[102,110]⟩:TF)).trans (vU _)).trans (jK _ _);have wu:Still r (lB r):=(stA.trans a).trans (jK _ _);have stD:Still (lB r) (l8 r).1:=by
  unfold l8;split
  ·exact .refl _
  ·exact Ep _
 have hb:=Kq h2 (by rw[(wu.trans stD).l];exact ht);refine⟨hb.pre (wu.trans stD),fun e=>?_⟩;have e2:(l8 r).1.e=0:=pH (B4 h2) e;have e1:(lB r).e=0:=stD.err e2;have e0:(sd r).1.e=0:=(jK _ _).err e1;refine⟨b e0 (fun p hp=>by simp at hp),?_⟩;show 0<=(l8 r).2/\(l8 r).2<=4;unfold l8 at e2 ⊢;split
 ·simp
 ·rename_i hc;rw[if_neg hc]at e2;have:=Hi e2;omega
theorem HV:∀(n:Nat) (r0 r:Rd) (L:List bh),r.Inv->kW r.l->Made r0 r (L.map (·.body)) (fun k=>k=18)->(r.e=0->∀f∈L,qP f)->
  Made r0 (qt n r L).1 ((qt n r L).2.map (·.body)) (fun k=>k=18)/\((qt n r L).1.e=0->∀f∈(qt n r L).2,qP f)
 |0,r0,r,L,h,ht,hm,hf=>by unfold qt;exact⟨hm,hf⟩
 |n+1,r0,r,L,h,ht,hm,hf=>by
  unfold qt;split
  ·have s1:=(Jj h).1;obtain⟨a,b⟩:=P6 h ht;refine HV n r0 _ _ (s1.inv h) (St.jV s1 ht) ?_ fun e f Yh=>?_
   ·rw[List.map_append];exact hm.both a (pH s1)
   ·rcases List.mem_append.1 Yh with h'|h'
    ·exact hf (pH s1 e) f h'
    ·rw[List.mem_singleton.1 h'];exact b e
  ·exact⟨hm,hf⟩
structure aQ(t:aG):Prop where
 chain:aK t.nodes 0 (t.av.map (·.body)) t.nodes.length
 shape:∀k,k<t.nodes.length->Shape t.nodes (nth t.nodes k)/\(∀a∈(nth t.nodes k).l,0<=a/\a.toNat<k)/\∃lo,aK t.nodes lo (nth t.nodes k).l k
 body:∀f∈t.av,bX t.nodes f.body=18
 fn:∀f∈t.av,qP f/\f.params.length<=3
 many:t.nodes.length<=300
 av:t.av.length<=6
variable{s:TF}
def ME{a:Nat}(h:(ob s a).2.2=0):(ob s a).1.size<=12:=by
 unfold ob at h ⊢;simp only at h ⊢;split at h<;>rename_i h1
 ·rw[if_pos h1];split at h<;>rename_i h2
  ·cases h
  ·rw[if_neg h2];simp only[ByteArray.size_extract];omega
 ·cases h
def Rh{a:Nat}(h:(ie s a).2.2=0)(hk:(ie s a).1.kind=2):(ie s a).1.text.size<=12:=by
 unfold ie at h hk ⊢;split at h<;>rename_i h1
 ·rw[if_pos h1]at hk ⊢;split at h<;>rename_i h2
  ·rw[if_pos h2]at hk;cases hk
  ·cases h
 rw[if_neg h1]at hk ⊢;split at h<;>rename_i h2
 ·rw[if_pos h2]at hk ⊢;split at h<;>rename_i h3
  ·rw[if_pos h3]at hk;cases hk
  ·rw[if_neg h3]at hk ⊢;split at h<;>rename_i h4
   ·cases h
   ·rw[if_neg h4]at hk;cases hk
 rw[if_neg h2]at hk ⊢;split at h<;>rename_i h3
 ·rw[if_pos h3]at hk ⊢;exact ME h
 ·rw[if_neg h3]at hk;split at h<;>rename_i h4
  ·cases h
  ·rw[if_neg h4]at hk;cases hk
theorem FR(s:TF):∀(n i:Nat) (out:List cz),(lp s n i out).2.2=0->(∀t∈out,t.kind=2->t.text.size<=12)->∀t∈(lp s n i out).1,t.kind=2->t.text.size<=12
 |0,i,out,he,ho=>by unfold lp;exact ho
 |n+1,i,out,he,ho=>by
  unfold lp at he ⊢;split at he<;>rename_i hi
  ·rw[if_pos hi];split at he<;>rename_i h3
   ·rw[if_pos h3];refine FR s n _ _ he fun t ht=>?_
    rcases List.mem_append.1 ht with ht|ht
    ·exact ho t ht
    ·rw[List.mem_singleton.1 ht];exact Rh h3
   ·exact(h3 he).elim
  ·rw[if_neg hi];intro t ht;rcases List.mem_append.1 ht with ht|ht
   ·exact ho t ht
   ·rw[List.mem_singleton.1 ht];intro h;cases h
def Rn(he:(kK s).2.2=0):kW (oj s).l:=by
 have:∀t∈(kK s).1,t.kind=2->t.text.size<=12:=by
  unfold kK at he ⊢;split at he<;>rename_i h
  ·cases he
  ·rw[if_neg h];exact FR s _ _ _ he (fun t ht=>by simp at ht)
 intro k hk;exact this _ (fh hk)
def uY(h:(gP s).2.2=0):aQ (gP s).1:=by
 unfold gP at h ⊢;split at h<;>rename_i h1
 ·exact(h1 h).elim
 rw[if_neg h1];split at h<;>rename_i h2
 ·exact(h2 h).elim
 rw[if_neg h2];split at h<;>rename_i h3
 ·cases h
 rw[if_neg h3];have he:(kK s).2.2=0:=jB;have hf:(nL s).1.e=0:=jB;obtain⟨a,b⟩:=HV ((oj s).rem+1) (oj s) (oj s) [] (H7 he) (Rn he) (Made.nil _ _) (fun _ f hf=>by simp at hf);obtain⟨a1,a2⟩:=a hf;simp only[tY,Bool.or_eq_true,decide_eq_true_eq,not_or,List.any_eq_true,not_exists,not_and]at h3;refine⟨a1.chain,fun k hk=>a1.shape k (Nat.zero_le _) hk,fun f hf=>a2 _ (List.mem_map.2 ⟨f,hf,rfl⟩),fun f hff=>⟨b hf f hff,by have:=h3.2 f hff;omega⟩,by show(nL s).1.nodes.length<=300;omega,by show(nL s).2.length<=6;omega⟩
structure Ck where
 aa:aG
 types:List Int
 slots:List Int
 av:List Int
 aO:List Int
 fn:Int
 vars:List bD
 more:List bD
 size:Int
 e:Int
 at_:Int
 deriving Inhabited
def ja{α:Type}(f:α->TF)(name:TF):List α->Int->Int
 |[],_=>-1
 |v::l,i=>if f v=name then i else ja f name l (i+1)
def js{α:Type}(f:α->TF)(name:TF):List α->Int->Int->Int
 |[],_,k=>k
 |v::l,i,k=>js f name l (i+1) (if f v=name then i else k)
def lV(sign:TF)(a b:Int):Int:=
 if a≠b then 0
 else if sign=(⟨#[124,124]⟩:TF)\/sign=(⟨#[38,38]⟩:TF)then(if a=2 then 2 else 0)
 else if sign=(⟨#[60]⟩:TF)\/sign=(⟨#[60,61]⟩:TF)then(if a=1 then 2 else 0)
 else if sign=(⟨#[61,61]⟩:TF)\/sign=(⟨#[33,61]⟩:TF)then(if a=1\/a=2\/a=3 then 2 else 0)
 else if sign=(⟨#[43]⟩:TF)then(if a=1\/a=3 then a else 0)
 else(if a=1 then 1 else 0)
namespace Ck
def node(c:Ck)(a:Int):br:=nth c.aa.nodes a.toNat
def aE(c:Ck)(a:Int)(i:Nat):Int:=nth (c.node a).l i
def aC(c:Ck)(e a:Int):Ck:=if c.e=0 then{ c with e:=e,at_:=a }else c
def ao(c:Ck)(ok:Bool)(a:Int):Ck:=if ok=true then c else c.aC 42 a
def find(c:Ck)(name:TF):Int:=ja bD.name name c.vars 0
def slot(c:Ck)(a s:Int):Ck:={ c with slots:=c.slots.set a.toNat s }
def named(c:Ck)(a:Int):Ck×Int:=
 if c.find (c.node a).name<0 then(c.aC 40 a,0)
 else(c.slot a (nth c.vars (c.find (c.node a).name).toNat).slot,(nth c.vars (c.find (c.node a).name).toNat).ty)
def note(c:Ck)(a t:Int):Ck:={ c with types:=c.types.set a.toNat t,av:=c.av.set a.toNat c.fn }
def ai(c:Ck)(a:Int):Ck:={ c with av:=c.av.set a.toNat c.fn }
end Ck
def gC(ex:Ck->Int->Ck×Int):Ck->TD->TD->Ck×TD
 |c,[],ts=>(c,ts)
 |c,a::l,ts=>if c.e=0 then gC ex (ex c a).1 l (ts++[(ex c a).2])else(c,ts)
def iC(a:Int):Ck->TD->List bK->Ck
 |c,t::ts,p::ps=>if c.e=0 then iC a (c.ao (decide (t=p.ty)) a) ts ps else c
 |c,_,_=>c
def fR(c:Ck)(a:Int):Int:=js bh.name (c.node a).name c.aa.av 0 (-1)
def iX(ex:Ck->Int->Ck×Int)(c:Ck)(a:Int):Ck×Int:=
 if fR c a<0 then(c.aC 40 a,0)
 else
  let f:=nth c.aa.av (fR c a).toNat
  let p:=gC ex c (c.node a).l []
  let c1:=if(c.node a).l.length≠f.params.length then p.1.aC 43 a else p.1
  (iC a c1 p.2 f.params,f.ret)
def cv(ex:Ck->Int->Ck×Int)(c:Ck)(a:Int):Ck×Int:=
 let k:=(c.node a).kind
 if k=1\/k=19 then(c,1)
 else if k=2 then(c,2)
 else if k=3 then(c,3)
 else if k=4 then c.named a
 else if k=21 then iX ex c a
 else if k=5 then
  let p:=c.named a
  let x:=ex p.1 (c.aE a 0)
  (x.1.ao (decide (p.2=4) && decide (x.2=1)) a,1)
 else if k=9 then
  let x:=ex c (c.aE a 0)
  let y:=ex x.1 (c.aE a 1)
  let t:=lV (c.node a).name x.2 y.2
  (y.1.ao (!decide (t=0)) a,t)
 else
  let x:=ex c (c.aE a 0)
  if k=6 then(x.1.ao (decide (x.2=3) || decide (x.2=4)) a,1)
  else if k=7 then(x.1.ao (decide (x.2=1)) a,1)
  else if k=8 then(x.1.ao (decide (x.2=2)) a,2)
  else(x.1.ao (decide (x.2=1)) a,4)
def az:Nat->Ck->Int->Ck×Int
 |0,c,_=>(c,0)
 |n+1,c,a=>if c.e≠0 then(c,0)else((cv (az n) c a).1.note a (cv (az n) c a).2,(cv (az n) c a).2)
def oW(ex:Ck->Int->Ck×Int)(c:Ck)(a:Int):Ck:=
 let x:=ex c (c.aE a 0)
 let c1:=x.1.ao (!decide (x.2=0)) a
 let c2:=if 0<=c1.find (c.node a).name then c1.aC 41 a else c1
 let c3:=if 24<=c2.size then c2.aC 4 a else c2
 { (c3.slot a c3.size)with vars:=c3.vars++[⟨(c.node a).name,x.2,c3.size⟩],more:=c3.more.drop 1,size:=c3.size+1 }
def kH(ex:Ck->Int->Ck×Int)(c:Ck)(a:Int):Ck:=
 let ret:=(nth c.aa.av c.fn.toNat).ret
 let l:=(c.node a).l
 if decide (l.length=1)≠(!decide (ret=0))then c.aC 43 a
 else if l.length=1 then
  let x:=ex c (c.aE a 0)
  x.1.ao (decide (x.2=ret)) a
 else c
def dK(st:Ck->Int->Ck):Ck->TD->Ck
 |c,[]=>c
 |c,a::l=>if c.e=0 then dK st (st c a) l else c
def fi(st:Ck->Int->Ck)(c:Ck)(a:Int):Ck:=
 let c1:=dK st (c.ai a) (c.node a).l
 { c1 with vars:=c1.vars.take (min c.vars.length c1.vars.length),more:=c1.vars.drop (min c.vars.length c1.vars.length)++c1.more }
def bP:Nat->Ck->Int->Ck
 |0,c,_=>c
 |n+1,c0,a=>
  let c:=c0.ai a
  let k:=(c.node a).kind
  if k=10 then oW (az n) c a
  else if k=11 then
   let p:=c.named a
   let x:=az n p.1 (c.aE a 0)
   x.1.ao (decide (p.2=x.2)) a
  else if k=12 then
   let p:=c.named a
   let x:=az n p.1 (c.aE a 0)
   let y:=az n x.1 (c.aE a 1)
   y.1.ao (decide (p.2=4) && decide (x.2=1) && decide (y.2=1)) a
  else if k=13 then(az n c (c.aE a 0)).1
  else if k=14 then
   let x:=az n c (c.aE a 0)
   x.1.ao (!decide (x.2=4)) a
  else if k=17 then kH (az n) c a
  else
   let x:=az n c (c.aE a 0)
   dK (fi (bP n)) (x.1.ao (decide (x.2=2)) a) ((c.node a).l.drop 1)
def fw(body:Int):Ck->List bK->Int->Ck
 |c,[],_=>c
 |c,p::ps,i=>
  let c1:=if 0<=c.find p.name then c.aC 41 body else c
  fw body { c1 with vars:=c1.vars++[⟨p.name,p.ty,i⟩],more:=c1.more.drop 1,size:=c1.size+1 } ps (i+1)
def gH(c:Ck)(k:Nat):Ck:=
 let f:=nth c.aa.av k
 let c1:=fw f.body { c with fn:=k,vars:=[],more:=[],size:=0 } f.params 0
 let c2:=if c1.e=0 then fi (bP c.aa.nodes.length) c1 f.body else c1
 { c2 with aO:=c2.aO++[c2.size],vars:=[],more:=[] }
def kM(x:bh):Ck->List bh->Ck
 |c,[]=>c
 |c,f::l=>kM x (if f.name=x.name then c.aC 41 x.body else c) l
def uR(f:bh):Bool:=decide (f.name=(⟨#[109,97,105,110]⟩:TF)) && decide ((f.params.length:Int)=0) && decide (f.ret=0)
def jZ(av:List bh):Ck->Bool->Nat->Nat->Ck×Bool
 |c,m,_,0=>(c,m)
 |c,m,i,n+1=>jZ av (kM (nth av i) c (av.take i)) (m || uR (nth av i)) (i+1) n
def iW(c:Ck):Ck:=
 let p:=jZ c.aa.av c false 0 c.aa.av.length
 if p.2=true then p.1 else p.1.aC 44 0
def gv:Ck->Nat->Nat->Ck
 |c,_,0=>c
 |c,i,n+1=>if c.e=0 then gv (gH c i) (i+1) n else c
def jw(t:aG):Ck:=⟨t,t.nodes.map fun _=>0,t.nodes.map fun _=>-1,t.nodes.map fun _=>0,[],0,[],[],0,0,0⟩
def iV(t:aG):Ck:=gv (iW (jw t)) 0 t.av.length
def ld:af:=⟨⟨[],[]⟩,[],[],[],[]⟩
def Ck.prog(c:Ck):af:=⟨c.aa,c.types,c.slots,c.av,c.aO⟩
def ir(t:aG):af×Int×Int:=if(iV t).e≠0 then(ld,(iV t).at_,(iV t).e)else((iV t).prog,0,0)
def fY(s:TF):af×Int×Int:=
 if(gP s).2.2≠0 then(ld,(gP s).2.1,(gP s).2.2)
 else
  let q:=ir (gP s).1
  if q.2.2=44 then(ld,0,44)
  else if q.2.2≠0 then(ld,(nth (gP s).1.nodes q.2.1.toNat).cO,q.2.2)
  else(q.1,0,0)
def eR(slots:List aj)(k t:Int):aj:=
 if k<0\/(slots.length:Int)<=k then vZ t
 else if lU (nth slots k.toNat)=true/\(nth slots k.toNat).ty=t then nth slots k.toNat else vZ t
end Go.Gd
namespace Go.Proofs.YtjpcgmjaipfgdaaGreatDoor
open Go Go.Gd Tryz
abbrev rI(n:Int):AV:=.raw (.int .i64 n)
abbrev rU(n:Int):AV:=.raw (.int .u8 n)
abbrev rS(s:TF):AV:=.raw (.string s)
abbrev rB(b:Bool):AV:=.raw (.bool b)
def xD(n:Int):aB prog 184 [rU n] (rB (j4 n)):=by
 refine bM func184 ntmps184 ?_
 (repeat' (first|refine aq fun K hK=>?_|refine au ?_|(refine hK _ _ ?_;clear hK K)|(refine ap ?_ ?_<;>intro hc<;>try exact jz)|refine ar ?_|exact jI|(clear hK K)))
 (refine bW [.tmp 2] ?_ ?_<;>(try simp only[go_sem]))
 rfl
def B7(n:Int):aB prog 186 [rU n] (rB (wM n)):=by
 refine bM func186 ntmps186 ?_
 (repeat' (first|refine aq fun K hK=>?_|refine au ?_|(refine hK _ _ ?_;clear hK K)|(refine ap ?_ ?_<;>intro hc<;>try exact jz)|refine ar ?_|exact jI|(clear hK K)))
 (refine bW [.tmp 2] ?_ ?_<;>(try simp only[go_sem]))
 rfl
def S4(s:TF):aB prog 185 [rS s] (rB (xf s)):=by
 refine bM func185 ntmps185 ?_
 (repeat' (first|refine aq fun K hK=>?_|refine au ?_|(refine hK _ _ ?_;clear hK K)|(refine ap ?_ ?_<;>intro hc<;>try exact jz)|refine ar ?_|exact jI|(clear hK K)))
 (refine bW [.tmp 2] ?_ ?_<;>(try simp only[go_sem]))
 rfl
def SY(s:TF)(at_:Int)(hs:s.size<=1000000):aB prog 190 [rS s,rI at_] (rI (o8 s (min s.size at_.toNat))):=by
 refine bM func190 ntmps190 ?_
 (repeat' (first|refine aq fun K hK=>?_|refine au ?_|(refine hK _ _ ?_;clear hK K)|(refine ap ?_ ?_<;>intro hc<;>try exact jz)|refine ar ?_|exact jI|(clear hK K)))
 have Tk:=hK;clear hK;refine eu (S:=Nat) [(5,19)] (fun k=>k<=s.size/\k<=at_.toNat) (fun k=>[(5,rI (o8 s k)),(6,rI k)]) (fun _=>⟨[],[]⟩) (fun k=>s.size-k) 0 jB (eD rfl (by simp only[go_sem,kU,Nat.reduceAdd,AV.raw.injEq,Value.int.injEq,Value.slice.injEq,Value.pointer.injEq,AV.rs.injEq,o8];try omega)) ?_;rintro k ⟨TQ,Tl⟩ Kr Tg;have hb:=E1 s k;refine S ?_
 (repeat' (first|refine aq fun K hK=>?_|refine au ?_|(refine hK _ _ ?_;clear hK K)|(refine ap ?_ ?_<;>intro hc<;>try exact jz)|refine Tk _ _ ?_|refine ar ?_|exact jI|(clear hK K)))
 ·refine Tg _ _ (eJ (k+1) jB jJ rfl (by simp only[o8,if_pos hc];exact cH))
 ·refine Tg _ _ (eJ (k+1) jB jJ rfl (by simp only[o8,if_neg hc];exact cH))
 ·(refine bW [.tmp 4] ?_ ?_<;>(try simp only[go_sem]))
  rw[show min s.size at_.toNat=k from jB]
def Mi{s:TF}(h:∀j,j<fU.length->nth fU j≠s):vC s=false:=by unfold vC;rw[List.any_eq_false];intro x hm;obtain⟨j,hj,rfl⟩:=List.getElem_of_mem hm;have:=h j hj;rw[fJ hj]at this;simp[this]
def Qg{s:TF}{k:Nat}(hk:k<fU.length)(h:nth fU k=s):vC s=true:=by unfold vC;rw[List.any_eq_true];exact⟨fU[k],List.getElem_mem hk,by rw[fJ hk]at h;simp[h]⟩
def MG(s:TF):aB prog 187 [rS s] (rB (vC s)):=by
 refine bM func187 ntmps187 ?_
 (repeat' (first|refine aq fun K hK=>?_|refine au ?_|(refine hK _ _ ?_;clear hK K)|(refine ap ?_ ?_<;>intro hc<;>try exact jz)|refine ar ?_|exact jI|(clear hK K)))
 have Tk:=hK;clear hK;refine eu (S:=Nat) [(2,1),(4,1),(6,12)] (fun k=>k<=16/\∀j,j<k->nth fU j≠s) (fun k=>[(3,.sl true 1 (fU.map eS) []),(4,rI k)]) (fun _=>⟨[],[]⟩) (fun k=>16-k) 0 ⟨jB,fun j h=>jB⟩ (eD rfl (by(repeat' (first|exact jI|exact Or.inr rfl|exact Or.inl rfl|refine jA ?_ ?_)))) ?_;rintro k ⟨TQ,Tl⟩ Kr Tg;have hl:=LQ;refine S ?_
 (repeat' (first|refine aq fun K hK=>?_|refine au ?_|(refine hK _ _ ?_;clear hK K)|(refine ap ?_ ?_<;>intro hc<;>try exact jz)|refine Tk _ _ ?_|refine ar ?_|exact jI|(clear hK K)))
 ·(refine bW [.tmp 2] ?_ ?_<;>(try simp only[go_sem]))
  rw[Qg jB hc]
 ·refine Tg _ _ (eJ (k+1) ⟨jB,fun j hj=>?_⟩ jJ rfl cH);by_cases e:j=k
  ·subst e;exact hc
  ·exact Tl j jB
 ·(refine bW [.tmp 2] ?_ ?_<;>(try simp only[go_sem]))
  rw[Mi fun j hj=>Tl j jB]
def GW(s:TF)(i:Nat)(hs:s.size<=1000000)(hi:i<=s.size):aB prog 142 [rS s,rI i] (rI (nY s i:Nat)):=by
 refine bM func142 ntmps142 ?_
 (repeat' (first|refine aq fun K hK=>?_|refine au ?_|(refine hK _ _ ?_;clear hK K)|(refine ap ?_ ?_<;>intro hc<;>try exact jz)|refine ar ?_|exact jI|(clear hK K)))
 have Tk:=hK;clear hK;refine eu (S:=Nat) [(1,1),(4,54)] (fun k=>k<=s.size/\nY s k=nY s i) (fun k=>[(1,rI k)]) (fun _=>⟨[],[]⟩) (fun k=>s.size-k) i ⟨hi,rfl⟩ (eD rfl cH) ?_;rintro k ⟨TQ,Tl⟩ Kr Tg;refine S ?_
 (repeat' (first|refine aq fun K hK=>?_|refine au ?_|(refine hK _ _ ?_;clear hK K)|(refine ap ?_ ?_<;>intro hc<;>try exact jz)|refine Tk _ _ ?_|refine ar ?_|exact jI|(clear hK K)))
 ·have P':l9 s k=some (k+1):=by
   unfold l9;rw[jP,if_pos];simp[zQ];omega
  refine Tg _ _ (eJ (k+1) ⟨jB,by rw[<-Tl,Di P']⟩ jJ rfl cH)
 ·have P':l9 s k=some (iK sM s k):=by
   unfold l9;rw[jP,if_neg (by simp[zQ];omega),if_pos];simp[x8];exact⟨⟨hc.1.1,jB⟩,hc.2⟩
  have O':=x9 P';have hKi:=hK;clear hK;refine eu (S:=Nat) [(1,1),(45,12)] (fun m=>k<=m/\m<=s.size/\∀j,k<=j->j<m->sM (eG s j)=true) (fun m=>[(1,rI m)]) (fun _=>⟨[],[]⟩) (fun m=>s.size-m) k ⟨jB,jB,fun j h1 h2=>jB⟩ (eD rfl cH) ?_;rintro m ⟨VM,Ve,UC⟩ Kj Y8;refine S ?_
  (repeat' (first|refine aq fun K hK=>?_|refine au ?_|(refine hK _ _ ?_;clear hK K)|(refine ap ?_ ?_<;>intro hc<;>try exact jz)|refine hKi _ _ ?_|refine ar ?_|exact jI|(clear hK K)))
  ·refine Y8 _ _ (eJ (m+1) ⟨jB,jB,fun j h1 h2=>?_⟩ jJ rfl cH);by_cases e:j=m
   ·subst e;simp only[sM,decide_eq_true_eq];exact hc.2
   ·exact UC j h1 jB
  ·have e:iK sM s k=m:=yV (by simp only[sM,decide_eq_true_eq];omega) VM Ve UC;rw[e]at P' O';refine Tg _ _ (eJ m ⟨jB,by rw[<-Tl,Di P']⟩ jJ rfl cH)
 ·(refine bW [.tmp 4] ?_ ?_<;>(try simp only[go_sem]))
  rw[<-Tl,F5];unfold l9;rw[jP,if_neg (by simp[zQ];omega),if_neg];simp[x8];omega
 ·(refine bW [.tmp 4] ?_ ?_<;>(try simp only[go_sem]))
  rw[<-Tl,F5];unfold l9;rw[jN]
def QB(s:TF)(a:Nat)(hs:s.size<=1000000)(ha:a<s.size):aB prog 188 [rS s,rI a] (.aP [rS (ob s a).1,rI (ob s a).2.1,rI (ob s a).2.2]):=by
 refine bM func188 ntmps188 ?_
 (repeat' (first|refine aq fun K hK=>?_|refine au ?_|(refine hK _ _ ?_;clear hK K)|(refine ap ?_ ?_<;>intro hc<;>try exact jz)|refine ar ?_|exact jI|(clear hK K)))
 have Tk:=hK;clear hK;refine eu (S:=Nat) [(7,1),(10,24)] (fun m=>a+1<=m/\m<=s.size/\∀j,a+1<=j->j<m->tM (eG s j)=true) (fun m=>[(7,rI m)]) (fun _=>⟨[],[]⟩) (fun m=>s.size-m) (a+1) ⟨jB,jB,fun j h1 h2=>jB⟩ (eD rfl cH) ?_;rintro m ⟨VM,Ve,UC⟩ Kr Tg;refine S ?_
 (repeat' (first|refine aq fun K hK=>?_|refine au ?_|(refine hK _ _ ?_;clear hK K)|(refine ap ?_ ?_<;>intro hc<;>try exact jz)|refine Tk _ _ ?_|refine ar ?_|exact jI|(clear hK K)))
 ·refine Tg _ _ (eJ (m+1) ⟨jB,jB,fun j h1 h2=>?_⟩ jJ rfl cH);by_cases e:j=m
  ·subst e;simp only[tM,Bool.and_eq_true,decide_eq_true_eq];exact⟨⟨hc.1.1.2,hc.1.2⟩,hc.2⟩
  ·exact UC j h1 jB
 all_goals have e:iK tM s (a+1)=m:=yV (by simp only[tM,Bool.and_eq_true,decide_eq_true_eq];omega) VM Ve UC
 ·(refine bW [.tmp 4,.tmp 5,.tmp 6] ?_ ?_<;>(try simp only[go_sem]))
  simp only[ob,e];rw[jN]
 ·(refine bW [.tmp 4,.tmp 5,.tmp 6] ?_ ?_<;>(try simp only[go_sem]))
  simp only[ob,e];rw[jP,jP]
 ·(refine bW [.tmp 4,.tmp 5,.tmp 6] ?_ ?_<;>(try simp only[go_sem]))
  simp only[ob,e];rw[jP,jN]
def OI:jg.length=5:=rfl
def N5(s:TF)(hs:0<s.size)(hs2:s.size<=1000000):aB prog 189 [rS s] (rS (nK s)):=by
 refine bM func189 ntmps189 ?_
 (repeat' (first|refine aq fun K hK=>?_|refine au ?_|(refine hK _ _ ?_;clear hK K)|(refine ap ?_ ?_<;>intro hc<;>try exact jz)|refine ar ?_|exact jI|(clear hK K)))
 have Tk:=hK;clear hK;refine eu (S:=Nat) [(2,1),(4,1),(8,22)] (fun k=>k<=5/\∀j,j<k->p7 s (nth jg j)=false) (fun k=>[(3,.sl true 1 (jg.map eS) []),(4,rI k)]) (fun _=>⟨[],[]⟩) (fun k=>5-k) 0 ⟨jB,fun j h=>jB⟩ (eD rfl (by(repeat' (first|exact jI|exact Or.inr rfl|exact Or.inl rfl|refine jA ?_ ?_)))) ?_;rintro k ⟨TQ,Tl⟩ Kr Tg;have hl:=OI;refine S ?_
 (repeat' (first|refine aq fun K hK=>?_|refine au ?_|(with_reducible refine gR 5 ?_);refine dE 5 (bc 0 12) mixed ?_|(refine hK _ _ ?_;clear hK K)|(refine ap ?_ ?_<;>intro hc<;>try exact jz)|refine Tk _ _ ?_|refine ar ?_|exact jI|(clear hK K)))
 ·(refine bW [.tmp 2] ?_ ?_<;>(try simp only[go_sem]))
  have:jg.find? (p7 s)=some (nth jg k):=yo Tl jB (by simp only[p7,Bool.and_eq_true,decide_eq_true_eq];exact hc);simp only[nK,this]
 ·refine Tg _ _ (eJ (k+1) ⟨jB,fun j hj=>?_⟩ jJ rfl cH);by_cases e:j=k
  ·subst e;simp only[p7,Bool.and_eq_false_iff,decide_eq_false_iff_not,Int.not_le];exact hc
  ·exact Tl j jB
 ·have h2:jg.find? (p7 s)=none:=CD fun j hj=>Tl j jB
  have Tk:=hK;clear hK;have hos:iD.size=16:=rfl;refine eu (S:=Nat) [(2,1),(6,1),(30,17)] (fun k=>k<=16/\∀j,j<k->decide (eG s 0=eG iD (nth (List.range 16) j:Nat))=false) (fun k=>[(5,rS iD),(6,rI k)]) (fun _=>⟨[],[]⟩) (fun k=>16-k) 0 ⟨jB,fun j h=>jB⟩ (eD rfl (by(repeat' (first|exact jI|exact Or.inr rfl|exact Or.inl rfl|refine jA ?_ ?_)))) ?_;rintro m ⟨VM,Ve⟩ Kj Y8;refine S ?_
  (repeat' (first|refine aq fun K hK=>?_|refine au ?_|(with_reducible refine gR 11 ?_);refine dE 11 (bc 0 6) mixed ?_|(refine hK _ _ ?_;clear hK K)|(refine ap ?_ ?_<;>intro hc<;>try exact jz)|refine Tk _ _ ?_|refine ar ?_|exact jI|(clear hK K)))
  ·(refine bW [.tmp 2] ?_ ?_<;>(try simp only[go_sem]))
   have h3:(List.range 16).find? (fun k:Nat=>decide (eG s 0=eG iD (k:Nat)))=some (nth (List.range 16) m):=yo Ve jF (by rw[AR jB];simpa using hc);simp only[nK,h2,h3];rw[AR jB]
  ·refine Y8 _ _ (eJ (m+1) ⟨jB,fun j hj=>?_⟩ jJ rfl cH);by_cases e:j=m
   ·subst e;rw[AR jB];simpa using hc
   ·exact Ve j jB
  ·(refine bW [.tmp 2] ?_ ?_<;>(try simp only[go_sem]))
   have h3:(List.range 16).find? (fun k:Nat=>decide (eG s 0=eG iD (k:Nat)))=none:=CD fun j hj=>Ve j (by simp at hj;omega)
   simp only[nK,h2,h3]
def qg(t:cz×Int×Int):AV:=.aP [.agg (mb t.1),rI t.2.1,rI t.2.2]
def PI(s:TF)(a:Nat)(hs:s.size<=1000000)(ha:a<s.size):aB prog 143 [rS s,rI a] (qg (ie s a)):=by
 have hex:(s.extract a s.size).size=s.size-a:=by rw[ByteArray.size_extract];omega
 have Ti:=KF (s.extract a s.size);refine bM func143 ntmps143 ?_
 (repeat' (first|refine aq fun K hK=>?_|refine au ?_|(refine hK _ _ ?_;clear hK K)|(refine ap ?_ ?_<;>intro hc<;>try exact jz)|refine cp (xD _) ?_|refine cp (B7 _) ?_|refine cp (QB s a hs ha) ?_|refine cp (N5 _ jB jB) ?_|refine ar ?_|exact jI|(clear hK K)))
 ·have Tk:=hK;clear hK;refine eu (S:=Nat) [(8,1),(20,12)] (fun m=>a<=m/\m<=s.size/\∀j,a<=j->j<m->j4 (eG s j)=true) (fun m=>[(8,rI m)]) (fun _=>⟨[],[(0,.var 248 (mb uQ))]⟩) (fun m=>s.size-m) a ⟨jB,jB,fun j h1 h2=>jB⟩ (eD rfl cH) ?_;rintro m ⟨VM,Ve,UC⟩ Kr Tg;refine S ?_
  (repeat' (first|refine aq fun K hK=>?_|refine au ?_|(refine hK _ _ ?_;clear hK K)|(refine ap ?_ ?_<;>intro hc<;>try exact jz)|(first|refine cg (xD _) ?_|refine tF (xD _) ?_)|refine Tk _ _ ?_|refine ar ?_|exact jI|(clear hK K)))
  ·refine Tg _ _ (eJ (m+1) ⟨jB,jB,fun j h1 h2=>?_⟩ jJ rfl cH);by_cases e:j=m
   ·subst e;exact hc.2
   ·exact UC j h1 jB
  ·have hd:j4 (eG s a)=true:=by assumption
   have e:iK j4 s a=m:=yV (by rintro⟨h1,h2⟩;rcases hc with h|h;omega;rw[h2]at h;cases h) VM Ve UC
   (repeat' (first|refine aq fun K hK=>?_|refine au ?_|(refine hK _ _ ?_;clear hK K)|(refine ap ?_ ?_<;>intro hc<;>try exact jz)|refine cp (S4 _) ?_|refine ar ?_|exact jI|(clear hK K)))
   ·(refine aZ [.cell 4 248,.tmp 5,.tmp 6] ?_;try simp only[go_sem])
    simp only[ie,hd,if_true,e,if_neg,hc,Bool.false_eq_true,if_false,qg,uQ];rfl
   ·(refine aZ [.cell 4 248,.tmp 5,.tmp 6] ?_;try simp only[go_sem])
    simp only[ie,hd,if_true,e,hc,qg];rfl
 ·have Tk:=hK;clear hK;have YI:j4 (eG s a)=false:=by assumption
  have Ts:wM (eG s a)=true:=by assumption
  refine eu (S:=Nat) [(8,1),(49,24)] (fun m=>a<=m/\m<=s.size/\∀j,a<=j->j<m->oZ (eG s j)=true) (fun m=>[(8,rI m)]) (fun _=>⟨[],[(0,.var 248 (mb uQ))]⟩) (fun m=>s.size-m) a ⟨jB,jB,fun j h1 h2=>jB⟩ (eD rfl cH) ?_;rintro m ⟨VM,Ve,UC⟩ Kr Tg;have hexm:(s.extract a m).size=m-a:=by rw[ByteArray.size_extract];omega
  refine S ?_
  (repeat' (first|refine aq fun K hK=>?_|refine au ?_|(refine hK _ _ ?_;clear hK K)|(refine ap ?_ ?_<;>intro hc<;>try exact jz)|(first|refine cg (xD _) ?_|refine tF (xD _) ?_)|(first|refine cg (B7 _) ?_|refine tF (B7 _) ?_)|refine cp (MG _) ?_|refine Tk _ _ ?_|refine ar ?_|exact jI|(clear hK K)))
  ·refine Tg _ _ (eJ (m+1) ⟨jB,jB,fun j h1 h2=>?_⟩ jJ rfl cH);by_cases e:j=m
   ·subst e;simp only[oZ,Bool.or_eq_true,decide_eq_true_eq];exact hc.2
   ·exact UC j h1 jB
  all_goals
   have V2:(s.size:Int)<=m\/(wM (eG s m)=false/\j4 (eG s m)=false)/\¬eG s m=95:=by assumption
   have e:iK oZ s a=m:=yV (by
    simp only[oZ,Bool.or_eq_true,decide_eq_true_eq];rintro⟨h1,h2⟩;rcases V2 with h|⟨⟨h3,h4⟩,h5⟩
    ·omega
    ·rcases h2 with(h|h)|h
     ·rw[h]at h3;exact Bool.noConfusion h3
     ·rw[h]at h4;exact Bool.noConfusion h4
     ·exact h5 h) VM Ve UC
  ·(refine aZ [.cell 4 248,.tmp 5,.tmp 6] ?_;try simp only[go_sem])
   simp only[ie,YI,Ts,e,hc,Bool.false_eq_true,if_false,if_true,qg];rfl
  ·(refine aZ [.cell 4 248,.tmp 5,.tmp 6] ?_;try simp only[go_sem])
   simp only[ie,YI,Ts,e, *,Bool.false_eq_true,if_false,if_true,qg];rw[jP];rfl
  ·(refine aZ [.cell 4 248,.tmp 5,.tmp 6] ?_;try simp only[go_sem])
   simp only[ie,YI,Ts,e, *,Bool.false_eq_true,if_false,if_true,qg];rw[jN];rfl
 ·(refine aZ [.cell 4 248,.tmp 5,.tmp 6] ?_;try simp only[go_sem])
  simp only[ie, *,Bool.false_eq_true,if_false,if_true,qg];rfl
 ·(refine aZ [.cell 4 248,.tmp 5,.tmp 6] ?_;try simp only[go_sem])
  simp only[ie, *,Bool.false_eq_true,if_false,if_true,qg];rfl
 ·(refine aZ [.cell 4 248,.tmp 5,.tmp 6] ?_;try simp only[go_sem])
  simp only[ie, *,Bool.false_eq_true,if_false,qg];rfl
attribute [go_sem] qg
def D8(s:TF)(hs:s.size<=1000000):aB prog 101 [rS s] (.aP [aM mb 3 (kK s).1,rI (kK s).2.1,rI (kK s).2.2]):=by
 refine bM func101 ntmps101 ?_
 (repeat' (first|refine aq fun K hK=>?_|refine au ?_|(refine hK _ _ ?_;clear hK K)|(refine ap ?_ ?_<;>intro hc<;>try exact jz)|refine cp (GW s 0 hs (Nat.zero_le _)) ?_|refine ar ?_|exact jI|(clear hK K)))
 ·refine fC [.tmp 2,.tmp 3,.tmp 4] ?_;simp only[kK,if_pos hc];refine bt.aP ?_;exact jh
 ·have Tk:=hK;clear hK;have h0:=vh (s:=s) (i:=0) (Nat.zero_le _);refine eu (S:=Nat×List cz) [(2,8),(16,22)] (fun p=>p.1<=s.size/\p.2.length<=p.1/\uH s p.1 p.2=kK s) (fun p=>[(5,.rs 0 p.2.length 3 p.2.length),(6,rI p.1)]) (fun p=>⟨[],[(0,.aF 248 3 (p.2.map mb))]⟩) (fun p=>s.size-p.1) (nY s 0,[]) ⟨h0.2,Nat.zero_le _,by simp only[kK];rw[jN]⟩ (eD rfl cH) ?_;rintro⟨k,ts⟩ ⟨TQ,Tl,Wq⟩ Kr Tg;simp only at TQ Tl Wq
  (refine S ?_;try exact jI)
  by_cases hk:k<s.size
  ·have Tq:=zN (s:=s) (a:=k) hk
   (repeat' (first|refine aq fun K hK=>?_|refine au ?_|(refine hK _ _ ?_;clear hK K)|(refine ap ?_ ?_<;>intro hc<;>try exact jz)|refine cp (PI s k hs hk) ?_|refine ar ?_|exact jI|(clear hK K)))
   ·refine fC [.tmp 2,.tmp 3,.tmp 4] ?_;rw[<-Wq,QJ hk (by assumption)];refine bt.aP ?_;exact jh
   ·obtain⟨e,V3,Yf,he3⟩:=Tq hc;have h4:=vh he3;rw[V3]
    (repeat' (first|refine aq fun K hK=>?_|refine au ?_|(refine hK _ _ ?_;clear hK K)|(refine ap ?_ ?_<;>intro hc<;>try exact jz)|refine cp (GW s e hs he3) ?_|refine ar ?_|exact jI|(clear hK K)))
    refine Tg _ _ (pg [1] (nY s e,ts++[(ie s k).1]) ⟨h4.2,by simp;omega,by rw[<-Wq,N9 hk hc,V3];simp⟩ jJ rfl Sd Sd jh)
  ·(repeat' (first|refine aq fun K hK=>?_|refine au ?_|(refine hK _ _ ?_;clear hK K)|(refine ap ?_ ?_<;>intro hc<;>try exact jz)|refine Tk _ _ ?_|refine ar ?_|exact jI|(clear hK K)))
   refine fC [.tmp 2,.tmp 3,.tmp 4] ?_;rw[<-Wq,RD hk];simp only[go_sem];refine bt.aP ?_;refine jA ?_ (jA (.same _ rfl) (jA (.same _ rfl) trivial));refine cW.row (enc:=mb) (e:=248) (ts++[⟨0,⟨#[]⟩,s.size⟩]) ?_ ?_ ?_
   ·rfl
   ·(refine S ?_;try exact jI)
    rfl
   ·(refine S ?_;try exact jI)
def io(r:Rd):TB:=[rS r.src,aM mb 3 r.l,rI r.i,.rs 1 r.nodes.length 5 r.nodes.length,rI r.deep,rI r.e,rI r.at_]
def cA(r:Rd):TA:=[(0,.var 177 (io r)),(1,.aF 116 5 (r.nodes.map eF))]
attribute [go_sem] cA io
abbrev pR:AV:=.pt 0 0 0 0
structure n7(r:Rd):Prop where
 src:r.src.size<=1000
 pos:0<=r.i
 lt:r.i<r.l.length
 len:r.l.length<=2000
 o5:-1000<=r.deep
 pD:r.deep<=1000
 nodes:r.nodes.length<=100000
def bw{r:Rd}(h:r.Inv):n7 r:=by have hp:=h.dI;unfold Rd.dI at hp;have:=h.lt;have:=h.o5;have:=h.pD;exact⟨h.src,h.pos,h.lt,h.len,jB,jB,by split at hp<;>omega⟩
def tX(r:Rd)(e:Int)(h:n7 r):ab prog 191 [pR,rI e] (cA r) (fun v l=>v=.aP []/\l=cA (r.aC e)):=by
 obtain⟨h1,h2,h3,h4,h5,h6,h7⟩:=h;refine aL func191 ntmps191 ?_;simp only[cA,io]
 (repeat' (first|refine aq fun K hK=>?_|refine au ?_|(with_reducible refine gR 2 ?_);refine dE 2 (bc 0 15) mixed ?_|(refine hK _ _ ?_;clear hK K)|(refine ap ?_ ?_<;>intro hc<;>try exact jz)|refine ar ?_|exact jI|(clear hK K)))
 ·(refine bW [] ?_ ?_<;>(try simp only[go_sem]))
  simp only[Rd.aC,if_pos hc];rfl
 ·(refine bW [] ?_ ?_<;>(try simp only[go_sem]))
  simp only[Rd.aC,if_neg hc]
def gx(r:Rd)(t:TF)(h:n7 r):ab prog 147 [pR,rS t] (cA r) (fun v l=>v=rB (r.is t)/\l=cA r):=by
 obtain⟨h1,h2,h3,h4,h5,h6,h7⟩:=h;refine aL func147 ntmps147 ?_;simp only[cA,io]
 (repeat' (first|refine aq fun K hK=>?_|refine au ?_|(with_reducible refine gR 1 ?_);refine dE 1 (bc 0 12) mixed ?_|(refine hK _ _ ?_;clear hK K)|(refine ap ?_ ?_<;>intro hc<;>try exact jz)|refine ar ?_|exact jI|(clear hK K)))
 (refine aZ [.tmp 4] ?_;try simp only[go_sem])
 rfl
def wS(r:Rd)(k:Int)(h:n7 r):ab prog 102 [pR,rI k] (cA r) (fun v l=>v=rB (r.kind k)/\l=cA r):=by
 obtain⟨h1,h2,h3,h4,h5,h6,h7⟩:=h;refine aL func102 ntmps102 ?_;simp only[cA,io]
 (repeat' (first|refine aq fun K hK=>?_|refine au ?_|(with_reducible refine gR 1 ?_);refine dE 1 (bc 0 21) mixed ?_|(refine hK _ _ ?_;clear hK K)|(refine ap ?_ ?_<;>intro hc<;>try exact jz)|refine ar ?_|exact jI|(clear hK K)))
 (refine aZ [.tmp 4] ?_;try simp only[go_sem])
 rfl
def iP(r:Rd)(t:TF)(h:n7 r):ab prog 145 [pR,rS t] (cA r) (fun v l=>v=.aP []/\l=cA (r.ao t)):=by
 have Ww:=gx r t h;have hf:=tX r 20 h;obtain⟨h1,h2,h3,h4,h5,h6,h7⟩:=h;simp only[cA,io]at Ww hf;refine aL func145 ntmps145 ?_;simp only[cA,io]
 (repeat' (first|refine aq fun K hK=>?_|refine au ?_|(refine hK _ _ ?_;clear hK K)|(refine ap ?_ ?_<;>intro hc<;>try exact jz)|refine cm (Ww) ?_|refine cm (hf) ?_|refine ar ?_|exact jI|(clear hK K)))
 ·(refine bW [] ?_ ?_<;>(try simp only[go_sem]))
  simp only[Rd.ao,hc,Bool.false_eq_true,if_false,go_sem]
 ·(refine bW [] ?_ ?_<;>(try simp only[go_sem]))
  simp only[Rd.ao,hc,if_true];rfl
def ux(r:Rd)(h:n7 r):ab prog 146 [pR] (cA r) (fun v l=>v=rS r.name.2/\l=cA r.name.1):=by
 have Ww:=wS r 3 h;have hf:=tX r 20 h;obtain⟨h1,h2,h3,h4,h5,h6,h7⟩:=h;simp only[cA,io]at Ww hf;refine aL func146 ntmps146 ?_;simp only[cA,io]
 (repeat' (first|refine aq fun K hK=>?_|refine au ?_|(with_reducible refine gR 6 ?_);refine dE 6 (bc 0 13) mixed ?_|(refine hK _ _ ?_;clear hK K)|(refine ap ?_ ?_<;>intro hc<;>try exact jz)|refine cm (Ww) ?_|refine cm (hf) ?_|refine ar ?_|exact jI|(clear hK K)))
 ·(refine bW [.tmp 2] ?_ ?_<;>(try simp only[go_sem]))
  ·simp only[Rd.name,hc,Bool.false_eq_true,if_false]
  ·simp only[Rd.name,hc,Bool.false_eq_true,if_false,go_sem]
 ·(refine bW [.tmp 2] ?_ ?_<;>(try simp only[go_sem]))
  ·simp only[Rd.name,hc,if_true];rw[show r.i+1-1=r.i from jB];rfl
  ·simp only[Rd.name,hc,if_true];rfl
def gY(r:Rd)(h:n7 r):ab prog 144 [pR] (cA r) (fun v l=>v=rI r.cO/\l=cA r):=by
 obtain⟨h1,h2,h3,h4,h5,h6,h7⟩:=h;refine aL func144 ntmps144 ?_;simp only[cA,io]
 (repeat' (first|refine aq fun K hK=>?_|refine au ?_|(with_reducible refine gR 1 ?_);refine dE 1 (bc 0 17) mixed ?_|(refine hK _ _ ?_;clear hK K)|(refine ap ?_ ?_<;>intro hc<;>try exact jz)|refine cp (SY _ _ jB) ?_|refine ar ?_|exact jI|(clear hK K)))
 (refine bW [.tmp 2] ?_ ?_<;>(try simp only[go_sem]))
 rfl
def wK(r:Rd)(k ln n:Int)(nm:TF)(L:TD)(h:n7 r):ab prog 196 [pR,rI k,rI ln,rI n,rS nm,aM eI 1 L] (cA r) (fun v l=>v=rI (r.put k ln n nm L).2/\l=cA (r.put k ln n nm L).1):=by
 obtain⟨h1,h2,h3,h4,h5,h6,h7⟩:=h;refine aL func196 ntmps196 ?_;simp only[cA,io]
 (repeat' (first|refine aq fun K hK=>?_|refine au ?_|(refine hK _ _ ?_;clear hK K)|(refine ap ?_ ?_<;>intro hc<;>try exact jz)|refine ar ?_|exact jI|(clear hK K)))
 (refine bW [.tmp 12] ?_ ?_<;>(try simp only[go_sem]))
 ·simp only[Rd.put];exact M5 jB
 ·simp only[Rd.put,Rd.node,List.map_append,List.length_append,List.length_cons,List.length_nil];rfl
def tu(r:Rd)(h:n7 r):ab prog 194 [pR] (cA r) (fun v l=>v=.aP []/\l=cA r.down):=by
 have hf:=tX r 21 h;obtain⟨h1,h2,h3,h4,h5,h6,h7⟩:=h;simp only[cA,io]at hf;refine aL func194 ntmps194 ?_;simp only[cA,io]
 (repeat' (first|refine aq fun K hK=>?_|refine au ?_|(refine hK _ _ ?_;clear hK K)|(refine ap ?_ ?_<;>intro hc<;>try exact jz)|refine cm (hf) ?_|refine ar ?_|exact jI|(clear hK K)))
 ·(refine bW [] ?_ ?_<;>(try simp only[go_sem]))
  simp only[Rd.down,if_pos hc,go_sem]
 ·(refine bW [] ?_ ?_<;>(try simp only[go_sem]))
  simp only[Rd.down];rw[jN]
def rp(r:Rd)(h:n7 r):ab prog 192 [pR] (cA r) (fun v l=>v=rS r.word/\l=cA r):=by
 have Ww:=wS r 4 h;obtain⟨h1,h2,h3,h4,h5,h6,h7⟩:=h;simp only[cA,io]at Ww;refine aL func192 ntmps192 ?_;simp only[cA,io]
 (repeat' (first|refine aq fun K hK=>?_|refine au ?_|(with_reducible refine gR 3 ?_);refine dE 3 (bc 0 12) mixed ?_|(refine hK _ _ ?_;clear hK K)|(refine ap ?_ ?_<;>intro hc<;>try exact jz)|refine cm (Ww) ?_|refine ar ?_|exact jI|(clear hK K)))
 ·(refine bW [.tmp 2] ?_ ?_<;>(try simp only[go_sem]))
  simp only[Rd.word,hc,if_true];rfl
 ·(refine bW [.tmp 2] ?_ ?_<;>(try simp only[go_sem]))
  simp only[Rd.word,hc,Bool.false_eq_true,if_false]
def KW(r:Rd)(h:n7 r)(hn:r.kind 3=true->r.i+1<r.l.length):ab prog 254 [pR] (cA r) (fun v l=>v=rB r.calls/\l=cA r):=by
 have Ww:=wS r 3 h;obtain⟨h1,h2,h3,h4,h5,h6,h7⟩:=h;simp only[cA,io]at Ww;refine aL func254 ntmps254 ?_;simp only[cA,io]
 (repeat' (first|refine aq fun K hK=>?_|refine au ?_|(with_reducible refine gR 2 ?_);refine dE 2 (bc 0 32) mixed ?_|(refine hK _ _ ?_;clear hK K)|(refine ap ?_ ?_<;>intro hc<;>try exact jz)|refine cm (Ww) ?_|refine ar ?_|exact jI|(clear hK K)))
 refine⟨fun h=>⟨h,jB,hn h⟩,fun h=>⟨h,jB,hn (by simp only[Bool.and_eq_true]at h;exact h.1)⟩,?_⟩
 (repeat' (first|refine aq fun K hK=>?_|refine au ?_|(refine hK _ _ ?_;clear hK K)|(refine ap ?_ ?_<;>intro hc<;>try exact jz)|refine ar ?_|exact jI|(clear hK K)))
 (refine aZ [.tmp 2] ?_;try simp only[go_sem])
 rfl
def Pt(lv:Int):aB prog 277 [rI lv] (aM eS 1 (mW lv)):=by
 refine bM func277 ntmps277 ?_
 (repeat' (first|refine aq fun K hK=>?_|refine au ?_|(refine hK _ _ ?_;clear hK K)|(refine ap ?_ ?_<;>intro hc<;>try exact jz)|refine ar ?_|exact jI|(clear hK K)))
 all_goals refine fC [.tmp 2] ?_
 all_goals simp only[mW, *,if_true,if_false,Int.reduceEq,if_pos,if_neg,not_false_eq_true]
 all_goals exact .lit _ _ _ _ _
def R9(lv:Int):(mW lv).length<=4/\∀s∈mW lv,s≠⟨#[]⟩:=by
 unfold mW;split
 ·decide
 ·split
  ·decide
  ·split
   ·decide
   ·split<;>decide
def IA(r:Rd)(lv:Int)(h:n7 r):ab prog 270 [pR,rI lv] (cA r) (fun v l=>v=rS (r.next lv)/\l=cA r):=by
 have Ww:=fun t=>gx r t h
 have hl:=R9 lv;obtain⟨h1,h2,h3,h4,h5,h6,h7⟩:=h;simp only[cA,io]at Ww;refine aL func270 ntmps270 ?_;simp only[cA,io]
 (repeat' (first|refine aq fun K hK=>?_|refine au ?_|(refine hK _ _ ?_;clear hK K)|(refine ap ?_ ?_<;>intro hc<;>try exact jz)|refine cp (Pt lv) ?_|refine ar ?_|exact jI|(clear hK K)))
 have Tk:=hK;clear hK;refine eu (S:=Nat) [(4,1),(6,2),(10,17)] (fun k=>k<=(mW lv).length/\∀j,j<k->r.is (nth (mW lv) j)=false) (fun k=>[(6,rI k)]) (fun _=>⟨[0,1],cA r⟩) (fun k=>(mW lv).length-k) 0 ⟨jB,fun j h=>jB⟩ (eD rfl cH) ?_;rintro k ⟨TQ,Tl⟩ Kr Tg;simp only[cA,io];refine S ?_
 (repeat' (first|refine aq fun K hK=>?_|refine au ?_|(refine hK _ _ ?_;clear hK K)|(refine ap ?_ ?_<;>intro hc<;>try exact jz)|refine cm (Ww _) ?_|refine Tk _ _ ?_|refine ar ?_|exact jI|(clear hK K)))
 ·(refine bW [.tmp 4] ?_ ?_<;>(try simp only[go_sem]))
  have:(mW lv).find? (fun s=>r.is s)=some (nth (mW lv) k):=yo Tl jB hc;simp only[Rd.next,this]
 ·refine Tg _ _ (eJ (k+1) ⟨jB,fun j hj=>?_⟩ jJ rfl cH);by_cases e:j=k
  ·subst e;exact hc
  ·exact Tl j jB
 ·(refine bW [.tmp 4] ?_ ?_<;>(try simp only[go_sem]))
  have:(mW lv).find? (fun s=>r.is s)=none:=CD fun j hj=>Tl j jB
  simp only[Rd.next,this]
def Ry{P:TL}{f:FuncId}{args args':TB}{l:TA}{R:AV->List TN->Prop}(hl:px args args')(h:ab P f args' l R):ab P f args l R:=fun w vs h1 h2=>by
 obtain⟨I',hg⟩:=hl.get;refine h w vs h1 ⟨I'.symm.trans h2.1,fun i a v ha hv=>?_⟩;have hi:i<args.length:=by rw[I'];exact(List.getElem?_eq_some_iff.1 ha).1
 exact hg i args[i] a (List.getElem?_eq_getElem hi) ha w v (h2.2 i _ v (List.getElem?_eq_getElem hi) hv)
def k6(r:Rd)(k ln n:Int)(nm:TF)(L:TD)(a:AV)(ha:gF a (aM eI 1 L))(h:n7 r):ab prog 196 [pR,rI k,rI ln,rI n,rS nm,a] (cA r) (fun v l=>v=rI (r.put k ln n nm L).2/\l=cA (r.put k ln n nm L).1):=
 Ry (args':=[pR,rI k,rI ln,rI n,rS nm,aM eI 1 L]) ⟨gF.refl _,gF.refl _,gF.refl _,gF.refl _,gF.refl _,ha,trivial⟩ (wK r k ln n nm L h)
def BD(n:Nat):Prop:=∀r:Rd,r.Inv->8*r.rem+1<=n->ab prog 276 [pR] (cA r) (fun v l=>v=rI (qs n r).2/\l=cA (qs n r).1)
def zz(n:Nat):Prop:=∀r:Rd,r.Inv->8*r.rem+2<=n->ab prog 269 [pR] (cA r) (fun v l=>v=rI (iv n r).2/\l=cA (iv n r).1)
def yN(n:Nat):Prop:=∀(lv:Nat) (r:Rd),lv<=5->r.Inv->8*r.rem+8-lv<=n->ab prog 256 [pR,rI lv] (cA r) (fun v l=>v=rI (dL n lv r).2/\l=cA (dL n lv r).1)
def RR(n:Nat)(ha:BD n)(hf:zz n):zz (n+1):=by
 intro r h hn;have sg:∀t,r.is t=true->r.e=0/\r.down.Inv/\r.down.inc.Inv/\r.down.inc.rem+1<=r.rem:=fun t ht=>by
  obtain⟨he,hk⟩:=Rd.aY ht;obtain⟨h1,h2,h3,h4,_⟩:=Rd.bJ h he;have Vq:r.down.tok=r.tok:=by unfold Rd.tok;rw[h3,h4]
  obtain⟨s1,e1⟩:=Rd.bs h1 (by rw[Vq];exact hk);have:=s1.inv h1;have hb:=Rd.behind h1 (by rw[Vq];exact hk);refine⟨he,h1,this,?_⟩;unfold Rd.rem;rw[if_pos he];have:r.down.inc.i=r.i+1:=by show r.down.i+1=_;rw[h3]
  have hl:r.down.inc.l=r.l:=h4;rw[this,hl];rw[h3,h4]at hb;split<;>omega
 by_cases hm:r.is (⟨#[45]⟩:TF)=true
 ·obtain⟨he,h1,h2,h3⟩:=sg _ hm;have s2:=(td n).2.1 _ h2;have h4:=s2.inv h2;have h5:(iv n r.down.inc).1.up.Inv:=(Rd.fx h he ((Rd.bs h1 (by obtain⟨_,_,h3,h4,_⟩:=Rd.bJ h he;unfold Rd.tok;rw[h3,h4];exact(Rd.aY hm).2)).1.trans s2)).inv h;have hd1:=h2.o5;have hd2:=h2.pD;have VQ:=h1.lt;have Z8:=h1.len;have hi3:=h1.pos;have hd3:=h4.o5;have hd4:=h4.pD;rw[iv,if_pos hm];refine aL func269 ntmps269 ?_;refine S ?_
  (have W:=hm;repeat' (first|refine aq fun K hK=>?_|refine au ?_|(refine hK _ _ ?_;clear hK K)|(refine ap ?_ ?_<;>intro hc<;>try exact jz)|refine cm (gY r (bw h)) ?_|refine cm (gx r _ (bw h)) ?_|refine cm (tu r (bw h)) ?_|refine cm (hf r.down.inc h2 jB) ?_|refine cm (k6 (iv n r.down.inc).1.up _ _ _ _ [(iv n r.down.inc).2] _ gF.sl (bw h5)) ?_|refine ar ?_|exact jI|(clear hK K)))
  (refine bW [.tmp 2] ?_ ?_<;>(try simp only[go_sem]))
 ·have hmf:r.is (⟨#[45]⟩:TF)=false:=by simpa using hm
  by_cases hq:r.is (⟨#[33]⟩:TF)=true
  ·obtain⟨he,h1,h2,h3⟩:=sg _ hq;have s2:=(td n).2.1 _ h2;have h4:=s2.inv h2;have h5:(iv n r.down.inc).1.up.Inv:=(Rd.fx h he ((Rd.bs h1 (by obtain⟨_,_,h3,h4,_⟩:=Rd.bJ h he;unfold Rd.tok;rw[h3,h4];exact(Rd.aY hq).2)).1.trans s2)).inv h;have hd1:=h2.o5;have hd2:=h2.pD;have VQ:=h1.lt;have Z8:=h1.len;have hi3:=h1.pos;have hd3:=h4.o5;have hd4:=h4.pD;rw[iv,if_neg hm,if_pos hq];refine aL func269 ntmps269 ?_;refine S ?_
   (have W:=jA hmf hq;repeat' (first|refine aq fun K hK=>?_|refine au ?_|(refine hK _ _ ?_;clear hK K)|(refine ap ?_ ?_<;>intro hc<;>try exact jz)|refine cm (gY r (bw h)) ?_|refine cm (gx r _ (bw h)) ?_|refine cm (tu r (bw h)) ?_|refine cm (hf r.down.inc h2 jB) ?_|refine cm (k6 (iv n r.down.inc).1.up _ _ _ _ [(iv n r.down.inc).2] _ gF.sl (bw h5)) ?_|refine ar ?_|exact jI|(clear hK K)))
   (refine bW [.tmp 2] ?_ ?_<;>(try simp only[go_sem]))
  ·have hqf:r.is (⟨#[33]⟩:TF)=false:=by simpa using hq
   rw[iv,if_neg hm,if_neg hq];refine aL func269 ntmps269 ?_;refine S ?_
   (have W:=jA hmf hqf;repeat' (first|refine aq fun K hK=>?_|refine au ?_|(refine hK _ _ ?_;clear hK K)|(refine ap ?_ ?_<;>intro hc<;>try exact jz)|refine cm (gY r (bw h)) ?_|refine cm (gx r _ (bw h)) ?_|refine cm (ha r h jB) ?_|refine ar ?_|exact jI|(clear hK K)))
   (refine bW [.tmp 2] ?_ ?_<;>(try simp only[go_sem]))
def R6(n:Nat)(hf:zz n)(V2:∀m,m<=n->yN m):yN (n+1):=by
 intro lv r hlv h hn;have Tb:∀(m:Nat) (q:Rd),m<=n->lv+1<=5->q.Inv->8*q.rem+7-lv<=m->ab prog 256 [pR,rI ((lv:Int)+1)] (cA q) (fun v l=>v=rI (dL m (lv+1) q).2/\l=cA (dL m (lv+1) q).1):=fun m q hm hl hq hr=>by have:=V2 m hm (lv+1) q hl hq jB;rw[show((lv+1:Nat):Int)=(lv:Int)+1 from jB]at this;exact this
 by_cases h5:lv=5
 ·subst h5;rw[dL,if_pos rfl];refine aL func256 ntmps256 ?_;refine S ?_
  (repeat' (first|refine aq fun K hK=>?_|refine au ?_|(refine hK _ _ ?_;clear hK K)|(refine ap ?_ ?_<;>intro hc<;>try exact jz)|refine cm (hf r h jB) ?_|refine ar ?_|exact jI|(clear hK K)))
  (refine bW [.tmp 4] ?_ ?_<;>(try simp only[go_sem]))
 ·rw[dL,if_neg h5];have s1:=(td n).2.2.1 (lv+1) r h;have h1:=s1.inv h;have Vy:=s1.rem;refine aL func256 ntmps256 ?_;refine S ?_
  (repeat' (first|refine aq fun K hK=>?_|refine au ?_|(refine hK _ _ ?_;clear hK K)|(refine ap ?_ ?_<;>intro hc<;>try exact jz)|refine cm (gY r (bw h)) ?_|refine cm (Tb n r jl jB h jB) ?_|refine ar ?_|exact jI|(clear hK K)))
  refine eu (S:=Nat×Rd×Int) [(4,1),(6,3),(19,27)] (fun s=>s.2.1.Inv/\8*s.2.1.rem+7-lv<=s.1/\s.1<=n/\oa s.1 lv r.cO s.2=oa n lv r.cO (dL n (lv+1) r)) (fun s=>[(6,rI s.2.2)]) (fun s=>⟨[0,1],cA s.2.1⟩) (fun s=>s.1) (n,dL n (lv+1) r) ⟨h1,jJ,Nat.le_refl _,rfl⟩ (eD rfl cH) ?_;rintro⟨m,q,x⟩ ⟨hq,VM,Ve,UC⟩ Kr Tg;simp only at hq VM Ve UC;rw[<-UC];obtain⟨m,rfl⟩:∃k,m=k+1:=⟨m-1,jB⟩;have XH:=hq.lt;have hqp:=hq.pos;have hqn:=hq.len;by_cases hx:q.next lv=⟨#[]⟩
  ·rw[oa,if_pos hx];refine S ?_
   (have W:=hx;repeat' (first|refine aq fun K hK=>?_|refine au ?_|(refine hK _ _ ?_;clear hK K)|(refine ap ?_ ?_<;>intro hc<;>try exact jz)|refine cm (IA q lv (bw hq)) ?_|refine ar ?_|exact jI|(clear hK K)))
   (refine bW [.tmp 4] ?_ ?_<;>(try simp only[go_sem]))
  ·have hk:=Rd.aY (Rd.lF hx);obtain⟨t1,e1⟩:=Rd.bs hq hk.2;have hi:=t1.inv hq;have hri:=Rd.dc hq hk;have t2:=(td m).2.2.1 (lv+1) _ hi;have hj:=t2.inv hi;have hrj:=t2.rem;have t3:=fun L=>Rd.cZ (t1.trans t2) (by have:=t2.dI;omega) 9 r.cO 0 (q.next lv) L
   rw[oa,if_neg hx];refine S ?_
   (have W:=hx;repeat' (first|refine aq fun K hK=>?_|refine au ?_|(refine hK _ _ ?_;clear hK K)|(refine ap ?_ ?_<;>intro hc<;>try exact jz)|refine cm (IA q lv (bw hq)) ?_|refine cm (Tb m q.inc jB jB hi jB) ?_|refine cm (k6 (dL m (lv+1) q.inc).1 _ _ _ _ [x,(dL m (lv+1) q.inc).2] _ gF.sl (bw hj)) ?_|refine ar ?_|exact jI|(clear hK K)))
   ·have h2:lv=2:=jB
    (refine bW [.tmp 4] ?_ ?_<;>(try simp only[go_sem]))
    ·simp only[if_pos h2]
    ·simp only[if_pos h2]
   ·have h2:¬lv=2:=jB;refine Tg _ _ (eJ (m,(dL m (lv+1) q.inc).1.put 9 r.cO 0 (q.next lv) [x,(dL m (lv+1) q.inc).2]) ⟨(t3 _).inv hq,?_,jJ,?_⟩ jJ rfl cH)
    ·have h6:∀L,((dL m (lv+1) q.inc).1.put 9 r.cO 0 (q.next lv) L).1.rem=(dL m (lv+1) q.inc).1.rem:=fun L=>rfl
     simp only[h6];omega
    ·rw[<-UC,oa,if_neg hx,if_neg h2]
end Go.Proofs.YtjpcgmjaipfgdaaGreatDoor