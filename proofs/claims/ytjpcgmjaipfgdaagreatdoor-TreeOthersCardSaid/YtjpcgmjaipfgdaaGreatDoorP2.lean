/- Lemmas. No conditions. -/
import Derived.Test.YtjpcgmjaipfgdaaGreatDoorLxT
set_option linter.all false
set_option maxHeartbeats 4000000
set_option maxRecDepth 10000
namespace Go.Gd
open Go
def pS{α:Type}[Inhabited α]{a b:List α}{i:Nat}(h:i<a.length):nth (a++b) i=nth a i:=by simp[nth,List.getD_eq_getElem?_getD,List.getElem?_append_left h]
def qz{α:Type}[Inhabited α](a:List α)(x:α):nth (a++[x]) a.length=x:=by simp[nth,List.getD_eq_getElem?_getD]
def bW(t:List br)(i:Int):Int:=(nth t i.toNat).kind
def cQ(k:Int):Prop:=1<=k/\k<=9
def fq(k:Int):Prop:=cQ k\/k=19\/k=20\/k=21
def fw(k:Int):Prop:=10<=k/\k<=17
def y0:List TI:=[(⟨#[124,124]⟩:TI),(⟨#[38,38]⟩:TI),(⟨#[60]⟩:TI),(⟨#[60,61]⟩:TI),(⟨#[61,61]⟩:TI),(⟨#[33,61]⟩:TI),(⟨#[43]⟩:TI),(⟨#[45]⟩:TI),(⟨#[42]⟩:TI),(⟨#[47]⟩:TI),(⟨#[37]⟩:TI)]
structure Shape(t:List br)(n:br):Prop where
 any:1<=n.kind/\n.kind<=21
 zero:n.kind=1\/n.kind=2\/n.kind=3\/n.kind=4\/n.kind=19->n.l=[]
 one:n.kind=5\/n.kind=6\/n.kind=7\/n.kind=8\/n.kind=14\/n.kind=20->∃a,n.l=[a]/\cQ (bW t a)
 two:n.kind=9\/n.kind=12->∃a b,n.l=[a,b]/\cQ (bW t a)/\cQ (bW t b)
 right:n.kind=10\/n.kind=11->∃a,n.l=[a]/\fq (bW t a)
 sC:n.kind=13->∃a,n.l=[a]/\bW t a=21
 lw:n.kind=15->∃a b,cQ (bW t a)/\bW t b=18/\(n.l=[a,b]\/∃d,n.l=[a,b,d]/\bW t d=18)
 dZ:n.kind=16->∃a b,n.l=[a,b]/\cQ (bW t a)/\bW t b=18
 ret:n.kind=17->n.l=[]\/∃a,n.l=[a]/\cQ (bW t a)
 block:n.kind=18->∀a∈n.l,fw (bW t a)
 call:n.kind=21->∀a∈n.l,cQ (bW t a)
 num:n.kind=1->∃s,rj s/\n.n=pw s
 bool:n.kind=2->n.n=0\/n.n=1
 text:n.kind=3->n.name.size<=12
 sign:n.kind=9->n.name∈y0
inductive aL(t:List br):Nat->List Int->Nat->Prop
 |nil (k:Nat):aL t k [] k
 |cons {lo c hi:Nat} {L:List Int} (hc:c<t.length) (h1:aL t lo (nth t c).l c) (h2:aL t (c+1) L hi):aL t lo ((c:Int)::L) hi
variable{t:List br}{lo hi:Nat}{L:TG}
def aL.le(h:aL t lo L hi):lo<=hi:=by
 induction h with
 |nil=>exact Nat.le_refl _
 |cons _ _ _ i1 i2=>omega
def aL.mem(h:aL t lo L hi):∀a∈L,0<=a/\lo<=a.toNat/\a.toNat<hi/\a.toNat<t.length:=by
 induction h with
 |nil=>intro a ha;simp at ha
 |@cons lo c hi L hc h1 h2 i1 i2=>
  intro a ha;have l1:=h1.le;have l2:=h2.le;rcases List.mem_cons.1 ha with rfl|ha
  ·exact⟨jB,by simpa using l1,by simp;omega,by simpa using hc⟩
  ·have:=i2 a ha;omega
variable{u:List br}
def aL.mono(h:aL t lo L hi):aL (t++u) lo L hi:=by
 induction h with
 |nil k=>exact .nil k
 |cons hc _ _ i1 i2=>exact .cons jF (by rw[pS hc];exact i1) i2
variable{M:TG}
def aL.append{mid:Nat}(h:aL t lo L mid):aL t mid M hi->aL t lo (L++M) hi:=by
 induction h with
 |nil=>intro k;exact k
 |cons hc h1 _ _ i2=>intro k;exact .cons hc h1 (i2 k)
def aL.one{c:Nat}(hc:c<t.length)(h:aL t lo (nth t c).l c):aL t lo [(c:Int)] (c+1):=.cons hc h (.nil _)
def mK{a:Int}(h:a.toNat<t.length):bW (t++u) a=bW t a:=by unfold bW;rw[pS h]
def Shape.mono{n:br}(h:Shape t n)(hl:∀a∈n.l,a.toNat<t.length):Shape (t++u) n where
 any:=h.any
 zero:=h.zero
 one:=fun e=>by obtain⟨a,h1,h2⟩:=h.one e;exact⟨a,h1,by rw[mK (hl a (by rw[h1];simp))];exact h2⟩
 two:=fun e=>by obtain⟨a,b,h1,h2,h3⟩:=h.two e;exact⟨a,b,h1,by rw[mK (hl a (by rw[h1];simp))];exact h2,by rw[mK (hl b (by rw[h1];simp))];exact h3⟩
 right:=fun e=>by obtain⟨a,h1,h2⟩:=h.right e;exact⟨a,h1,by rw[mK (hl a (by rw[h1];simp))];exact h2⟩
 sC:=fun e=>by obtain⟨a,h1,h2⟩:=h.sC e;exact⟨a,h1,by rw[mK (hl a (by rw[h1];simp))];exact h2⟩
 lw:=fun e=>by
  obtain⟨a,b,h1,h2,h3⟩:=h.lw e;rcases h3 with h3|⟨d,h3,h4⟩
  ·exact⟨a,b,by rw[mK (hl a (by rw[h3];simp))];exact h1,by rw[mK (hl b (by rw[h3];simp))];exact h2,.inl h3⟩
  ·exact⟨a,b,by rw[mK (hl a (by rw[h3];simp))];exact h1,by rw[mK (hl b (by rw[h3];simp))];exact h2,.inr ⟨d,h3,by rw[mK (hl d (by rw[h3];simp))];exact h4⟩⟩
 dZ:=fun e=>by obtain⟨a,b,h1,h2,h3⟩:=h.dZ e;exact⟨a,b,h1,by rw[mK (hl a (by rw[h1];simp))];exact h2,by rw[mK (hl b (by rw[h1];simp))];exact h3⟩
 ret:=fun e=>by
  rcases h.ret e with h1|⟨a,h1,h2⟩
  ·exact .inl h1
  ·exact .inr ⟨a,h1,by rw[mK (hl a (by rw[h1];simp))];exact h2⟩
 block:=fun e a ha=>by rw[mK (hl a ha)];exact h.block e a ha
 call:=fun e a ha=>by rw[mK (hl a ha)];exact h.call e a ha
 num:=h.num
 bool:=h.bool
 text:=h.text
 sign:=h.sign
def aL.len(h:aL t lo L hi):L.length+lo<=hi:=by
 induction h with
 |nil=>simp
 |@cons lo c hi L hc h1 h2 i1 i2=> have:=h1.le;simp only[List.length_cons];omega
structure Mk(t t':List br)(L:List Int):Prop where
 pre:∃u,t'=t++u
 chain:aL t' t.length L t'.length
 shape:∀k,t.length<=k->k<t'.length->Shape t' (nth t' k)/\(∀a∈(nth t' k).l,0<=a/\a.toNat<k)/\∃lo,aL t' lo (nth t' k).l k
def Mk.refl(t:List br):Mk t t []:=⟨⟨[],jE⟩,.nil _,fun k h1 h2=>jB⟩
variable{a b:List br}
def Mk.trans{c:List br}(h:Mk a b L)(k:Mk b c M):Mk a c (L++M):=by
 obtain⟨⟨u,rfl⟩,h2,h3⟩:=h;obtain⟨⟨v,rfl⟩,k2,k3⟩:=k;refine⟨⟨u++v,jE⟩,h2.mono.append k2,fun i h4 h5=>?_⟩;by_cases hi:i<(a++u).length
 ·obtain⟨g1,g2,lo,g3⟩:=h3 i h4 hi;rw[pS hi];exact⟨g1.mono fun x hx=>by have:=g2 x hx;omega,g2,lo,g3.mono⟩
 ·exact k3 i jB h5
def Mk.put(h:Mk a b L)(n:br)(hn:n.l=L)(hs:Shape b n):Mk a (b++[n]) [(b.length:Int)]:=by
 obtain⟨⟨u,rfl⟩,h2,h3⟩:=h;have hm:∀x∈n.l,0<=x/\x.toNat<(a++u).length:=fun x hx=>by rw[hn]at hx;exact⟨(h2.mem x hx).1,(h2.mem x hx).2.2.1⟩
 refine⟨⟨u++[n],jE⟩,?_,fun i h4 h5=>?_⟩
 ·have e:((a++u)++[n]).length=(a++u).length+1:=by simp only[List.length_append,List.length_cons,List.length_nil]
  rw[e];refine aL.one jE ?_;rw[qz,hn];exact h2.mono
 ·by_cases hi:i<(a++u).length
  ·obtain⟨g1,g2,lo,g3⟩:=h3 i h4 hi;rw[pS hi];exact⟨g1.mono fun x hx=>by have:=g2 x hx;omega,g2,lo,g3.mono⟩
  ·have:i=(a++u).length:=by simp at h5 hi ⊢;omega
   subst this;rw[qz];exact⟨hs.mono fun x hx=>(hm x hx).2,hm,a.length,by rw[hn];exact h2.mono⟩
def Mk.kind{c:List br}(h:Mk a b L)(k:Mk b c M){x:Int}(hx:x∈L):bW c x=bW b x:=by obtain⟨⟨v,rfl⟩,_,_⟩:=k;exact mK (h.chain.mem x hx).2.2.2
def Kn(t:List br)(n:br):bW (t++[n]) (t.length:Int)=n.kind:=by unfold bW;rw[Int.toNat_natCast,qz]
def la(l:List cz):Prop:=∀k,k<l.length->(nth l k).kind=2->(nth l k).text.size<=12
def Made(r r':Rd)(L:TG)(C:Int->Prop):Prop:=r'.e=0->Mk r.nodes r'.nodes L/\∀a∈L,C (bW r'.nodes a)
structure Still(r r':Rd):Prop where
 nodes:r'.nodes=r.nodes
 err:r'.e=0->r.e=0
 l:r'.l=r.l
def Still.refl(r:Rd):Still r r:=⟨rfl,id,rfl⟩
theorem Still.trans{a b c:Rd}(h:Still a b)(k:Still b c):Still a c:=⟨k.nodes.trans h.nodes,fun e=>h.err (k.err e),k.l.trans h.l⟩
def yL(r:Rd){e:Int}(he:e≠0):Still r (r.aE e):=⟨Rd.dG _ _,fun h=>(Rd.gO he h).elim,Rd.gL _ _⟩
def ns(r:Rd):Still r r.inc:=⟨rfl,id,rfl⟩
def zX(r:Rd):Still r r.up:=⟨rfl,id,rfl⟩
def jn(r:Rd)(t:TI):Still r (r.av t):=by
 unfold Rd.av;split
 ·exact ns r
 ·exact yL r jC
def u0(r:Rd):Still r r.name.1:=by
 unfold Rd.name;split
 ·exact ns r
 ·exact yL r jC
def yu(r:Rd):Still r r.down:=by
 unfold Rd.down;split
 ·have:=yL r (e:=21) jC;exact⟨this.nodes,this.err,this.l⟩
 ·exact⟨rfl,id,rfl⟩
variable{r a b:Rd}{C:Int->Prop}
def Made.pre(s:Still r a)(h:Made a b L C):Made r b L C:=fun e=>by have:=h e;rwa [s.nodes]at this
def Made.post(h:Made r a L C)(s:Still a b):Made r b L C:=fun e=>by have:=h (s.err e);rwa [s.nodes]
def Made.nil(r:Rd)(C:Int->Prop):Made r r [] C:=fun _=>⟨Mk.refl _,fun a ha=>by simp at ha⟩
def Made.pI{D:Int->Prop}(h:Made r a L C)(hc:∀k,C k->D k):Made r a L D:=fun e=>⟨(h e).1,fun a ha=>hc _ ((h e).2 a ha)⟩
def Made.seq{c:Rd}{D:Int->Prop}(h:Made a b L C)(k:Made b c M D)(he:c.e=0->b.e=0):c.e=0->Mk a.nodes c.nodes (L++M)/\(∀x∈L,C (bW c.nodes x))/\∀x∈M,D (bW c.nodes x):=fun e=>by obtain⟨h1,h2⟩:=h (he e);obtain⟨k1,k2⟩:=k e;exact⟨h1.trans k1,fun x hx=>by rw[h1.kind k1 hx];exact h2 x hx,k2⟩
def Made.both{c:Rd}(h:Made a b L C)(k:Made b c M C)(he:c.e=0->b.e=0):Made a c (L++M) C:=fun e=>by obtain⟨h1,h2,h3⟩:=h.seq k he e;exact⟨h1,fun x hx=>(List.mem_append.1 hx).elim (h2 x) (h3 x)⟩
def jY(k ln n:Int)(nm:TI)(h:a.e=0->Mk r.nodes a.nodes L/\Shape a.nodes ⟨k,ln,n,nm,L⟩/\C k):Made r (a.put k ln n nm L).1 [(a.put k ln n nm L).2] C:=fun e=>by obtain⟨h1,h2,h3⟩:=h e;refine⟨h1.put _ rfl h2,fun x hx=>?_⟩;rw[List.mem_singleton.1 hx];show C (bW (a.nodes++[_]) (a.nodes.length:Int));rw[Kn];exact h3
variable{ln n:Int}{nm:TI}
def uj{k:Int}(hk:k=1\/k=2\/k=3\/k=4\/k=17\/k=19)(h1:k=1->∃s,rj s/\n=pw s)(h2:k=2->n=0\/n=1)(h3:k=3->nm.size<=12):Shape t ⟨k,ln,n,nm,[]⟩:=by constructor<;>(try simp only)<;>intros<;>first|(clear h1 h2 h3;omega)|(clear h1 h2 h3;exfalso;omega)|trivial|rfl|(exact .inl rfl)|(exact .inl trivial)|(refine h1 ?_;assumption)|(refine h2 ?_;assumption)|(refine h3 ?_;assumption)|fail
variable{a:Int}
def vP{k:Int}(hk:k=5\/k=6\/k=7\/k=8\/k=14\/k=17\/k=20)(h:cQ (bW t a)):Shape t ⟨k,ln,n,nm,[a]⟩:=by constructor<;>(try simp only)<;>intros<;>first|omega|omega|trivial|(exact⟨a,rfl,h⟩)|(exact .inr ⟨a,rfl,h⟩)
def IL{k:Int}(hk:k=10\/k=11)(h:fq (bW t a)):Shape t ⟨k,ln,n,nm,[a]⟩:=by constructor<;>(try simp only)<;>intros<;>first|omega|omega|trivial|(exact⟨a,rfl,h⟩)
def K9(h:bW t a=21):Shape t ⟨13,ln,n,nm,[a]⟩:=by constructor<;>(try simp only)<;>intros<;>first|omega|omega|trivial|(exact⟨a,rfl,h⟩)
variable{b:Int}
def Hd{k:Int}(hk:k=12\/k=9/\nm∈y0)(h:cQ (bW t a))(h':cQ (bW t b)):Shape t ⟨k,ln,n,nm,[a,b]⟩:=by constructor<;>(try simp only)<;>intros<;>first|omega|omega|trivial|(exact⟨a,b,rfl,h,h'⟩)|(rcases hk with hk|hk;omega;exact hk.2)|fail
def R6(h:cQ (bW t a))(h':bW t b=18):Shape t ⟨16,ln,n,nm,[a,b]⟩:=by constructor<;>(try simp only)<;>intros<;>first|omega|omega|trivial|(exact⟨a,b,rfl,h,h'⟩)
def JU(h:cQ (bW t a))(h':bW t b=18):Shape t ⟨15,ln,n,nm,[a,b]⟩:=by constructor<;>(try simp only)<;>intros<;>first|omega|omega|trivial|(exact⟨a,b,h,h',.inl rfl⟩)
def Pu{d:Int}(h:cQ (bW t a))(h':bW t b=18)(h'':bW t d=18):Shape t ⟨15,ln,n,nm,[a,b,d]⟩:=by constructor<;>(try simp only)<;>intros<;>first|omega|omega|trivial|(exact⟨a,b,h,h',.inr ⟨d,rfl,h''⟩⟩)
def Km(h:∀a∈L,fw (bW t a)):Shape t ⟨18,ln,n,nm,L⟩:=by constructor<;>(try simp only)<;>intros<;>first|omega|omega|trivial|(refine h _ ?_;assumption)|fail
def M1(h:∀a∈L,cQ (bW t a)):Shape t ⟨21,ln,n,nm,L⟩:=by constructor<;>(try simp only)<;>intros<;>first|omega|omega|trivial|(refine h _ ?_;assumption)|fail
def S0{lv:Int}(h:r.next lv≠⟨#[]⟩):r.next lv∈y0:=by
 unfold Rd.next at h ⊢;cases e:(mZ lv).find? (fun s=>r.is s)with
 |none=>rw[e]at h;exact(h rfl).elim
 |some s=>
  have:=List.mem_of_find?_eq_some e;unfold mZ at this;simp only;unfold y0;split at this
  ·simp at this ⊢;simp[this]
  split at this
  ·simp at this ⊢;simp[this]
  split at this
  ·simp at this ⊢;rcases this with h|h|h|h<;>simp[h]
  split at this
  ·simp at this ⊢;rcases this with h|h<;>simp[h]
  ·simp at this ⊢;rcases this with h|h|h<;>simp[h]
def pT{r':Rd}(s:Rd.St r r'):r'.e=0->r.e=0:=fun h=>Classical.byContradiction fun e=>s.err e h
def Jg{e:Int}(he:e≠0):Made r (r.aE e) L C:=fun h=>(Rd.gO he h).elim
theorem En:∀n,(∀r:Rd,r.Inv->la r.l->8*r.rem+1<=n->Made r (qf n r).1 [(qf n r).2] cQ)/\(∀r:Rd,r.Inv->la r.l->8*r.rem+2<=n->Made r (iw n r).1 [(iw n r).2] cQ)/\
  (∀lv (r:Rd),r.Inv->la r.l->lv<=5->8*r.rem+8<=n+lv->Made r (dO n lv r).1 [(dO n lv r).2] cQ)/\
  (∀lv ln (r:Rd) (p:Rd×Int),p.1.Inv->la p.1.l->lv<=4->8*p.1.rem+7<=n+lv->Made r p.1 [p.2] cQ->Made r (oL n lv ln p).1 [(oL n lv ln p).2] cQ)
 |0=>⟨fun r h ht hn=>by omega,fun r h ht hn=>by omega,fun lv r h ht h5 hn=>by omega,fun lv ln r p h ht h5 hn hp=>by omega⟩
 |n+1=>by
  obtain⟨ia,lw,ic,il⟩:=En n;have ist:=si n;have deeper:∀(r:Rd) (t u:TI),r.Inv->la r.l->r.e=0->8*r.rem+1<=n+1->(r.is t=true\/8*r.rem+8<=n)->Made r ((dO n 0 (r.down.av t)).1.av u).up [(dO n 0 (r.down.av t)).2] cQ:=fun r t u h ht he hn hx=>by
   have h1:=(Rd.bL h he).1;have s1:=Rd.aK h1 t;have hr:8*(r.down.av t).rem+8<=n+0:=by
    rcases hx with hx|hx
    ·have:=(Rd.gK h hx).1;omega
    ·have:=s1.rem;have XC:r.down.rem<=r.rem:=by
      unfold Rd.rem;obtain⟨_,_,h3,h4,_⟩:=Rd.bL h he;rw[h3,h4,if_pos he];split<;>omega
     omega
   have st:=(yu r).trans (jn r.down t);have:=ic 0 (r.down.av t) (s1.inv h1) (by rw[st.l];exact ht) jB hr;exact((this.pre st).post (jn _ _)).post (zX _)
  refine⟨fun r h ht hn=>?_,fun r h ht hn=>?_,fun lv r h ht h5 hn=>?_,fun lv ln r p h ht h5 hn hp=>?_⟩
  ·unfold qf;split
   ·rename_i he;exact fun h=>(he h).elim
   rename_i he;have he:r.e=0:=jB;have VK:r.i.toNat<r.l.length:=by have:=h.lt;have:=h.pos;omega
   split
   ·rename_i hk;exact jY _ _ _ _ fun _=>⟨Mk.refl _,uj jB (fun _=>⟨_,h.num _ VK hk,rfl⟩) jH jH,by unfold cQ;omega⟩
   split
   ·rename_i hk;exact jY _ _ _ _ fun _=>⟨Mk.refl _,uj jB jH jH (fun _=>ht _ VK hk),by unfold cQ;omega⟩
   split
   ·rename_i hk;have Vl:r.e=0/\r.tok.kind≠0:=⟨he,jB⟩;split
    ·have hi:=(Rd.bt h Vl.2).1.inv h;have hr:=Rd.de h Vl;have hm:=deeper r.inc (⟨#[91]⟩:TI) (⟨#[93]⟩:TI) hi ht he jB (.inl (by assumption));exact jY _ _ _ _ fun e=>⟨(hm e).1,vP jB ((hm e).2 _ jE),by unfold cQ;omega⟩
    ·exact jY _ _ _ _ fun _=>⟨Mk.refl _,uj jB jH jH jH,by unfold cQ;omega⟩
   split
   ·exact jY _ _ _ _ fun _=>⟨Mk.refl _,uj jB jH (fun _=>.inr rfl) jH,by unfold cQ;omega⟩
   split
   ·exact jY _ _ _ _ fun _=>⟨Mk.refl _,uj jB jH (fun _=>.inl rfl) jH,by unfold cQ;omega⟩
   split
   ·rename_i hs;have Vl:=Rd.ba hs;split
    ·have hi:=(Rd.bt h Vl.2).1.inv h;have hr:=Rd.de h Vl;have hm:=deeper r.inc (⟨#[40]⟩:TI) (⟨#[41]⟩:TI) hi ht he jB (.inl (by assumption));exact jY _ _ _ _ fun e=>⟨(hm e).1,vP jB ((hm e).2 _ jE),by unfold cQ;omega⟩
    ·exact fun e=>(Rd.gO jC e).elim
   split
   ·exact deeper r (⟨#[40]⟩:TI) (⟨#[41]⟩:TI) h ht he hn (.inl (by assumption))
   ·exact Jg jC
  ·unfold iw;have sg:∀t,r.is t=true->∀k ln nm,(k=7\/k=8)->Made r (((iw n r.down.inc).1.up).put k ln 0 nm [(iw n r.down.inc).2]).1 [(((iw n r.down.inc).1.up).put k ln 0 nm [(iw n r.down.inc).2]).2] cQ:=fun t WY k ln nm hk=>by
    obtain⟨he,Xa⟩:=Rd.ba WY;obtain⟨h1,h2,h3,h4,h5,h6⟩:=Rd.bL h he;have VK:r.down.tok=r.tok:=by unfold Rd.tok;rw[h3,h4]
    have s1:=(Rd.bt h1 (by rw[VK];exact Xa)).1;have st:=(yu r).trans (ns r.down);have hr:8*r.down.inc.rem+2<=n:=by
     have hb:=Rd.behind h Xa;unfold Rd.rem at hn ⊢;rw[if_pos he]at hn;have e1:r.down.inc.i=r.i+1:=by show r.down.i+1=_;rw[h3]
     have e2:r.down.inc.l=r.l:=h4;rw[e1,e2];have:=h.pos;split<;>omega
    have hm:=((lw r.down.inc (s1.inv h1) (by rw[st.l];exact ht) hr).pre st).post (zX _);exact jY _ _ _ _ fun e=>⟨(hm e).1,vP jB ((hm e).2 _ jE),by unfold cQ;omega⟩
   split
   ·rename_i WY;exact sg _ WY _ _ _ (.inl rfl)
   split
   ·rename_i WY;exact sg _ WY _ _ _ (.inr rfl)
   ·exact ia r h ht jB
  ·unfold dO;split
   ·exact lw r h ht jB
   ·have s1:=ist.2.2.1 (lv+1) r h;exact il lv _ r _ (s1.inv h) (by rw[s1.l];exact ht) jB (by have:=s1.rem;omega) (ic (lv+1) r h ht jB jB)
  ·unfold oL;split
   ·exact hp
   rename_i Yc;have Vl:=Rd.ba (Rd.lF Yc);have s1:=(Rd.bt h Vl.2).1;have hr:=Rd.de h Vl;have s2:=ist.2.2.1 (lv+1) _ (s1.inv h);have hm:=ic (lv+1) p.1.inc (s1.inv h) (by rw[s1.l];exact ht) jB jB;have Yz:=(hp.post (ns _)).seq hm (pT s2);have ZW:Made r ((dO n (lv+1) p.1.inc).1.put 9 ln 0 (p.1.next lv) [p.2,(dO n (lv+1) p.1.inc).2]).1 [((dO n (lv+1) p.1.inc).1.put 9 ln 0 (p.1.next lv) [p.2,(dO n (lv+1) p.1.inc).2]).2] cQ:=
    jY _ _ _ _ fun e=>⟨(Yz e).1,Hd (.inr ⟨rfl,S0 Yc⟩) ((Yz e).2.1 _ jE) ((Yz e).2.2 _ jE),by unfold cQ;omega⟩
   split
   ·exact ZW
   ·have s3:=Rd.cY (s1.trans s2) (by have:=s2.dI;have:=(Rd.bt h Vl.2).2;omega) 9 ln 0 (p.1.next lv) [p.2,(dO n (lv+1) p.1.inc).2];exact il lv ln r _ (s3.inv h) (by rw[s3.l];exact ht) h5 (by have e:((dO n (lv+1) p.1.inc).1.put 9 ln 0 (p.1.next lv) [p.2,(dO n (lv+1) p.1.inc).2]).1.rem=(dO n (lv+1) p.1.inc).1.rem:=rfl;show 8*((dO n (lv+1) p.1.inc).1.put 9 ln 0 (p.1.next lv) [p.2,(dO n (lv+1) p.1.inc).2]).1.rem+7<=_;rw[e];have:=s2.rem;omega) ZW
def rl(h:r.Inv)(ht:la r.l):Made r (db r).1 [(db r).2] cQ:=(En _).2.2.1 0 r h ht jB jB
def St.j4{r':Rd}(s:Rd.St r r')(h:la r.l):la r'.l:=by rw[s.l];exact h
theorem Dj:∀(n:Nat) (b:Bool) (r0 r:Rd) (L:TG),r.Inv->la r.l->Made r0 r L cQ->Made r0 (mU n b r L).1 (mU n b r L).2 cQ
 |0,_,r0,r,L,h,ht,hm=>by unfold mU;exact hm
 |n+1,false,r0,r,L,h,ht,hm=>by unfold mU;exact hm
 |n+1,true,r0,r,L,h,ht,hm=>by
  have s1:=ki h;have h1:=s1.inv h;have m1:=hm.both (rl h ht) (pT s1);unfold mU;split
  ·rename_i hs;have s2:=(Rd.bt h1 (Rd.ba hs).2).1;exact Dj n _ r0 _ _ (s2.inv h1) (St.j4 s2 (St.j4 s1 ht)) (m1.post (ns _))
  ·exact m1
def I8(h:r.Inv)(ht:la r.l):Made r (mJ r).1 [(mJ r).2] (fun k=>k=21):=by have hs:=yO h;have st:=(u0 r).trans (jn r.name.1 (⟨#[40]⟩:TI));have hm:Made r (nI r).1 (nI r).2 cQ:=Dj _ _ r _ _ (hs.inv h) (St.j4 hs ht) ((Made.nil _ _).pre st);have hm:=hm.post (jn (nI r).1 (⟨#[41]⟩:TI));exact jY _ _ _ _ fun e=>⟨(hm e).1,M1 (hm e).2,rfl⟩
def HL(h:r.Inv)(ht:la r.l):Made r (lG r).1 [(lG r).2] fq:=by
 unfold lG;split
 ·exact jY _ _ _ _ fun _=>⟨Mk.refl _,uj jB jH jH jH,by unfold fq;omega⟩
 split
 ·rename_i hs;have s1:=(Rd.bt h (Rd.ba hs).2).1;have s2:=s1.trans (Rd.aK (s1.inv h) (⟨#[40]⟩:TI));have hm:=((rl (s2.inv h) (St.j4 s2 ht)).pre ((ns r).trans (jn _ _))).post (jn _ (⟨#[41]⟩:TI));exact jY _ _ _ _ fun e=>⟨(hm e).1,vP jB ((hm e).2 _ jE),by unfold fq;omega⟩
 split
 ·exact(I8 h ht).pI fun k hk=>by unfold fq;omega
 ·exact(rl h ht).pI fun k hk=>.inl hk
def Qd(h:r.Inv)(ht:la r.l)(he:r.e=0):Made r (o4 r).1 [(o4 r).2] cQ:=by have h1:=(Rd.bL h he).1;have s1:=Rd.aK h1 (⟨#[91]⟩:TI);have st:=(yu r).trans (jn r.down (⟨#[91]⟩:TI));exact(rl (s1.inv h1) (by rw[st.l];exact ht)).pre st
def JK(h:r.Inv)(ht:la r.l)(he:r.e=0)(ln:Int):Made r (pO r ln).1 [(pO r ln).2] fw:=by
 unfold pO;split
 ·have hm:=(I8 h ht).post (jn _ (⟨#[59]⟩:TI));exact jY _ _ _ _ fun e=>⟨(hm e).1,K9 ((hm e).2 _ jE),by unfold fw;omega⟩
 have s0:=Rd.dq h;have h0:=s0.inv h;split
 ·rename_i hs;have he0:=(Rd.ba hs).1;have m1:=Qd h0 (St.j4 s0 ht) he0;obtain⟨t1,t2⟩:=zW h0 hs;have sB:Rd.St r.name.1 ((o4 r.name.1).1.av (⟨#[93]⟩:TI)).up:=(A1 h0 hs).2;have stl:Still (o4 r.name.1).1 (((o4 r.name.1).1.av (⟨#[93]⟩:TI)).up.av (⟨#[61]⟩:TI)):=((jn _ _).trans (zX _)).trans (jn _ _);have m2:Made (((o4 r.name.1).1.av (⟨#[93]⟩:TI)).up.av (⟨#[61]⟩:TI)) (uG r.name.1).1 [(uG r.name.1).2] cQ:=rl (t1.inv h0) (St.j4 t1 (St.j4 s0 ht));have hm:=((m1.post stl).both m2 (pT (ki (t1.inv h0)))).post (jn _ (⟨#[59]⟩:TI));have hm:=hm.pre (u0 r);exact jY _ _ _ _ fun e=>⟨(hm e).1,Hd (.inl rfl) ((hm e).2 _ jE) ((hm e).2 _ jE),by unfold fw;omega⟩
 ·have s1:=s0.trans (Rd.aK h0 (⟨#[61]⟩:TI));have hm:=((HL (s1.inv h) (St.j4 s1 ht)).pre ((u0 r).trans (jn _ _))).post (jn _ (⟨#[59]⟩:TI));exact jY _ _ _ _ fun e=>⟨(hm e).1,IL (.inr rfl) ((hm e).2 _ jE),by unfold fw;omega⟩
theorem Jo:∀n,(∀r:Rd,r.Inv->la r.l->4*r.rem+1<=n->Made r (fZ n r).1 [(fZ n r).2] (fun k=>k=18))/\
  (∀(r0 r:Rd) L,r.Inv->la r.l->4*r.rem+3<=n->Made r0 r L fw->Made r0 (mF n r L).1 (mF n r L).2 fw)/\
  (∀r:Rd,r.Inv->la r.l->r.e=0->4*r.rem+2<=n->Made r (nL n r).1 [(nL n r).2] fw)
 |0=>⟨fun r h ht hn=>by omega,fun r0 r L h ht hn hm=>by omega,fun r h ht he hn=>by omega⟩
 |n+1=>by
  obtain⟨ib,il,is_⟩:=Jo n;have ist:=rY n;refine⟨fun r h ht hn=>?_,fun r0 r L h ht hn hm=>?_,fun r h ht he hn=>?_⟩
  ·unfold fZ;split
   ·rename_i hx;have he:=(Rd.ba hx).1;have hd:=(Rd.bL h he).1;have s1:=Rd.aK hd (⟨#[123]⟩:TI);have st:=(yu r).trans (jn r.down (⟨#[123]⟩:TI));have hr:=(Rd.gK h hx).1;have hm:=il r (r.down.av (⟨#[123]⟩:TI)) [] (s1.inv hd) (by rw[st.l];exact ht) jB ((Made.nil _ _).pre st);have hm:=(hm.post (jn _ (⟨#[125]⟩:TI))).post (zX _);exact jY _ _ _ _ fun e=>⟨(hm e).1,Km (hm e).2,rfl⟩
   ·exact Jg jC
  ·unfold mF;split
   ·rename_i hc;have Xp:0<n:=jB;obtain⟨s1,s2⟩:=ist.2.2 r h hc.1 Xp;have VA:=hm.both (is_ r h ht hc.1 jB) (pT s1);exact il r0 _ _ (s1.inv h) (St.j4 s1 ht) jB VA
   ·exact hm
  ·unfold nL;have word:∀w:TI,w≠⟨#[]⟩->r.word=w->r.inc.Inv/\r.inc.rem+1<=r.rem/\Rd.St r r.inc:=fun w h0 hw=>by
    have hk:=Rd.dH (Rd.gI hw h0) jC;exact⟨(Rd.bt h hk.2).1.inv h,Rd.de h hk,(Rd.bt h hk.2).1⟩
   split
   ·rename_i hw;obtain⟨h1,h2,s1⟩:=word _ jC hw;have s2:=Rd.dq h1;have s3:=s2.trans (Rd.aK (s2.inv h1) (⟨#[61]⟩:TI));have hm:=((HL (s3.inv h1) (St.j4 s3 ht)).pre ((ns r).trans ((u0 r.inc).trans (jn _ _)))).post (jn _ (⟨#[59]⟩:TI));exact jY _ _ _ _ fun e=>⟨(hm e).1,IL (.inl rfl) ((hm e).2 _ jE),by unfold fw;omega⟩
   split
   ·rename_i hw;obtain⟨h1,h2,s1⟩:=word _ jC hw;have hm:=((rl h1 (St.j4 s1 ht)).pre (ns r)).post (jn _ (⟨#[59]⟩:TI));exact jY _ _ _ _ fun e=>⟨(hm e).1,vP jB ((hm e).2 _ jE),by unfold fw;omega⟩
   split
   ·rename_i hw;obtain⟨h1,h2,s1⟩:=word _ jC hw;have s2:=ki h1;have s3:=ist.1 _ (s2.inv h1);have hm:=((rl h1 (St.j4 s1 ht)).pre (ns r)).seq (ib (db r.inc).1 (s2.inv h1) (St.j4 s2 (St.j4 s1 ht)) (by have:=s2.rem;omega)) (pT s3);exact jY _ _ _ _ fun e=>⟨(hm e).1,R6 ((hm e).2.1 _ jE) ((hm e).2.2 _ jE),by unfold fw;omega⟩
   split
   ·rename_i hw;obtain⟨h1,h2,s1⟩:=word _ jC hw;have s2:=ki h1;have h3:=s2.inv h1;have s3:=ist.1 _ h3;have h4:=s3.inv h3;have hm:=((rl h1 (St.j4 s1 ht)).pre (ns r)).seq (ib (db r.inc).1 h3 (St.j4 s2 (St.j4 s1 ht)) (by have:=s2.rem;omega)) (pT s3);split
    ·rename_i hx;have hk:=Rd.ba hx;have s5:=(Rd.bt h4 hk.2).1;have hr5:=Rd.de h4 hk;have h5:=s5.inv h4;have s6:=ist.1 _ h5;have m3:=(ib (fZ n (db r.inc).1).1.inc h5 (St.j4 s5 (St.j4 s3 (St.j4 s2 (St.j4 s1 ht)))) (by have:=s2.rem;have:=s3.rem;omega)).pre (ns _);have he5:=fun e=>pT s5 (pT s6 e)
     exact jY _ _ _ _ fun e=>by obtain⟨a1,a2,a3⟩:=hm (he5 e);obtain⟨b1,b2⟩:=m3 e;exact⟨a1.trans b1,Pu (by rw[a1.kind b1 jE];exact a2 _ jE) (by rw[a1.kind b1 jE];exact a3 _ jE) (b2 _ jE),by unfold fw;omega⟩
    ·exact jY _ _ _ _ fun e=>⟨(hm e).1,JU ((hm e).2.1 _ jE) ((hm e).2.2 _ jE),by unfold fw;omega⟩
   split
   ·rename_i hw;obtain⟨h1,h2,s1⟩:=word _ jC hw;split
    ·have hm:=((Made.nil r.inc cQ).pre (ns r)).post (jn _ (⟨#[59]⟩:TI));exact jY _ _ _ _ fun e=>⟨(hm e).1,uj jB jH jH jH,by unfold fw;omega⟩
    ·have hm:=((rl h1 (St.j4 s1 ht)).pre (ns r)).post (jn _ (⟨#[59]⟩:TI));exact jY _ _ _ _ fun e=>⟨(hm e).1,vP jB ((hm e).2 _ jE),by unfold fw;omega⟩
   ·exact JK h ht he _
def KX(h:r.Inv)(ht:la r.l):Made r (oi r).1 [(oi r).2] (fun k=>k=18):=(Jo _).1 r h ht jB
-- functions
structure qP(f:bg):Prop where
 ps:∀p∈f.params,1<=p.ty/\p.ty<=4
 ret:0<=f.ret/\f.ret<=4
def QF(w:TI):0<=sN w/\sN w<=4:=by
 unfold sN;repeat' split
 all_goals omega
def DP(r:Rd):Still r (iP r).1:=by
 unfold iP;split
 ·exact yL r jC
 ·exact ns r
def IW(he:(iP r).1.e=0):1<=(iP r).2/\(iP r).2<=4:=by
 unfold iP at he ⊢;split
 ·rename_i h;rw[if_pos h]at he;exact(Rd.gO jC he).elim
 ·have:=QF r.word;simp only;omega
theorem Iy:∀(n:Nat) (b:Bool) (r:Rd) (L:List bK),Still r (mq n b r L).1/\((mq n b r L).1.e=0->(∀p∈L,1<=p.ty/\p.ty<=4)->∀p∈(mq n b r L).2,1<=p.ty/\p.ty<=4)
 |0,_,r,L=>by unfold mq;exact⟨.refl r,fun _ h=>h⟩
 |n+1,false,r,L=>by unfold mq;exact⟨.refl r,fun _ h=>h⟩
 |n+1,true,r,L=>by
  have st:Still r (pz r):=(u0 r).trans (DP _);have hL:(pz r).e=0->(∀p∈L,1<=p.ty/\p.ty<=4)->∀p∈L++[⟨r.name.2,(iP r.name.1).2⟩],1<=p.ty/\p.ty<=4:=fun e h p hp=>by
   rcases List.mem_append.1 hp with hp|hp
   ·exact h p hp
   ·rw[List.mem_singleton.1 hp];exact IW e
  unfold mq;split
  ·obtain⟨a,b⟩:=Iy n true (pz r).inc (L++[⟨r.name.2,(iP r.name.1).2⟩]);exact⟨st.trans ((ns _).trans a),fun e h=>b e (hL (a.err e) h)⟩
  ·exact⟨st,hL⟩
def Ks(h:r.Inv)(ht:la r.l):Made r (mz r).1 [(mz r).2.body] (fun k=>k=18)/\((mz r).1.e=0->qP (mz r).2):=by
 have h1:=(qp h).1.inv h;have h2:=(zb h).inv h1;obtain⟨a,b⟩:=Iy ((mR r).rem+2) (more (mR r)) (mR r) [];have stA:Still r (mR r):=((jn r (⟨#[102,110]⟩:TI)).trans (u0 _)).trans (jn _ _);have xp:Still r (lA r):=(stA.trans a).trans (jn _ _);have stD:Still (lA r) (l6 r).1:=by
  unfold l6;split
  ·exact .refl _
  ·exact DP _
 have hb:=KX h2 (by rw[(xp.trans stD).l];exact ht);refine⟨hb.pre (xp.trans stD),fun e=>?_⟩;have e2:(l6 r).1.e=0:=pT (Cu h2) e;have e1:(lA r).e=0:=stD.err e2;have e0:(rW r).1.e=0:=(jn _ _).err e1;refine⟨b e0 (fun p hp=>by simp at hp),?_⟩;show 0<=(l6 r).2/\(l6 r).2<=4;unfold l6 at e2 ⊢;split
 ·simp
 ·rename_i hc;rw[if_neg hc]at e2;have:=IW e2;omega
theorem DB:∀(n:Nat) (r0 r:Rd) (L:List bg),r.Inv->la r.l->Made r0 r (L.map (·.body)) (fun k=>k=18)->(r.e=0->∀f∈L,qP f)->
  Made r0 (p6 n r L).1 ((p6 n r L).2.map (·.body)) (fun k=>k=18)/\((p6 n r L).1.e=0->∀f∈(p6 n r L).2,qP f)
 |0,r0,r,L,h,ht,hm,hf=>by unfold p6;exact⟨hm,hf⟩
 |n+1,r0,r,L,h,ht,hm,hf=>by
  unfold p6;split
  ·have s1:=(F8 h).1;obtain⟨a,b⟩:=Ks h ht;refine DB n r0 _ _ (s1.inv h) (St.j4 s1 ht) ?_ fun e f Yx=>?_
   ·rw[List.map_append];exact hm.both a (pT s1)
   ·rcases List.mem_append.1 Yx with h'|h'
    ·exact hf (pT s1 e) f h'
    ·rw[List.mem_singleton.1 h'];exact b e
  ·exact⟨hm,hf⟩
structure aR(t:aH):Prop where
 chain:aL t.nodes 0 (t.aw.map (·.body)) t.nodes.length
 shape:∀k,k<t.nodes.length->Shape t.nodes (nth t.nodes k)/\(∀a∈(nth t.nodes k).l,0<=a/\a.toNat<k)/\∃lo,aL t.nodes lo (nth t.nodes k).l k
 body:∀f∈t.aw,bW t.nodes f.body=18
 fn:∀f∈t.aw,qP f/\f.params.length<=3
 many:t.nodes.length<=300
 aw:t.aw.length<=6
variable{s:TI}
def Po{a:Nat}(h:(oO s a).2.2=0):(oO s a).1.size<=12:=by
 unfold oO at h ⊢;simp only at h ⊢;split at h<;>rename_i h1
 ·rw[if_pos h1];split at h<;>rename_i h2
  ·cases h
  ·rw[if_neg h2];simp only[ByteArray.size_extract];omega
 ·cases h
def Lz{a:Nat}(h:(ie s a).2.2=0)(hk:(ie s a).1.kind=2):(ie s a).1.text.size<=12:=by
 unfold ie at h hk ⊢;split at h<;>rename_i h1
 ·rw[if_pos h1]at hk ⊢;split at h<;>rename_i h2
  ·rw[if_pos h2]at hk;cases hk
  ·cases h
 rw[if_neg h1]at hk ⊢;split at h<;>rename_i h2
 ·rw[if_pos h2]at hk ⊢;split at h<;>rename_i h3
  ·rw[if_pos h3]at hk;cases hk
  ·rw[if_neg h3]at hk ⊢;split at h<;>rename_i h4
   ·cases h
   ·rw[if_neg h4]at hk;cases hk
 rw[if_neg h2]at hk ⊢;split at h<;>rename_i h3
 ·rw[if_pos h3]at hk ⊢;exact Po h
 ·rw[if_neg h3]at hk;split at h<;>rename_i h4
  ·cases h
  ·rw[if_neg h4]at hk;cases hk
theorem EP(s:TI):∀(n i:Nat) (out:List cz),(lK s n i out).2.2=0->(∀t∈out,t.kind=2->t.text.size<=12)->∀t∈(lK s n i out).1,t.kind=2->t.text.size<=12
 |0,i,out,he,ho=>by unfold lK;exact ho
 |n+1,i,out,he,ho=>by
  unfold lK at he ⊢;split at he<;>rename_i hi
  ·rw[if_pos hi];split at he<;>rename_i h3
   ·rw[if_pos h3];refine EP s n _ _ he fun t ht=>?_
    rcases List.mem_append.1 ht with ht|ht
    ·exact ho t ht
    ·rw[List.mem_singleton.1 ht];exact Lz h3
   ·exact(h3 he).elim
  ·rw[if_neg hi];intro t ht;rcases List.mem_append.1 ht with ht|ht
   ·exact ho t ht
   ·rw[List.mem_singleton.1 ht];intro h;cases h
def Of(he:(kR s).2.2=0):la (od s).l:=by
 have:∀t∈(kR s).1,t.kind=2->t.text.size<=12:=by
  unfold kR at he ⊢;split at he<;>rename_i h
  ·cases he
  ·rw[if_neg h];exact EP s _ _ _ he (fun t ht=>by simp at ht)
 intro k hk;exact this _ (fg hk)
def uL(h:(gQ s).2.2=0):aR (gQ s).1:=by
 unfold gQ at h ⊢;split at h<;>rename_i h1
 ·exact(h1 h).elim
 rw[if_neg h1];split at h<;>rename_i h2
 ·exact(h2 h).elim
 rw[if_neg h2];split at h<;>rename_i h3
 ·cases h
 rw[if_neg h3];have he:(kR s).2.2=0:=jB;have hf:(nG s).1.e=0:=jB;obtain⟨a,b⟩:=DB ((od s).rem+1) (od s) (od s) [] (II he) (Of he) (Made.nil _ _) (fun _ f hf=>by simp at hf);obtain⟨a1,a2⟩:=a hf;simp only[tW,Bool.or_eq_true,decide_eq_true_eq,not_or,List.any_eq_true,not_exists,not_and]at h3;refine⟨a1.chain,fun k hk=>a1.shape k (Nat.zero_le _) hk,fun f hf=>a2 _ (List.mem_map.2 ⟨f,hf,rfl⟩),fun f hff=>⟨b hf f hff,by have:=h3.2 f hff;omega⟩,by show(nG s).1.nodes.length<=300;omega,by show(nG s).2.length<=6;omega⟩
structure Ck where
 aa:aH
 types:List Int
 slots:List Int
 aw:List Int
 aP:List Int
 fn:Int
 vars:List bD
 more:List bD
 size:Int
 e:Int
 at_:Int
 deriving Inhabited
def je{α:Type}(f:α->TI)(name:TI):List α->Int->Int
 |[],_=>-1
 |v::l,i=>if f v=name then i else je f name l (i+1)
def jt{α:Type}(f:α->TI)(name:TI):List α->Int->Int->Int
 |[],_,k=>k
 |v::l,i,k=>jt f name l (i+1) (if f v=name then i else k)
def lO(sign:TI)(a b:Int):Int:=
 if a≠b then 0
 else if sign=(⟨#[124,124]⟩:TI)\/sign=(⟨#[38,38]⟩:TI)then(if a=2 then 2 else 0)
 else if sign=(⟨#[60]⟩:TI)\/sign=(⟨#[60,61]⟩:TI)then(if a=1 then 2 else 0)
 else if sign=(⟨#[61,61]⟩:TI)\/sign=(⟨#[33,61]⟩:TI)then(if a=1\/a=2\/a=3 then 2 else 0)
 else if sign=(⟨#[43]⟩:TI)then(if a=1\/a=3 then a else 0)
 else(if a=1 then 1 else 0)
namespace Ck
def node(c:Ck)(a:Int):br:=nth c.aa.nodes a.toNat
def aF(c:Ck)(a:Int)(i:Nat):Int:=nth (c.node a).l i
def aE(c:Ck)(e a:Int):Ck:=if c.e=0 then{ c with e:=e,at_:=a }else c
def av(c:Ck)(ok:Bool)(a:Int):Ck:=if ok=true then c else c.aE 42 a
def find(c:Ck)(name:TI):Int:=je bD.name name c.vars 0
def slot(c:Ck)(a s:Int):Ck:={ c with slots:=c.slots.set a.toNat s }
def named(c:Ck)(a:Int):Ck×Int:=
 if c.find (c.node a).name<0 then(c.aE 40 a,0)
 else(c.slot a (nth c.vars (c.find (c.node a).name).toNat).slot,(nth c.vars (c.find (c.node a).name).toNat).ty)
def note(c:Ck)(a t:Int):Ck:={ c with types:=c.types.set a.toNat t,aw:=c.aw.set a.toNat c.fn }
def ai(c:Ck)(a:Int):Ck:={ c with aw:=c.aw.set a.toNat c.fn }
end Ck
def gv(ex:Ck->Int->Ck×Int):Ck->TG->TG->Ck×TG
 |c,[],ts=>(c,ts)
 |c,a::l,ts=>if c.e=0 then gv ex (ex c a).1 l (ts++[(ex c a).2])else(c,ts)
def iv(a:Int):Ck->TG->List bK->Ck
 |c,t::ts,p::ps=>if c.e=0 then iv a (c.av (decide (t=p.ty)) a) ts ps else c
 |c,_,_=>c
def fK(c:Ck)(a:Int):Int:=jt bg.name (c.node a).name c.aa.aw 0 (-1)
def iS(ex:Ck->Int->Ck×Int)(c:Ck)(a:Int):Ck×Int:=
 if fK c a<0 then(c.aE 40 a,0)
 else
  let f:=nth c.aa.aw (fK c a).toNat
  let p:=gv ex c (c.node a).l []
  let c1:=if(c.node a).l.length≠f.params.length then p.1.aE 43 a else p.1
  (iv a c1 p.2 f.params,f.ret)
def cr(ex:Ck->Int->Ck×Int)(c:Ck)(a:Int):Ck×Int:=
 let k:=(c.node a).kind
 if k=1\/k=19 then(c,1)
 else if k=2 then(c,2)
 else if k=3 then(c,3)
 else if k=4 then c.named a
 else if k=21 then iS ex c a
 else if k=5 then
  let p:=c.named a
  let x:=ex p.1 (c.aF a 0)
  (x.1.av (decide (p.2=4) && decide (x.2=1)) a,1)
 else if k=9 then
  let x:=ex c (c.aF a 0)
  let y:=ex x.1 (c.aF a 1)
  let t:=lO (c.node a).name x.2 y.2
  (y.1.av (!decide (t=0)) a,t)
 else
  let x:=ex c (c.aF a 0)
  if k=6 then(x.1.av (decide (x.2=3) || decide (x.2=4)) a,1)
  else if k=7 then(x.1.av (decide (x.2=1)) a,1)
  else if k=8 then(x.1.av (decide (x.2=2)) a,2)
  else(x.1.av (decide (x.2=1)) a,4)
def az:Nat->Ck->Int->Ck×Int
 |0,c,_=>(c,0)
 |n+1,c,a=>if c.e≠0 then(c,0)else((cr (az n) c a).1.note a (cr (az n) c a).2,(cr (az n) c a).2)
def o5(ex:Ck->Int->Ck×Int)(c:Ck)(a:Int):Ck:=
 let x:=ex c (c.aF a 0)
 let c1:=x.1.av (!decide (x.2=0)) a
 let c2:=if 0<=c1.find (c.node a).name then c1.aE 41 a else c1
 let c3:=if 24<=c2.size then c2.aE 4 a else c2
 { (c3.slot a c3.size)with vars:=c3.vars++[⟨(c.node a).name,x.2,c3.size⟩],more:=c3.more.drop 1,size:=c3.size+1 }
def kH(ex:Ck->Int->Ck×Int)(c:Ck)(a:Int):Ck:=
 let ret:=(nth c.aa.aw c.fn.toNat).ret
 let l:=(c.node a).l
 if decide (l.length=1)≠(!decide (ret=0))then c.aE 43 a
 else if l.length=1 then
  let x:=ex c (c.aF a 0)
  x.1.av (decide (x.2=ret)) a
 else c
def dK(st:Ck->Int->Ck):Ck->TG->Ck
 |c,[]=>c
 |c,a::l=>if c.e=0 then dK st (st c a) l else c
def fl(st:Ck->Int->Ck)(c:Ck)(a:Int):Ck:=
 let c1:=dK st (c.ai a) (c.node a).l
 { c1 with vars:=c1.vars.take (min c.vars.length c1.vars.length),more:=c1.vars.drop (min c.vars.length c1.vars.length)++c1.more }
def bP:Nat->Ck->Int->Ck
 |0,c,_=>c
 |n+1,c0,a=>
  let c:=c0.ai a
  let k:=(c.node a).kind
  if k=10 then o5 (az n) c a
  else if k=11 then
   let p:=c.named a
   let x:=az n p.1 (c.aF a 0)
   x.1.av (decide (p.2=x.2)) a
  else if k=12 then
   let p:=c.named a
   let x:=az n p.1 (c.aF a 0)
   let y:=az n x.1 (c.aF a 1)
   y.1.av (decide (p.2=4) && decide (x.2=1) && decide (y.2=1)) a
  else if k=13 then(az n c (c.aF a 0)).1
  else if k=14 then
   let x:=az n c (c.aF a 0)
   x.1.av (!decide (x.2=4)) a
  else if k=17 then kH (az n) c a
  else
   let x:=az n c (c.aF a 0)
   dK (fl (bP n)) (x.1.av (decide (x.2=2)) a) ((c.node a).l.drop 1)
def fy(body:Int):Ck->List bK->Int->Ck
 |c,[],_=>c
 |c,p::ps,i=>
  let c1:=if 0<=c.find p.name then c.aE 41 body else c
  fy body { c1 with vars:=c1.vars++[⟨p.name,p.ty,i⟩],more:=c1.more.drop 1,size:=c1.size+1 } ps (i+1)
def gM(c:Ck)(k:Nat):Ck:=
 let f:=nth c.aa.aw k
 let c1:=fy f.body { c with fn:=k,vars:=[],more:=[],size:=0 } f.params 0
 let c2:=if c1.e=0 then fl (bP c.aa.nodes.length) c1 f.body else c1
 { c2 with aP:=c2.aP++[c2.size],vars:=[],more:=[] }
def kN(x:bg):Ck->List bg->Ck
 |c,[]=>c
 |c,f::l=>kN x (if f.name=x.name then c.aE 41 x.body else c) l
def wc(f:bg):Bool:=decide (f.name=(⟨#[109,97,105,110]⟩:TI)) && decide ((f.params.length:Int)=0) && decide (f.ret=0)
def j8(aw:List bg):Ck->Bool->Nat->Nat->Ck×Bool
 |c,m,_,0=>(c,m)
 |c,m,i,n+1=>j8 aw (kN (nth aw i) c (aw.take i)) (m || wc (nth aw i)) (i+1) n
def iZ(c:Ck):Ck:=
 let p:=j8 c.aa.aw c false 0 c.aa.aw.length
 if p.2=true then p.1 else p.1.aE 44 0
def gB:Ck->Nat->Nat->Ck
 |c,_,0=>c
 |c,i,n+1=>if c.e=0 then gB (gM c i) (i+1) n else c
def jr(t:aH):Ck:=⟨t,t.nodes.map fun _=>0,t.nodes.map fun _=>-1,t.nodes.map fun _=>0,[],0,[],[],0,0,0⟩
def ja(t:aH):Ck:=gB (iZ (jr t)) 0 t.aw.length
def lc:af:=⟨⟨[],[]⟩,[],[],[],[]⟩
def Ck.prog(c:Ck):af:=⟨c.aa,c.types,c.slots,c.aw,c.aP⟩
def iq(t:aH):af×Int×Int:=if(ja t).e≠0 then(lc,(ja t).at_,(ja t).e)else((ja t).prog,0,0)
def fX(s:TI):af×Int×Int:=
 if(gQ s).2.2≠0 then(lc,(gQ s).2.1,(gQ s).2.2)
 else
  let q:=iq (gQ s).1
  if q.2.2=44 then(lc,0,44)
  else if q.2.2≠0 then(lc,(nth (gQ s).1.nodes q.2.1.toNat).cM,q.2.2)
  else(q.1,0,0)
def eR(slots:List aj)(k t:Int):aj:=
 if k<0\/(slots.length:Int)<=k then vZ t
 else if lQ (nth slots k.toNat)=true/\(nth slots k.toNat).ty=t then nth slots k.toNat else vZ t
end Go.Gd
namespace Go.Proofs.YtjpcgmjaipfgdaaGreatDoor
open Go Go.Gd Tryz
abbrev rI(n:Int):AV:=.raw (.int .i64 n)
abbrev rU(n:Int):AV:=.raw (.int .u8 n)
abbrev rS(s:TI):AV:=.raw (.string s)
abbrev rB(b:Bool):AV:=.raw (.bool b)
def xv(n:Int):aB prog 184 [rU n] (rB (j7 n)):=by
 refine bG func184 ntmps184 ?_
 (repeat' (first|refine aq fun K hK=>?_|refine ap ?_|(refine hK _ _ ?_;clear hK K)|(refine ao ?_ ?_<;>intro hc<;>try exact jz)|refine ar ?_|exact jI|(clear hK K)))
 (refine bV [.tmp 2] ?_ ?_<;>(try simp only[go_sem]))
 rfl
def Ap(n:Int):aB prog 186 [rU n] (rB (wy n)):=by
 refine bG func186 ntmps186 ?_
 (repeat' (first|refine aq fun K hK=>?_|refine ap ?_|(refine hK _ _ ?_;clear hK K)|(refine ao ?_ ?_<;>intro hc<;>try exact jz)|refine ar ?_|exact jI|(clear hK K)))
 (refine bV [.tmp 2] ?_ ?_<;>(try simp only[go_sem]))
 rfl
def R3(s:TI):aB prog 185 [rS s] (rB (ww s)):=by
 refine bG func185 ntmps185 ?_
 (repeat' (first|refine aq fun K hK=>?_|refine ap ?_|(refine hK _ _ ?_;clear hK K)|(refine ao ?_ ?_<;>intro hc<;>try exact jz)|refine ar ?_|exact jI|(clear hK K)))
 (refine bV [.tmp 2] ?_ ?_<;>(try simp only[go_sem]))
 rfl
def L9(s:TI)(at_:Int)(hs:s.size<=1000000):aB prog 190 [rS s,rI at_] (rI (pg s (min s.size at_.toNat))):=by
 refine bG func190 ntmps190 ?_
 (repeat' (first|refine aq fun K hK=>?_|refine ap ?_|(refine hK _ _ ?_;clear hK K)|(refine ao ?_ ?_<;>intro hc<;>try exact jz)|refine ar ?_|exact jI|(clear hK K)))
 have TX:=hK;clear hK;refine dV (S:=Nat) [(5,19)] (fun k=>k<=s.size/\k<=at_.toNat) (fun k=>[(5,rI (pg s k)),(6,rI k)]) (fun _=>⟨[],[]⟩) (fun k=>s.size-k) 0 jB (dS rfl (by simp only[go_sem,lb,Nat.reduceAdd,AV.raw.injEq,Value.int.injEq,Value.slice.injEq,Value.pointer.injEq,AV.rs.injEq,pg];try omega)) ?_;rintro k ⟨Ue,TY⟩ Kr TR;have hb:=EX s k;refine S ?_
 (repeat' (first|refine aq fun K hK=>?_|refine ap ?_|(refine hK _ _ ?_;clear hK K)|(refine ao ?_ ?_<;>intro hc<;>try exact jz)|refine TX _ _ ?_|refine ar ?_|exact jI|(clear hK K)))
 ·refine TR _ _ (eu (k+1) jB jJ rfl (by simp only[pg,if_pos hc];exact cv))
 ·refine TR _ _ (eu (k+1) jB jJ rfl (by simp only[pg,if_neg hc];exact cv))
 ·(refine bV [.tmp 4] ?_ ?_<;>(try simp only[go_sem]))
  rw[show min s.size at_.toNat=k from jB]
def Rn{s:TI}(h:∀j,j<fU.length->nth fU j≠s):uW s=false:=by unfold uW;rw[List.any_eq_false];intro x hm;obtain⟨j,hj,rfl⟩:=List.getElem_of_mem hm;have:=h j hj;rw[fP hj]at this;simp[this]
def M9{s:TI}{k:Nat}(hk:k<fU.length)(h:nth fU k=s):uW s=true:=by unfold uW;rw[List.any_eq_true];exact⟨fU[k],List.getElem_mem hk,by rw[fP hk]at h;simp[h]⟩
def NK(s:TI):aB prog 187 [rS s] (rB (uW s)):=by
 refine bG func187 ntmps187 ?_
 (repeat' (first|refine aq fun K hK=>?_|refine ap ?_|(refine hK _ _ ?_;clear hK K)|(refine ao ?_ ?_<;>intro hc<;>try exact jz)|refine ar ?_|exact jI|(clear hK K)))
 have TX:=hK;clear hK;refine dV (S:=Nat) [(2,1),(4,1),(6,12)] (fun k=>k<=16/\∀j,j<k->nth fU j≠s) (fun k=>[(3,.sl true 1 (fU.map eS) []),(4,rI k)]) (fun _=>⟨[],[]⟩) (fun k=>16-k) 0 ⟨jB,fun j h=>jB⟩ (dS rfl (by(repeat' (first|exact jI|exact Or.inr rfl|exact Or.inl rfl|refine jA ?_ ?_)))) ?_;rintro k ⟨Ue,TY⟩ Kr TR;have hl:=Om;refine S ?_
 (repeat' (first|refine aq fun K hK=>?_|refine ap ?_|(refine hK _ _ ?_;clear hK K)|(refine ao ?_ ?_<;>intro hc<;>try exact jz)|refine TX _ _ ?_|refine ar ?_|exact jI|(clear hK K)))
 ·(refine bV [.tmp 2] ?_ ?_<;>(try simp only[go_sem]))
  rw[M9 jB hc]
 ·refine TR _ _ (eu (k+1) ⟨jB,fun j hj=>?_⟩ jJ rfl cv);by_cases e:j=k
  ·subst e;exact hc
  ·exact TY j jB
 ·(refine bV [.tmp 2] ?_ ?_<;>(try simp only[go_sem]))
  rw[Rn fun j hj=>TY j jB]
def Dw(s:TI)(i:Nat)(hs:s.size<=1000000)(hi:i<=s.size):aB prog 142 [rS s,rI i] (rI (ov s i:Nat)):=by
 refine bG func142 ntmps142 ?_
 (repeat' (first|refine aq fun K hK=>?_|refine ap ?_|(refine hK _ _ ?_;clear hK K)|(refine ao ?_ ?_<;>intro hc<;>try exact jz)|refine ar ?_|exact jI|(clear hK K)))
 have TX:=hK;clear hK;refine dV (S:=Nat) [(1,1),(4,54)] (fun k=>k<=s.size/\ov s k=ov s i) (fun k=>[(1,rI k)]) (fun _=>⟨[],[]⟩) (fun k=>s.size-k) i ⟨hi,rfl⟩ (dS rfl cv) ?_;rintro k ⟨Ue,TY⟩ Kr TR;refine S ?_
 (repeat' (first|refine aq fun K hK=>?_|refine ap ?_|(refine hK _ _ ?_;clear hK K)|(refine ao ?_ ?_<;>intro hc<;>try exact jz)|refine TX _ _ ?_|refine ar ?_|exact jI|(clear hK K)))
 ·have P':mh s k=some (k+1):=by
   unfold mh;rw[jP,if_pos];simp[xP];omega
  refine TR _ _ (eu (k+1) ⟨jB,by rw[<-TY,HQ P']⟩ jJ rfl cv)
 ·have P':mh s k=some (iJ tf s k):=by
   unfold mh;rw[jP,if_neg (by simp[xP];omega),if_pos];simp[zz];exact⟨⟨hc.1.1,jB⟩,hc.2⟩
  have O':=yZ P';have hKi:=hK;clear hK;refine dV (S:=Nat) [(1,1),(45,12)] (fun m=>k<=m/\m<=s.size/\∀j,k<=j->j<m->tf (eG s j)=true) (fun m=>[(1,rI m)]) (fun _=>⟨[],[]⟩) (fun m=>s.size-m) k ⟨jB,jB,fun j h1 h2=>jB⟩ (dS rfl cv) ?_;rintro m ⟨V9,VA,UZ⟩ Kj Zv;refine S ?_
  (repeat' (first|refine aq fun K hK=>?_|refine ap ?_|(refine hK _ _ ?_;clear hK K)|(refine ao ?_ ?_<;>intro hc<;>try exact jz)|refine hKi _ _ ?_|refine ar ?_|exact jI|(clear hK K)))
  ·refine Zv _ _ (eu (m+1) ⟨jB,jB,fun j h1 h2=>?_⟩ jJ rfl cv);by_cases e:j=m
   ·subst e;simp only[tf,decide_eq_true_eq];exact hc.2
   ·exact UZ j h1 jB
  ·have e:iJ tf s k=m:=y7 (by simp only[tf,decide_eq_true_eq];omega) V9 VA UZ;rw[e]at P' O';refine TR _ _ (eu m ⟨jB,by rw[<-TY,HQ P']⟩ jJ rfl cv)
 ·(refine bV [.tmp 4] ?_ ?_<;>(try simp only[go_sem]))
  rw[<-TY,Hr];unfold mh;rw[jP,if_neg (by simp[xP];omega),if_neg];simp[zz];omega
 ·(refine bV [.tmp 4] ?_ ?_<;>(try simp only[go_sem]))
  rw[<-TY,Hr];unfold mh;rw[jN]
def Od(s:TI)(a:Nat)(hs:s.size<=1000000)(ha:a<s.size):aB prog 188 [rS s,rI a] (.aQ [rS (oO s a).1,rI (oO s a).2.1,rI (oO s a).2.2]):=by
 refine bG func188 ntmps188 ?_
 (repeat' (first|refine aq fun K hK=>?_|refine ap ?_|(refine hK _ _ ?_;clear hK K)|(refine ao ?_ ?_<;>intro hc<;>try exact jz)|refine ar ?_|exact jI|(clear hK K)))
 have TX:=hK;clear hK;refine dV (S:=Nat) [(7,1),(10,24)] (fun m=>a+1<=m/\m<=s.size/\∀j,a+1<=j->j<m->tO (eG s j)=true) (fun m=>[(7,rI m)]) (fun _=>⟨[],[]⟩) (fun m=>s.size-m) (a+1) ⟨jB,jB,fun j h1 h2=>jB⟩ (dS rfl cv) ?_;rintro m ⟨V9,VA,UZ⟩ Kr TR;refine S ?_
 (repeat' (first|refine aq fun K hK=>?_|refine ap ?_|(refine hK _ _ ?_;clear hK K)|(refine ao ?_ ?_<;>intro hc<;>try exact jz)|refine TX _ _ ?_|refine ar ?_|exact jI|(clear hK K)))
 ·refine TR _ _ (eu (m+1) ⟨jB,jB,fun j h1 h2=>?_⟩ jJ rfl cv);by_cases e:j=m
  ·subst e;simp only[tO,Bool.and_eq_true,decide_eq_true_eq];exact⟨⟨hc.1.1.2,hc.1.2⟩,hc.2⟩
  ·exact UZ j h1 jB
 all_goals have e:iJ tO s (a+1)=m:=y7 (by simp only[tO,Bool.and_eq_true,decide_eq_true_eq];omega) V9 VA UZ
 ·(refine bV [.tmp 4,.tmp 5,.tmp 6] ?_ ?_<;>(try simp only[go_sem]))
  simp only[oO,e];rw[jN]
 ·(refine bV [.tmp 4,.tmp 5,.tmp 6] ?_ ?_<;>(try simp only[go_sem]))
  simp only[oO,e];rw[jP,jP]
 ·(refine bV [.tmp 4,.tmp 5,.tmp 6] ?_ ?_<;>(try simp only[go_sem]))
  simp only[oO,e];rw[jP,jN]
def PN:jc.length=5:=rfl
def LD(s:TI)(hs:0<s.size)(hs2:s.size<=1000000):aB prog 189 [rS s] (rS (nO s)):=by
 refine bG func189 ntmps189 ?_
 (repeat' (first|refine aq fun K hK=>?_|refine ap ?_|(refine hK _ _ ?_;clear hK K)|(refine ao ?_ ?_<;>intro hc<;>try exact jz)|refine ar ?_|exact jI|(clear hK K)))
 have TX:=hK;clear hK;refine dV (S:=Nat) [(2,1),(4,1),(8,22)] (fun k=>k<=5/\∀j,j<k->qa s (nth jc j)=false) (fun k=>[(3,.sl true 1 (jc.map eS) []),(4,rI k)]) (fun _=>⟨[],[]⟩) (fun k=>5-k) 0 ⟨jB,fun j h=>jB⟩ (dS rfl (by(repeat' (first|exact jI|exact Or.inr rfl|exact Or.inl rfl|refine jA ?_ ?_)))) ?_;rintro k ⟨Ue,TY⟩ Kr TR;have hl:=PN;refine S ?_
 (repeat' (first|refine aq fun K hK=>?_|refine ap ?_|(with_reducible refine gR 5 ?_);refine dE 5 (aW 0 12) mixed ?_|(refine hK _ _ ?_;clear hK K)|(refine ao ?_ ?_<;>intro hc<;>try exact jz)|refine TX _ _ ?_|refine ar ?_|exact jI|(clear hK K)))
 ·(refine bV [.tmp 2] ?_ ?_<;>(try simp only[go_sem]))
  have:jc.find? (qa s)=some (nth jc k):=zC TY jB (by simp only[qa,Bool.and_eq_true,decide_eq_true_eq];exact hc);simp only[nO,this]
 ·refine TR _ _ (eu (k+1) ⟨jB,fun j hj=>?_⟩ jJ rfl cv);by_cases e:j=k
  ·subst e;simp only[qa,Bool.and_eq_false_iff,decide_eq_false_iff_not,Int.not_le];exact hc
  ·exact TY j jB
 ·have h2:jc.find? (qa s)=none:=C3 fun j hj=>TY j jB
  have TX:=hK;clear hK;have hos:iu.size=16:=rfl;refine dV (S:=Nat) [(2,1),(6,1),(30,17)] (fun k=>k<=16/\∀j,j<k->decide (eG s 0=eG iu (nth (List.range 16) j:Nat))=false) (fun k=>[(5,rS iu),(6,rI k)]) (fun _=>⟨[],[]⟩) (fun k=>16-k) 0 ⟨jB,fun j h=>jB⟩ (dS rfl (by(repeat' (first|exact jI|exact Or.inr rfl|exact Or.inl rfl|refine jA ?_ ?_)))) ?_;rintro m ⟨V9,VA⟩ Kj Zv;refine S ?_
  (repeat' (first|refine aq fun K hK=>?_|refine ap ?_|(with_reducible refine gR 11 ?_);refine dE 11 (aW 0 6) mixed ?_|(refine hK _ _ ?_;clear hK K)|(refine ao ?_ ?_<;>intro hc<;>try exact jz)|refine TX _ _ ?_|refine ar ?_|exact jI|(clear hK K)))
  ·(refine bV [.tmp 2] ?_ ?_<;>(try simp only[go_sem]))
   have h3:(List.range 16).find? (fun k:Nat=>decide (eG s 0=eG iu (k:Nat)))=some (nth (List.range 16) m):=zC VA jF (by rw[Cg jB];simpa using hc);simp only[nO,h2,h3];rw[Cg jB]
  ·refine Zv _ _ (eu (m+1) ⟨jB,fun j hj=>?_⟩ jJ rfl cv);by_cases e:j=m
   ·subst e;rw[Cg jB];simpa using hc
   ·exact VA j jB
  ·(refine bV [.tmp 2] ?_ ?_<;>(try simp only[go_sem]))
   have h3:(List.range 16).find? (fun k:Nat=>decide (eG s 0=eG iu (k:Nat)))=none:=C3 fun j hj=>VA j (by simp at hj;omega)
   simp only[nO,h2,h3]
def qA(t:cz×Int×Int):AV:=.aQ [.agg (ma t.1),rI t.2.1,rI t.2.2]
def Mx(s:TI)(a:Nat)(hs:s.size<=1000000)(ha:a<s.size):aB prog 143 [rS s,rI a] (qA (ie s a)):=by
 have hex:(s.extract a s.size).size=s.size-a:=by rw[ByteArray.size_extract];omega
 have TU:=Qs (s.extract a s.size);refine bG func143 ntmps143 ?_
 (repeat' (first|refine aq fun K hK=>?_|refine ap ?_|(refine hK _ _ ?_;clear hK K)|(refine ao ?_ ?_<;>intro hc<;>try exact jz)|refine cp (xv _) ?_|refine cp (Ap _) ?_|refine cp (Od s a hs ha) ?_|refine cp (LD _ jB jB) ?_|refine ar ?_|exact jI|(clear hK K)))
 ·have TX:=hK;clear hK;refine dV (S:=Nat) [(8,1),(20,12)] (fun m=>a<=m/\m<=s.size/\∀j,a<=j->j<m->j7 (eG s j)=true) (fun m=>[(8,rI m)]) (fun _=>⟨[],[(0,.var 248 (ma u6))]⟩) (fun m=>s.size-m) a ⟨jB,jB,fun j h1 h2=>jB⟩ (dS rfl cv) ?_;rintro m ⟨V9,VA,UZ⟩ Kr TR;refine S ?_
  (repeat' (first|refine aq fun K hK=>?_|refine ap ?_|(refine hK _ _ ?_;clear hK K)|(refine ao ?_ ?_<;>intro hc<;>try exact jz)|(first|refine cg (xv _) ?_|refine ug (xv _) ?_)|refine TX _ _ ?_|refine ar ?_|exact jI|(clear hK K)))
  ·refine TR _ _ (eu (m+1) ⟨jB,jB,fun j h1 h2=>?_⟩ jJ rfl cv);by_cases e:j=m
   ·subst e;exact hc.2
   ·exact UZ j h1 jB
  ·have hd:j7 (eG s a)=true:=by assumption
   have e:iJ j7 s a=m:=y7 (by rintro⟨h1,h2⟩;rcases hc with h|h;omega;rw[h2]at h;cases h) V9 VA UZ
   (repeat' (first|refine aq fun K hK=>?_|refine ap ?_|(refine hK _ _ ?_;clear hK K)|(refine ao ?_ ?_<;>intro hc<;>try exact jz)|refine cp (R3 _) ?_|refine ar ?_|exact jI|(clear hK K)))
   ·(refine aY [.cell 4 248,.tmp 5,.tmp 6] ?_;try simp only[go_sem])
    simp only[ie,hd,if_true,e,if_neg,hc,Bool.false_eq_true,if_false,qA,u6];rfl
   ·(refine aY [.cell 4 248,.tmp 5,.tmp 6] ?_;try simp only[go_sem])
    simp only[ie,hd,if_true,e,hc,qA];rfl
 ·have TX:=hK;clear hK;have Y0:j7 (eG s a)=false:=by assumption
  have T3:wy (eG s a)=true:=by assumption
  refine dV (S:=Nat) [(8,1),(49,24)] (fun m=>a<=m/\m<=s.size/\∀j,a<=j->j<m->oW (eG s j)=true) (fun m=>[(8,rI m)]) (fun _=>⟨[],[(0,.var 248 (ma u6))]⟩) (fun m=>s.size-m) a ⟨jB,jB,fun j h1 h2=>jB⟩ (dS rfl cv) ?_;rintro m ⟨V9,VA,UZ⟩ Kr TR;have hexm:(s.extract a m).size=m-a:=by rw[ByteArray.size_extract];omega
  refine S ?_
  (repeat' (first|refine aq fun K hK=>?_|refine ap ?_|(refine hK _ _ ?_;clear hK K)|(refine ao ?_ ?_<;>intro hc<;>try exact jz)|(first|refine cg (xv _) ?_|refine ug (xv _) ?_)|(first|refine cg (Ap _) ?_|refine ug (Ap _) ?_)|refine cp (NK _) ?_|refine TX _ _ ?_|refine ar ?_|exact jI|(clear hK K)))
  ·refine TR _ _ (eu (m+1) ⟨jB,jB,fun j h1 h2=>?_⟩ jJ rfl cv);by_cases e:j=m
   ·subst e;simp only[oW,Bool.or_eq_true,decide_eq_true_eq];exact hc.2
   ·exact UZ j h1 jB
  all_goals
   have WH:(s.size:Int)<=m\/(wy (eG s m)=false/\j7 (eG s m)=false)/\¬eG s m=95:=by assumption
   have e:iJ oW s a=m:=y7 (by
    simp only[oW,Bool.or_eq_true,decide_eq_true_eq];rintro⟨h1,h2⟩;rcases WH with h|⟨⟨h3,h4⟩,h5⟩
    ·omega
    ·rcases h2 with(h|h)|h
     ·rw[h]at h3;exact Bool.noConfusion h3
     ·rw[h]at h4;exact Bool.noConfusion h4
     ·exact h5 h) V9 VA UZ
  ·(refine aY [.cell 4 248,.tmp 5,.tmp 6] ?_;try simp only[go_sem])
   simp only[ie,Y0,T3,e,hc,Bool.false_eq_true,if_false,if_true,qA];rfl
  ·(refine aY [.cell 4 248,.tmp 5,.tmp 6] ?_;try simp only[go_sem])
   simp only[ie,Y0,T3,e, *,Bool.false_eq_true,if_false,if_true,qA];rw[jP];rfl
  ·(refine aY [.cell 4 248,.tmp 5,.tmp 6] ?_;try simp only[go_sem])
   simp only[ie,Y0,T3,e, *,Bool.false_eq_true,if_false,if_true,qA];rw[jN];rfl
 ·(refine aY [.cell 4 248,.tmp 5,.tmp 6] ?_;try simp only[go_sem])
  simp only[ie, *,Bool.false_eq_true,if_false,if_true,qA];rfl
 ·(refine aY [.cell 4 248,.tmp 5,.tmp 6] ?_;try simp only[go_sem])
  simp only[ie, *,Bool.false_eq_true,if_false,if_true,qA];rfl
 ·(refine aY [.cell 4 248,.tmp 5,.tmp 6] ?_;try simp only[go_sem])
  simp only[ie, *,Bool.false_eq_true,if_false,qA];rfl
attribute [go_sem] qA
def Ih(s:TI)(hs:s.size<=1000000):aB prog 101 [rS s] (.aQ [aO ma 3 (kR s).1,rI (kR s).2.1,rI (kR s).2.2]):=by
 refine bG func101 ntmps101 ?_
 (repeat' (first|refine aq fun K hK=>?_|refine ap ?_|(refine hK _ _ ?_;clear hK K)|(refine ao ?_ ?_<;>intro hc<;>try exact jz)|refine cp (Dw s 0 hs (Nat.zero_le _)) ?_|refine ar ?_|exact jI|(clear hK K)))
 ·refine fA [.tmp 2,.tmp 3,.tmp 4] ?_;simp only[kR,if_pos hc];refine bu.aQ ?_;exact iF
 ·have TX:=hK;clear hK;have h0:=vt (s:=s) (i:=0) (Nat.zero_le _);refine dV (S:=Nat×List cz) [(2,8),(16,22)] (fun p=>p.1<=s.size/\p.2.length<=p.1/\u7 s p.1 p.2=kR s) (fun p=>[(5,.rs 0 p.2.length 3 p.2.length),(6,rI p.1)]) (fun p=>⟨[],[(0,.aG 248 3 (p.2.map ma))]⟩) (fun p=>s.size-p.1) (ov s 0,[]) ⟨h0.2,Nat.zero_le _,by simp only[kR];rw[jN]⟩ (dS rfl cv) ?_;rintro⟨k,ts⟩ ⟨Ue,TY,WM⟩ Kr TR;simp only at Ue TY WM
  (refine S ?_;try exact jI)
  by_cases hk:k<s.size
  ·have T1:=yS (s:=s) (a:=k) hk
   (repeat' (first|refine aq fun K hK=>?_|refine ap ?_|(refine hK _ _ ?_;clear hK K)|(refine ao ?_ ?_<;>intro hc<;>try exact jz)|refine cp (Mx s k hs hk) ?_|refine ar ?_|exact jI|(clear hK K)))
   ·refine fA [.tmp 2,.tmp 3,.tmp 4] ?_;rw[<-WM,L5 hk (by assumption)];refine bu.aQ ?_;exact iF
   ·obtain⟨e,Wn,Yv,he3⟩:=T1 hc;have h4:=vt he3;rw[Wn]
    (repeat' (first|refine aq fun K hK=>?_|refine ap ?_|(refine hK _ _ ?_;clear hK K)|(refine ao ?_ ?_<;>intro hc<;>try exact jz)|refine cp (Dw s e hs he3) ?_|refine ar ?_|exact jI|(clear hK K)))
    refine TR _ _ (mV [1] (ov s e,ts++[(ie s k).1]) ⟨h4.2,by simp;omega,by rw[<-WM,P7 hk hc,Wn];simp⟩ jJ rfl Sd Sd iF)
  ·(repeat' (first|refine aq fun K hK=>?_|refine ap ?_|(refine hK _ _ ?_;clear hK K)|(refine ao ?_ ?_<;>intro hc<;>try exact jz)|refine TX _ _ ?_|refine ar ?_|exact jI|(clear hK K)))
   refine fA [.tmp 2,.tmp 3,.tmp 4] ?_;rw[<-WM,Ml hk];simp only[go_sem];refine bu.aQ ?_;refine jA ?_ (jA (.same _ rfl) (jA (.same _ rfl) trivial));refine cW.row (enc:=ma) (e:=248) (ts++[⟨0,⟨#[]⟩,s.size⟩]) ?_ ?_ ?_
   ·rfl
   ·(refine S ?_;try exact jI)
    rfl
   ·(refine S ?_;try exact jI)
def ii(r:Rd):TE:=[rS r.src,aO ma 3 r.l,rI r.i,.rs 1 r.nodes.length 5 r.nodes.length,rI r.deep,rI r.e,rI r.at_]
def cA(r:Rd):TD:=[(0,.var 177 (ii r)),(1,.aG 116 5 (r.nodes.map eF))]
attribute [go_sem] cA ii
abbrev pR:AV:=.pt 0 0 0 0
structure oF(r:Rd):Prop where
 src:r.src.size<=1000
 pos:0<=r.i
 lt:r.i<r.l.length
 len:r.l.length<=2000
 oZ:-1000<=r.deep
 pW:r.deep<=1000
 nodes:r.nodes.length<=100000
def bz{r:Rd}(h:r.Inv):oF r:=by have hp:=h.dI;unfold Rd.dI at hp;have:=h.lt;have:=h.oZ;have:=h.pW;exact⟨h.src,h.pos,h.lt,h.len,jB,jB,by split at hp<;>omega⟩
def ua(r:Rd)(e:Int)(h:oF r):ab prog 191 [pR,rI e] (cA r) (fun v l=>v=.aQ []/\l=cA (r.aE e)):=by
 obtain⟨h1,h2,h3,h4,h5,h6,h7⟩:=h;refine aM func191 ntmps191 ?_;simp only[cA,ii]
 (repeat' (first|refine aq fun K hK=>?_|refine ap ?_|(with_reducible refine gR 2 ?_);refine dE 2 (aW 0 15) mixed ?_|(refine hK _ _ ?_;clear hK K)|(refine ao ?_ ?_<;>intro hc<;>try exact jz)|refine ar ?_|exact jI|(clear hK K)))
 ·(refine bV [] ?_ ?_<;>(try simp only[go_sem]))
  simp only[Rd.aE,if_pos hc];rfl
 ·(refine bV [] ?_ ?_<;>(try simp only[go_sem]))
  simp only[Rd.aE,if_neg hc]
def gA(r:Rd)(t:TI)(h:oF r):ab prog 147 [pR,rS t] (cA r) (fun v l=>v=rB (r.is t)/\l=cA r):=by
 obtain⟨h1,h2,h3,h4,h5,h6,h7⟩:=h;refine aM func147 ntmps147 ?_;simp only[cA,ii]
 (repeat' (first|refine aq fun K hK=>?_|refine ap ?_|(with_reducible refine gR 1 ?_);refine dE 1 (aW 0 12) mixed ?_|(refine hK _ _ ?_;clear hK K)|(refine ao ?_ ?_<;>intro hc<;>try exact jz)|refine ar ?_|exact jI|(clear hK K)))
 (refine aY [.tmp 4] ?_;try simp only[go_sem])
 rfl
def wS(r:Rd)(k:Int)(h:oF r):ab prog 102 [pR,rI k] (cA r) (fun v l=>v=rB (r.kind k)/\l=cA r):=by
 obtain⟨h1,h2,h3,h4,h5,h6,h7⟩:=h;refine aM func102 ntmps102 ?_;simp only[cA,ii]
 (repeat' (first|refine aq fun K hK=>?_|refine ap ?_|(with_reducible refine gR 1 ?_);refine dE 1 (aW 0 21) mixed ?_|(refine hK _ _ ?_;clear hK K)|(refine ao ?_ ?_<;>intro hc<;>try exact jz)|refine ar ?_|exact jI|(clear hK K)))
 (refine aY [.tmp 4] ?_;try simp only[go_sem])
 rfl
def iL(r:Rd)(t:TI)(h:oF r):ab prog 145 [pR,rS t] (cA r) (fun v l=>v=.aQ []/\l=cA (r.av t)):=by
 have WS:=gA r t h;have hf:=ua r 20 h;obtain⟨h1,h2,h3,h4,h5,h6,h7⟩:=h;simp only[cA,ii]at WS hf;refine aM func145 ntmps145 ?_;simp only[cA,ii]
 (repeat' (first|refine aq fun K hK=>?_|refine ap ?_|(refine hK _ _ ?_;clear hK K)|(refine ao ?_ ?_<;>intro hc<;>try exact jz)|refine cm (WS) ?_|refine cm (hf) ?_|refine ar ?_|exact jI|(clear hK K)))
 ·(refine bV [] ?_ ?_<;>(try simp only[go_sem]))
  simp only[Rd.av,hc,Bool.false_eq_true,if_false,go_sem]
 ·(refine bV [] ?_ ?_<;>(try simp only[go_sem]))
  simp only[Rd.av,hc,if_true];rfl
def vY(r:Rd)(h:oF r):ab prog 146 [pR] (cA r) (fun v l=>v=rS r.name.2/\l=cA r.name.1):=by
 have WS:=wS r 3 h;have hf:=ua r 20 h;obtain⟨h1,h2,h3,h4,h5,h6,h7⟩:=h;simp only[cA,ii]at WS hf;refine aM func146 ntmps146 ?_;simp only[cA,ii]
 (repeat' (first|refine aq fun K hK=>?_|refine ap ?_|(with_reducible refine gR 6 ?_);refine dE 6 (aW 0 13) mixed ?_|(refine hK _ _ ?_;clear hK K)|(refine ao ?_ ?_<;>intro hc<;>try exact jz)|refine cm (WS) ?_|refine cm (hf) ?_|refine ar ?_|exact jI|(clear hK K)))
 ·(refine bV [.tmp 2] ?_ ?_<;>(try simp only[go_sem]))
  ·simp only[Rd.name,hc,Bool.false_eq_true,if_false]
  ·simp only[Rd.name,hc,Bool.false_eq_true,if_false,go_sem]
 ·(refine bV [.tmp 2] ?_ ?_<;>(try simp only[go_sem]))
  ·simp only[Rd.name,hc,if_true];rw[show r.i+1-1=r.i from jB];rfl
  ·simp only[Rd.name,hc,if_true];rfl
def gY(r:Rd)(h:oF r):ab prog 144 [pR] (cA r) (fun v l=>v=rI r.cM/\l=cA r):=by
 obtain⟨h1,h2,h3,h4,h5,h6,h7⟩:=h;refine aM func144 ntmps144 ?_;simp only[cA,ii]
 (repeat' (first|refine aq fun K hK=>?_|refine ap ?_|(with_reducible refine gR 1 ?_);refine dE 1 (aW 0 17) mixed ?_|(refine hK _ _ ?_;clear hK K)|(refine ao ?_ ?_<;>intro hc<;>try exact jz)|refine cp (L9 _ _ jB) ?_|refine ar ?_|exact jI|(clear hK K)))
 (refine bV [.tmp 2] ?_ ?_<;>(try simp only[go_sem]))
 rfl
def wY(r:Rd)(k ln n:Int)(nm:TI)(L:TG)(h:oF r):ab prog 196 [pR,rI k,rI ln,rI n,rS nm,aO eI 1 L] (cA r) (fun v l=>v=rI (r.put k ln n nm L).2/\l=cA (r.put k ln n nm L).1):=by
 obtain⟨h1,h2,h3,h4,h5,h6,h7⟩:=h;refine aM func196 ntmps196 ?_;simp only[cA,ii]
 (repeat' (first|refine aq fun K hK=>?_|refine ap ?_|(refine hK _ _ ?_;clear hK K)|(refine ao ?_ ?_<;>intro hc<;>try exact jz)|refine ar ?_|exact jI|(clear hK K)))
 (refine bV [.tmp 12] ?_ ?_<;>(try simp only[go_sem]))
 ·simp only[Rd.put];exact RG jB
 ·simp only[Rd.put,Rd.node,List.map_append,List.length_append,List.length_cons,List.length_nil];rfl
def uu(r:Rd)(h:oF r):ab prog 194 [pR] (cA r) (fun v l=>v=.aQ []/\l=cA r.down):=by
 have hf:=ua r 21 h;obtain⟨h1,h2,h3,h4,h5,h6,h7⟩:=h;simp only[cA,ii]at hf;refine aM func194 ntmps194 ?_;simp only[cA,ii]
 (repeat' (first|refine aq fun K hK=>?_|refine ap ?_|(refine hK _ _ ?_;clear hK K)|(refine ao ?_ ?_<;>intro hc<;>try exact jz)|refine cm (hf) ?_|refine ar ?_|exact jI|(clear hK K)))
 ·(refine bV [] ?_ ?_<;>(try simp only[go_sem]))
  simp only[Rd.down,if_pos hc,go_sem]
 ·(refine bV [] ?_ ?_<;>(try simp only[go_sem]))
  simp only[Rd.down];rw[jN]
def qH(r:Rd)(h:oF r):ab prog 192 [pR] (cA r) (fun v l=>v=rS r.word/\l=cA r):=by
 have WS:=wS r 4 h;obtain⟨h1,h2,h3,h4,h5,h6,h7⟩:=h;simp only[cA,ii]at WS;refine aM func192 ntmps192 ?_;simp only[cA,ii]
 (repeat' (first|refine aq fun K hK=>?_|refine ap ?_|(with_reducible refine gR 3 ?_);refine dE 3 (aW 0 12) mixed ?_|(refine hK _ _ ?_;clear hK K)|(refine ao ?_ ?_<;>intro hc<;>try exact jz)|refine cm (WS) ?_|refine ar ?_|exact jI|(clear hK K)))
 ·(refine bV [.tmp 2] ?_ ?_<;>(try simp only[go_sem]))
  simp only[Rd.word,hc,if_true];rfl
 ·(refine bV [.tmp 2] ?_ ?_<;>(try simp only[go_sem]))
  simp only[Rd.word,hc,Bool.false_eq_true,if_false]
def KY(r:Rd)(h:oF r)(hn:r.kind 3=true->r.i+1<r.l.length):ab prog 254 [pR] (cA r) (fun v l=>v=rB r.calls/\l=cA r):=by
 have WS:=wS r 3 h;obtain⟨h1,h2,h3,h4,h5,h6,h7⟩:=h;simp only[cA,ii]at WS;refine aM func254 ntmps254 ?_;simp only[cA,ii]
 (repeat' (first|refine aq fun K hK=>?_|refine ap ?_|(with_reducible refine gR 2 ?_);refine dE 2 (aW 0 32) mixed ?_|(refine hK _ _ ?_;clear hK K)|(refine ao ?_ ?_<;>intro hc<;>try exact jz)|refine cm (WS) ?_|refine ar ?_|exact jI|(clear hK K)))
 refine⟨fun h=>⟨h,jB,hn h⟩,fun h=>⟨h,jB,hn (by simp only[Bool.and_eq_true]at h;exact h.1)⟩,?_⟩
 (repeat' (first|refine aq fun K hK=>?_|refine ap ?_|(refine hK _ _ ?_;clear hK K)|(refine ao ?_ ?_<;>intro hc<;>try exact jz)|refine ar ?_|exact jI|(clear hK K)))
 (refine aY [.tmp 2] ?_;try simp only[go_sem])
 rfl
def Ps(lv:Int):aB prog 277 [rI lv] (aO eS 1 (mZ lv)):=by
 refine bG func277 ntmps277 ?_
 (repeat' (first|refine aq fun K hK=>?_|refine ap ?_|(refine hK _ _ ?_;clear hK K)|(refine ao ?_ ?_<;>intro hc<;>try exact jz)|refine ar ?_|exact jI|(clear hK K)))
 all_goals refine fA [.tmp 2] ?_
 all_goals simp only[mZ, *,if_true,if_false,Int.reduceEq,if_pos,if_neg,not_false_eq_true]
 all_goals exact .lit _ _ _ _ _
def Nh(lv:Int):(mZ lv).length<=4/\∀s∈mZ lv,s≠⟨#[]⟩:=by
 unfold mZ;split
 ·decide
 ·split
  ·decide
  ·split
   ·decide
   ·split<;>decide
def Et(r:Rd)(lv:Int)(h:oF r):ab prog 270 [pR,rI lv] (cA r) (fun v l=>v=rS (r.next lv)/\l=cA r):=by
 have WS:=fun t=>gA r t h
 have hl:=Nh lv;obtain⟨h1,h2,h3,h4,h5,h6,h7⟩:=h;simp only[cA,ii]at WS;refine aM func270 ntmps270 ?_;simp only[cA,ii]
 (repeat' (first|refine aq fun K hK=>?_|refine ap ?_|(refine hK _ _ ?_;clear hK K)|(refine ao ?_ ?_<;>intro hc<;>try exact jz)|refine cp (Ps lv) ?_|refine ar ?_|exact jI|(clear hK K)))
 have TX:=hK;clear hK;refine dV (S:=Nat) [(4,1),(6,2),(10,17)] (fun k=>k<=(mZ lv).length/\∀j,j<k->r.is (nth (mZ lv) j)=false) (fun k=>[(6,rI k)]) (fun _=>⟨[0,1],cA r⟩) (fun k=>(mZ lv).length-k) 0 ⟨jB,fun j h=>jB⟩ (dS rfl cv) ?_;rintro k ⟨Ue,TY⟩ Kr TR;simp only[cA,ii];refine S ?_
 (repeat' (first|refine aq fun K hK=>?_|refine ap ?_|(refine hK _ _ ?_;clear hK K)|(refine ao ?_ ?_<;>intro hc<;>try exact jz)|refine cm (WS _) ?_|refine TX _ _ ?_|refine ar ?_|exact jI|(clear hK K)))
 ·(refine bV [.tmp 4] ?_ ?_<;>(try simp only[go_sem]))
  have:(mZ lv).find? (fun s=>r.is s)=some (nth (mZ lv) k):=zC TY jB hc;simp only[Rd.next,this]
 ·refine TR _ _ (eu (k+1) ⟨jB,fun j hj=>?_⟩ jJ rfl cv);by_cases e:j=k
  ·subst e;exact hc
  ·exact TY j jB
 ·(refine bV [.tmp 4] ?_ ?_<;>(try simp only[go_sem]))
  have:(mZ lv).find? (fun s=>r.is s)=none:=C3 fun j hj=>TY j jB
  simp only[Rd.next,this]
def MZ{P:TO}{f:FuncId}{args args':TE}{l:TD}{R:AV->List TQ->Prop}(hl:pJ args args')(h:ab P f args' l R):ab P f args l R:=fun w vs h1 h2=>by
 obtain⟨I',hg⟩:=hl.get;refine h w vs h1 ⟨I'.symm.trans h2.1,fun i a v ha hv=>?_⟩;have hi:i<args.length:=by rw[I'];exact(List.getElem?_eq_some_iff.1 ha).1
 exact hg i args[i] a (List.getElem?_eq_getElem hi) ha w v (h2.2 i _ v (List.getElem?_eq_getElem hi) hv)
def kY(r:Rd)(k ln n:Int)(nm:TI)(L:TG)(a:AV)(ha:gF a (aO eI 1 L))(h:oF r):ab prog 196 [pR,rI k,rI ln,rI n,rS nm,a] (cA r) (fun v l=>v=rI (r.put k ln n nm L).2/\l=cA (r.put k ln n nm L).1):=
 MZ (args':=[pR,rI k,rI ln,rI n,rS nm,aO eI 1 L]) ⟨gF.refl _,gF.refl _,gF.refl _,gF.refl _,gF.refl _,ha,trivial⟩ (wY r k ln n nm L h)
def C0(n:Nat):Prop:=∀r:Rd,r.Inv->8*r.rem+1<=n->ab prog 276 [pR] (cA r) (fun v l=>v=rI (qf n r).2/\l=cA (qf n r).1)
def x9(n:Nat):Prop:=∀r:Rd,r.Inv->8*r.rem+2<=n->ab prog 269 [pR] (cA r) (fun v l=>v=rI (iw n r).2/\l=cA (iw n r).1)
def zA(n:Nat):Prop:=∀(lv:Nat) (r:Rd),lv<=5->r.Inv->8*r.rem+8-lv<=n->ab prog 256 [pR,rI lv] (cA r) (fun v l=>v=rI (dO n lv r).2/\l=cA (dO n lv r).1)
def PG(n:Nat)(ha:C0 n)(hf:x9 n):x9 (n+1):=by
 intro r h hn;have sg:∀t,r.is t=true->r.e=0/\r.down.Inv/\r.down.inc.Inv/\r.down.inc.rem+1<=r.rem:=fun t ht=>by
  obtain⟨he,hk⟩:=Rd.ba ht;obtain⟨h1,h2,h3,h4,_⟩:=Rd.bL h he;have VK:r.down.tok=r.tok:=by unfold Rd.tok;rw[h3,h4]
  obtain⟨s1,e1⟩:=Rd.bt h1 (by rw[VK];exact hk);have:=s1.inv h1;have hb:=Rd.behind h1 (by rw[VK];exact hk);refine⟨he,h1,this,?_⟩;unfold Rd.rem;rw[if_pos he];have:r.down.inc.i=r.i+1:=by show r.down.i+1=_;rw[h3]
  have hl:r.down.inc.l=r.l:=h4;rw[this,hl];rw[h3,h4]at hb;split<;>omega
 by_cases hm:r.is (⟨#[45]⟩:TI)=true
 ·obtain⟨he,h1,h2,h3⟩:=sg _ hm;have s2:=(si n).2.1 _ h2;have h4:=s2.inv h2;have h5:(iw n r.down.inc).1.up.Inv:=(Rd.fx h he ((Rd.bt h1 (by obtain⟨_,_,h3,h4,_⟩:=Rd.bL h he;unfold Rd.tok;rw[h3,h4];exact(Rd.ba hm).2)).1.trans s2)).inv h;have hd1:=h2.oZ;have hd2:=h2.pW;have Wc:=h1.lt;have hi2:=h1.len;have hi3:=h1.pos;have hd3:=h4.oZ;have hd4:=h4.pW;rw[iw,if_pos hm];refine aM func269 ntmps269 ?_;refine S ?_
  (have W:=hm;repeat' (first|refine aq fun K hK=>?_|refine ap ?_|(refine hK _ _ ?_;clear hK K)|(refine ao ?_ ?_<;>intro hc<;>try exact jz)|refine cm (gY r (bz h)) ?_|refine cm (gA r _ (bz h)) ?_|refine cm (uu r (bz h)) ?_|refine cm (hf r.down.inc h2 jB) ?_|refine cm (kY (iw n r.down.inc).1.up _ _ _ _ [(iw n r.down.inc).2] _ gF.sl (bz h5)) ?_|refine ar ?_|exact jI|(clear hK K)))
  (refine bV [.tmp 2] ?_ ?_<;>(try simp only[go_sem]))
 ·have hmf:r.is (⟨#[45]⟩:TI)=false:=by simpa using hm
  by_cases hq:r.is (⟨#[33]⟩:TI)=true
  ·obtain⟨he,h1,h2,h3⟩:=sg _ hq;have s2:=(si n).2.1 _ h2;have h4:=s2.inv h2;have h5:(iw n r.down.inc).1.up.Inv:=(Rd.fx h he ((Rd.bt h1 (by obtain⟨_,_,h3,h4,_⟩:=Rd.bL h he;unfold Rd.tok;rw[h3,h4];exact(Rd.ba hq).2)).1.trans s2)).inv h;have hd1:=h2.oZ;have hd2:=h2.pW;have Wc:=h1.lt;have hi2:=h1.len;have hi3:=h1.pos;have hd3:=h4.oZ;have hd4:=h4.pW;rw[iw,if_neg hm,if_pos hq];refine aM func269 ntmps269 ?_;refine S ?_
   (have W:=jA hmf hq;repeat' (first|refine aq fun K hK=>?_|refine ap ?_|(refine hK _ _ ?_;clear hK K)|(refine ao ?_ ?_<;>intro hc<;>try exact jz)|refine cm (gY r (bz h)) ?_|refine cm (gA r _ (bz h)) ?_|refine cm (uu r (bz h)) ?_|refine cm (hf r.down.inc h2 jB) ?_|refine cm (kY (iw n r.down.inc).1.up _ _ _ _ [(iw n r.down.inc).2] _ gF.sl (bz h5)) ?_|refine ar ?_|exact jI|(clear hK K)))
   (refine bV [.tmp 2] ?_ ?_<;>(try simp only[go_sem]))
  ·have hqf:r.is (⟨#[33]⟩:TI)=false:=by simpa using hq
   rw[iw,if_neg hm,if_neg hq];refine aM func269 ntmps269 ?_;refine S ?_
   (have W:=jA hmf hqf;repeat' (first|refine aq fun K hK=>?_|refine ap ?_|(refine hK _ _ ?_;clear hK K)|(refine ao ?_ ?_<;>intro hc<;>try exact jz)|refine cm (gY r (bz h)) ?_|refine cm (gA r _ (bz h)) ?_|refine cm (ha r h jB) ?_|refine ar ?_|exact jI|(clear hK K)))
   (refine bV [.tmp 2] ?_ ?_<;>(try simp only[go_sem]))
def MU(n:Nat)(hf:x9 n)(WH:∀m,m<=n->zA m):zA (n+1):=by
 intro lv r hlv h hn;have Tv:∀(m:Nat) (q:Rd),m<=n->lv+1<=5->q.Inv->8*q.rem+7-lv<=m->ab prog 256 [pR,rI ((lv:Int)+1)] (cA q) (fun v l=>v=rI (dO m (lv+1) q).2/\l=cA (dO m (lv+1) q).1):=fun m q hm hl hq hr=>by have:=WH m hm (lv+1) q hl hq jB;rw[show((lv+1:Nat):Int)=(lv:Int)+1 from jB]at this;exact this
 by_cases h5:lv=5
 ·subst h5;rw[dO,if_pos rfl];refine aM func256 ntmps256 ?_;refine S ?_
  (repeat' (first|refine aq fun K hK=>?_|refine ap ?_|(refine hK _ _ ?_;clear hK K)|(refine ao ?_ ?_<;>intro hc<;>try exact jz)|refine cm (hf r h jB) ?_|refine ar ?_|exact jI|(clear hK K)))
  (refine bV [.tmp 4] ?_ ?_<;>(try simp only[go_sem]))
 ·rw[dO,if_neg h5];have s1:=(si n).2.2.1 (lv+1) r h;have h1:=s1.inv h;have VT:=s1.rem;refine aM func256 ntmps256 ?_;refine S ?_
  (repeat' (first|refine aq fun K hK=>?_|refine ap ?_|(refine hK _ _ ?_;clear hK K)|(refine ao ?_ ?_<;>intro hc<;>try exact jz)|refine cm (gY r (bz h)) ?_|refine cm (Tv n r jl jB h jB) ?_|refine ar ?_|exact jI|(clear hK K)))
  refine dV (S:=Nat×Rd×Int) [(4,1),(6,3),(19,27)] (fun s=>s.2.1.Inv/\8*s.2.1.rem+7-lv<=s.1/\s.1<=n/\oL s.1 lv r.cM s.2=oL n lv r.cM (dO n (lv+1) r)) (fun s=>[(6,rI s.2.2)]) (fun s=>⟨[0,1],cA s.2.1⟩) (fun s=>s.1) (n,dO n (lv+1) r) ⟨h1,jJ,Nat.le_refl _,rfl⟩ (dS rfl cv) ?_;rintro⟨m,q,x⟩ ⟨hq,V9,VA,UZ⟩ Kr TR;simp only at hq V9 VA UZ;rw[<-UZ];obtain⟨m,rfl⟩:∃k,m=k+1:=⟨m-1,jB⟩;have XY:=hq.lt;have hqp:=hq.pos;have hqn:=hq.len;by_cases hx:q.next lv=⟨#[]⟩
  ·rw[oL,if_pos hx];refine S ?_
   (have W:=hx;repeat' (first|refine aq fun K hK=>?_|refine ap ?_|(refine hK _ _ ?_;clear hK K)|(refine ao ?_ ?_<;>intro hc<;>try exact jz)|refine cm (Et q lv (bz hq)) ?_|refine ar ?_|exact jI|(clear hK K)))
   (refine bV [.tmp 4] ?_ ?_<;>(try simp only[go_sem]))
  ·have hk:=Rd.ba (Rd.lF hx);obtain⟨t1,e1⟩:=Rd.bt hq hk.2;have hi:=t1.inv hq;have hri:=Rd.de hq hk;have t2:=(si m).2.2.1 (lv+1) _ hi;have hj:=t2.inv hi;have hrj:=t2.rem;have t3:=fun L=>Rd.cY (t1.trans t2) (by have:=t2.dI;omega) 9 r.cM 0 (q.next lv) L
   rw[oL,if_neg hx];refine S ?_
   (have W:=hx;repeat' (first|refine aq fun K hK=>?_|refine ap ?_|(refine hK _ _ ?_;clear hK K)|(refine ao ?_ ?_<;>intro hc<;>try exact jz)|refine cm (Et q lv (bz hq)) ?_|refine cm (Tv m q.inc jB jB hi jB) ?_|refine cm (kY (dO m (lv+1) q.inc).1 _ _ _ _ [x,(dO m (lv+1) q.inc).2] _ gF.sl (bz hj)) ?_|refine ar ?_|exact jI|(clear hK K)))
   ·have h2:lv=2:=jB
    (refine bV [.tmp 4] ?_ ?_<;>(try simp only[go_sem]))
    ·simp only[if_pos h2]
    ·simp only[if_pos h2]
   ·have h2:¬lv=2:=jB;refine TR _ _ (eu (m,(dO m (lv+1) q.inc).1.put 9 r.cM 0 (q.next lv) [x,(dO m (lv+1) q.inc).2]) ⟨(t3 _).inv hq,?_,jJ,?_⟩ jJ rfl cv)
    ·have h6:∀L,((dO m (lv+1) q.inc).1.put 9 r.cM 0 (q.next lv) L).1.rem=(dO m (lv+1) q.inc).1.rem:=fun L=>rfl
     simp only[h6];omega
    ·rw[<-UZ,oL,if_neg hx,if_neg h2]
end Go.Proofs.YtjpcgmjaipfgdaaGreatDoor