/- Lemmas. No conditions. -/
import Derived.Test.YtijdhbokcdpklaaGreatDoorLxT
set_option linter.all false
set_option maxHeartbeats 4000000
set_option maxRecDepth 10000
namespace Go.Gd
open Go
def pK{α:Type}[Inhabited α]{a b:List α}{i:Nat}(h:i<a.length):nth (a++b) i=nth a i:=by simp[nth,List.getD_eq_getElem?_getD,List.getElem?_append_left h]
def qL{α:Type}[Inhabited α](a:List α)(x:α):nth (a++[x]) a.length=x:=by simp[nth,List.getD_eq_getElem?_getD]
def bX(t:List bq)(i:Int):Int:=(nth t i.toNat).kind
def cS(k:Int):Prop:=1<=k/\k<=9
def fy(k:Int):Prop:=cS k\/k=19\/k=20\/k=21
def fA(k:Int):Prop:=10<=k/\k<=17
def yv:List UR:=[(⟨#[124,124]⟩:UR),(⟨#[38,38]⟩:UR),(⟨#[60]⟩:UR),(⟨#[60,61]⟩:UR),(⟨#[61,61]⟩:UR),(⟨#[33,61]⟩:UR),(⟨#[43]⟩:UR),(⟨#[45]⟩:UR),(⟨#[42]⟩:UR),(⟨#[47]⟩:UR),(⟨#[37]⟩:UR)]
structure Shape(t:List bq)(n:bq):Prop where
 any:1<=n.kind/\n.kind<=21
 zero:n.kind=1\/n.kind=2\/n.kind=3\/n.kind=4\/n.kind=19->n.l=[]
 one:n.kind=5\/n.kind=6\/n.kind=7\/n.kind=8\/n.kind=14\/n.kind=20->∃a,n.l=[a]/\cS (bX t a)
 two:n.kind=9\/n.kind=12->∃a b,n.l=[a,b]/\cS (bX t a)/\cS (bX t b)
 right:n.kind=10\/n.kind=11->∃a,n.l=[a]/\fy (bX t a)
 tn:n.kind=13->∃a,n.l=[a]/\bX t a=21
 lA:n.kind=15->∃a b,cS (bX t a)/\bX t b=18/\(n.l=[a,b]\/∃d,n.l=[a,b,d]/\bX t d=18)
 eF:n.kind=16->∃a b,n.l=[a,b]/\cS (bX t a)/\bX t b=18
 ret:n.kind=17->n.l=[]\/∃a,n.l=[a]/\cS (bX t a)
 block:n.kind=18->∀a∈n.l,fA (bX t a)
 call:n.kind=21->∀a∈n.l,cS (bX t a)
 num:n.kind=1->∃s,sn s/\n.n=qf s
 bool:n.kind=2->n.n=0\/n.n=1
 text:n.kind=3->n.name.size<=12
 sign:n.kind=9->n.name∈yv
inductive aL(t:List bq):Nat->List Int->Nat->Prop
 |nil (k:Nat):aL t k [] k
 |cons {lo c hi:Nat} {L:List Int} (hc:c<t.length) (h1:aL t lo (nth t c).l c) (h2:aL t (c+1) L hi):aL t lo ((c:Int)::L) hi
variable{t:List bq}{lo hi:Nat}{L:UP}
def aL.le(h:aL t lo L hi):lo<=hi:=by
 induction h with
 |nil=>exact Nat.le_refl _
 |cons _ _ _ i1 i2=>omega
def aL.mem(h:aL t lo L hi):∀a∈L,0<=a/\lo<=a.toNat/\a.toNat<hi/\a.toNat<t.length:=by
 induction h with
 |nil=>intro a ha;simp at ha
 |@cons lo c hi L hc h1 h2 i1 i2=>
  intro a ha;have l1:=h1.le;have l2:=h2.le;rcases List.mem_cons.1 ha with rfl|ha
  ·exact⟨jB,by simpa using l1,by simp;omega,by simpa using hc⟩
  ·have:=i2 a ha;omega
variable{u:List bq}
def aL.mono(h:aL t lo L hi):aL (t++u) lo L hi:=by
 induction h with
 |nil k=>exact .nil k
 |cons hc _ _ i1 i2=>exact .cons jF (by rw[pK hc];exact i1) i2
variable{M:UP}
def aL.append{mid:Nat}(h:aL t lo L mid):aL t mid M hi->aL t lo (L++M) hi:=by
 induction h with
 |nil=>intro k;exact k
 |cons hc h1 _ _ i2=>intro k;exact .cons hc h1 (i2 k)
def aL.one{c:Nat}(hc:c<t.length)(h:aL t lo (nth t c).l c):aL t lo [(c:Int)] (c+1):=.cons hc h (.nil _)
def mV{a:Int}(h:a.toNat<t.length):bX (t++u) a=bX t a:=by unfold bX;rw[pK h]
def Shape.mono{n:bq}(h:Shape t n)(hl:∀a∈n.l,a.toNat<t.length):Shape (t++u) n where
 any:=h.any
 zero:=h.zero
 one:=fun e=>by obtain⟨a,h1,h2⟩:=h.one e;exact⟨a,h1,by rw[mV (hl a (by rw[h1];simp))];exact h2⟩
 two:=fun e=>by obtain⟨a,b,h1,h2,h3⟩:=h.two e;exact⟨a,b,h1,by rw[mV (hl a (by rw[h1];simp))];exact h2,by rw[mV (hl b (by rw[h1];simp))];exact h3⟩
 right:=fun e=>by obtain⟨a,h1,h2⟩:=h.right e;exact⟨a,h1,by rw[mV (hl a (by rw[h1];simp))];exact h2⟩
 tn:=fun e=>by obtain⟨a,h1,h2⟩:=h.tn e;exact⟨a,h1,by rw[mV (hl a (by rw[h1];simp))];exact h2⟩
 lA:=fun e=>by
  obtain⟨a,b,h1,h2,h3⟩:=h.lA e;rcases h3 with h3|⟨d,h3,h4⟩
  ·exact⟨a,b,by rw[mV (hl a (by rw[h3];simp))];exact h1,by rw[mV (hl b (by rw[h3];simp))];exact h2,.inl h3⟩
  ·exact⟨a,b,by rw[mV (hl a (by rw[h3];simp))];exact h1,by rw[mV (hl b (by rw[h3];simp))];exact h2,.inr ⟨d,h3,by rw[mV (hl d (by rw[h3];simp))];exact h4⟩⟩
 eF:=fun e=>by obtain⟨a,b,h1,h2,h3⟩:=h.eF e;exact⟨a,b,h1,by rw[mV (hl a (by rw[h1];simp))];exact h2,by rw[mV (hl b (by rw[h1];simp))];exact h3⟩
 ret:=fun e=>by
  rcases h.ret e with h1|⟨a,h1,h2⟩
  ·exact .inl h1
  ·exact .inr ⟨a,h1,by rw[mV (hl a (by rw[h1];simp))];exact h2⟩
 block:=fun e a ha=>by rw[mV (hl a ha)];exact h.block e a ha
 call:=fun e a ha=>by rw[mV (hl a ha)];exact h.call e a ha
 num:=h.num
 bool:=h.bool
 text:=h.text
 sign:=h.sign
def aL.len(h:aL t lo L hi):L.length+lo<=hi:=by
 induction h with
 |nil=>simp
 |@cons lo c hi L hc h1 h2 i1 i2=> have:=h1.le;simp only[List.length_cons];omega
structure Mk(t t':List bq)(L:List Int):Prop where
 pre:∃u,t'=t++u
 chain:aL t' t.length L t'.length
 shape:∀k,t.length<=k->k<t'.length->Shape t' (nth t' k)/\(∀a∈(nth t' k).l,0<=a/\a.toNat<k)/\∃lo,aL t' lo (nth t' k).l k
def Mk.refl(t:List bq):Mk t t []:=⟨⟨[],jE⟩,.nil _,fun k h1 h2=>jB⟩
variable{a b:List bq}
def Mk.trans{c:List bq}(h:Mk a b L)(k:Mk b c M):Mk a c (L++M):=by
 obtain⟨⟨u,rfl⟩,h2,h3⟩:=h;obtain⟨⟨v,rfl⟩,k2,k3⟩:=k;refine⟨⟨u++v,jE⟩,h2.mono.append k2,fun i h4 h5=>?_⟩;by_cases hi:i<(a++u).length
 ·obtain⟨g1,g2,lo,g3⟩:=h3 i h4 hi;rw[pK hi];exact⟨g1.mono fun x hx=>by have:=g2 x hx;omega,g2,lo,g3.mono⟩
 ·exact k3 i jB h5
def Mk.put(h:Mk a b L)(n:bq)(hn:n.l=L)(hs:Shape b n):Mk a (b++[n]) [(b.length:Int)]:=by
 obtain⟨⟨u,rfl⟩,h2,h3⟩:=h;have hm:∀x∈n.l,0<=x/\x.toNat<(a++u).length:=fun x hx=>by rw[hn]at hx;exact⟨(h2.mem x hx).1,(h2.mem x hx).2.2.1⟩
 refine⟨⟨u++[n],jE⟩,?_,fun i h4 h5=>?_⟩
 ·have e:((a++u)++[n]).length=(a++u).length+1:=by simp only[List.length_append,List.length_cons,List.length_nil]
  rw[e];refine aL.one jE ?_;rw[qL,hn];exact h2.mono
 ·by_cases hi:i<(a++u).length
  ·obtain⟨g1,g2,lo,g3⟩:=h3 i h4 hi;rw[pK hi];exact⟨g1.mono fun x hx=>by have:=g2 x hx;omega,g2,lo,g3.mono⟩
  ·have:i=(a++u).length:=by simp at h5 hi ⊢;omega
   subst this;rw[qL];exact⟨hs.mono fun x hx=>(hm x hx).2,hm,a.length,by rw[hn];exact h2.mono⟩
def Mk.kind{c:List bq}(h:Mk a b L)(k:Mk b c M){x:Int}(hx:x∈L):bX c x=bX b x:=by obtain⟨⟨v,rfl⟩,_,_⟩:=k;exact mV (h.chain.mem x hx).2.2.2
def Ob(t:List bq)(n:bq):bX (t++[n]) (t.length:Int)=n.kind:=by unfold bX;rw[Int.toNat_natCast,qL]
def k7(l:List cB):Prop:=∀k,k<l.length->(nth l k).kind=2->(nth l k).text.size<=12
def Made(r r':Rd)(L:UP)(C:Int->Prop):Prop:=r'.e=0->Mk r.nodes r'.nodes L/\∀a∈L,C (bX r'.nodes a)
structure Still(r r':Rd):Prop where
 nodes:r'.nodes=r.nodes
 err:r'.e=0->r.e=0
 l:r'.l=r.l
def Still.refl(r:Rd):Still r r:=⟨rfl,id,rfl⟩
theorem Still.trans{a b c:Rd}(h:Still a b)(k:Still b c):Still a c:=⟨k.nodes.trans h.nodes,fun e=>h.err (k.err e),k.l.trans h.l⟩
def y9(r:Rd){e:Int}(he:e≠0):Still r (r.aE e):=⟨Rd.dN _ _,fun h=>(Rd.gQ he h).elim,Rd.gO _ _⟩
def nH(r:Rd):Still r r.inc:=⟨rfl,id,rfl⟩
def Ac(r:Rd):Still r r.up:=⟨rfl,id,rfl⟩
def jM(r:Rd)(t:UR):Still r (r.av t):=by
 unfold Rd.av;split
 ·exact nH r
 ·exact y9 r jC
def vH(r:Rd):Still r r.name.1:=by
 unfold Rd.name;split
 ·exact nH r
 ·exact y9 r jC
def zE(r:Rd):Still r r.down:=by
 unfold Rd.down;split
 ·have:=y9 r (e:=21) jC;exact⟨this.nodes,this.err,this.l⟩
 ·exact⟨rfl,id,rfl⟩
variable{r a b:Rd}{C:Int->Prop}
def Made.pre(s:Still r a)(h:Made a b L C):Made r b L C:=fun e=>by have:=h e;rwa [s.nodes]at this
def Made.post(h:Made r a L C)(s:Still a b):Made r b L C:=fun e=>by have:=h (s.err e);rwa [s.nodes]
def Made.nil(r:Rd)(C:Int->Prop):Made r r [] C:=fun _=>⟨Mk.refl _,fun a ha=>by simp at ha⟩
def Made.qd{D:Int->Prop}(h:Made r a L C)(hc:∀k,C k->D k):Made r a L D:=fun e=>⟨(h e).1,fun a ha=>hc _ ((h e).2 a ha)⟩
def Made.seq{c:Rd}{D:Int->Prop}(h:Made a b L C)(k:Made b c M D)(he:c.e=0->b.e=0):c.e=0->Mk a.nodes c.nodes (L++M)/\(∀x∈L,C (bX c.nodes x))/\∀x∈M,D (bX c.nodes x):=fun e=>by obtain⟨h1,h2⟩:=h (he e);obtain⟨k1,k2⟩:=k e;exact⟨h1.trans k1,fun x hx=>by rw[h1.kind k1 hx];exact h2 x hx,k2⟩
def Made.both{c:Rd}(h:Made a b L C)(k:Made b c M C)(he:c.e=0->b.e=0):Made a c (L++M) C:=fun e=>by obtain⟨h1,h2,h3⟩:=h.seq k he e;exact⟨h1,fun x hx=>(List.mem_append.1 hx).elim (h2 x) (h3 x)⟩
def j3(k ln n:Int)(nm:UR)(h:a.e=0->Mk r.nodes a.nodes L/\Shape a.nodes ⟨k,ln,n,nm,L⟩/\C k):Made r (a.put k ln n nm L).1 [(a.put k ln n nm L).2] C:=fun e=>by obtain⟨h1,h2,h3⟩:=h e;refine⟨h1.put _ rfl h2,fun x hx=>?_⟩;rw[List.mem_singleton.1 hx];show C (bX (a.nodes++[_]) (a.nodes.length:Int));rw[Ob];exact h3
variable{k ln n:Int}{nm:UR}
def uB(hk:k=1\/k=2\/k=3\/k=4\/k=17\/k=19)(h1:k=1->∃s,sn s/\n=qf s)(h2:k=2->n=0\/n=1)(h3:k=3->nm.size<=12):Shape t ⟨k,ln,n,nm,[]⟩:=by constructor<;>(try simp only)<;>intros<;>first|(clear h1 h2 h3;omega)|(clear h1 h2 h3;exfalso;omega)|trivial|rfl|(exact .inl rfl)|(exact .inl trivial)|(refine h1 ?_;assumption)|(refine h2 ?_;assumption)|(refine h3 ?_;assumption)|fail
variable{a:Int}
def vG(hk:k=5\/k=6\/k=7\/k=8\/k=14\/k=17\/k=20)(h:cS (bX t a)):Shape t ⟨k,ln,n,nm,[a]⟩:=by constructor<;>(try simp only)<;>intros<;>first|omega|omega|trivial|(exact⟨a,rfl,h⟩)|(exact .inr ⟨a,rfl,h⟩)
def Kd(hk:k=10\/k=11)(h:fy (bX t a)):Shape t ⟨k,ln,n,nm,[a]⟩:=by constructor<;>(try simp only)<;>intros<;>first|omega|omega|trivial|(exact⟨a,rfl,h⟩)
def N5(h:bX t a=21):Shape t ⟨13,ln,n,nm,[a]⟩:=by constructor<;>(try simp only)<;>intros<;>first|omega|omega|trivial|(exact⟨a,rfl,h⟩)
variable{b:Int}
def GU(hk:k=12\/k=9/\nm∈yv)(h:cS (bX t a))(h':cS (bX t b)):Shape t ⟨k,ln,n,nm,[a,b]⟩:=by constructor<;>(try simp only)<;>intros<;>first|omega|omega|trivial|(exact⟨a,b,rfl,h,h'⟩)|(rcases hk with hk|hk;omega;exact hk.2)|fail
def PY(h:cS (bX t a))(h':bX t b=18):Shape t ⟨16,ln,n,nm,[a,b]⟩:=by constructor<;>(try simp only)<;>intros<;>first|omega|omega|trivial|(exact⟨a,b,rfl,h,h'⟩)
def SL(h:cS (bX t a))(h':bX t b=18):Shape t ⟨15,ln,n,nm,[a,b]⟩:=by constructor<;>(try simp only)<;>intros<;>first|omega|omega|trivial|(exact⟨a,b,h,h',.inl rfl⟩)
def Qf{d:Int}(h:cS (bX t a))(h':bX t b=18)(h'':bX t d=18):Shape t ⟨15,ln,n,nm,[a,b,d]⟩:=by constructor<;>(try simp only)<;>intros<;>first|omega|omega|trivial|(exact⟨a,b,h,h',.inr ⟨d,rfl,h''⟩⟩)
def O3(h:∀a∈L,fA (bX t a)):Shape t ⟨18,ln,n,nm,L⟩:=by constructor<;>(try simp only)<;>intros<;>first|omega|omega|trivial|(refine h _ ?_;assumption)|fail
def Ut(h:∀a∈L,cS (bX t a)):Shape t ⟨21,ln,n,nm,L⟩:=by constructor<;>(try simp only)<;>intros<;>first|omega|omega|trivial|(refine h _ ?_;assumption)|fail
def PS{lv:Int}(h:r.next lv≠⟨#[]⟩):r.next lv∈yv:=by
 unfold Rd.next at h ⊢;cases e:(nq lv).find? (fun s=>r.is s)with
 |none=>rw[e]at h;exact(h rfl).elim
 |some s=>
  have:=List.mem_of_find?_eq_some e;unfold nq at this;simp only;unfold yv;split at this
  ·simp at this ⊢;simp[this]
  split at this
  ·simp at this ⊢;simp[this]
  split at this
  ·simp at this ⊢;rcases this with h|h|h|h<;>simp[h]
  split at this
  ·simp at this ⊢;rcases this with h|h<;>simp[h]
  ·simp at this ⊢;rcases this with h|h|h<;>simp[h]
def qa{r':Rd}(s:Rd.St r r'):r'.e=0->r.e=0:=fun h=>Classical.byContradiction fun e=>s.err e h
def G3{e:Int}(he:e≠0):Made r (r.aE e) L C:=fun h=>(Rd.gQ he h).elim
theorem J9:∀n,(∀r:Rd,r.Inv->k7 r.l->8*r.rem+1<=n->Made r (qK n r).1 [(qK n r).2] cS)/\(∀r:Rd,r.Inv->k7 r.l->8*r.rem+2<=n->Made r (iJ n r).1 [(iJ n r).2] cS)/\
  (∀lv (r:Rd),r.Inv->k7 r.l->lv<=5->8*r.rem+8<=n+lv->Made r (dV n lv r).1 [(dV n lv r).2] cS)/\
  (∀lv ln (r:Rd) (p:Rd×Int),p.1.Inv->k7 p.1.l->lv<=4->8*p.1.rem+7<=n+lv->Made r p.1 [p.2] cS->Made r (oT n lv ln p).1 [(oT n lv ln p).2] cS)
 |0=>⟨fun r h ht hn=>by omega,fun r h ht hn=>by omega,fun lv r h ht h5 hn=>by omega,fun lv ln r p h ht h5 hn hp=>by omega⟩
 |n+1=>by
  obtain⟨ia,lA,ic,il⟩:=J9 n;have ist:=td n;have deeper:∀(r:Rd) (t u:UR),r.Inv->k7 r.l->r.e=0->8*r.rem+1<=n+1->(r.is t=true\/8*r.rem+8<=n)->Made r ((dV n 0 (r.down.av t)).1.av u).up [(dV n 0 (r.down.av t)).2] cS:=fun r t u h ht he hn hx=>by
   have h1:=(Rd.bO h he).1;have s1:=Rd.aK h1 t;have hr:8*(r.down.av t).rem+8<=n+0:=by
    rcases hx with hx|hx
    ·have:=(Rd.gN h hx).1;omega
    ·have:=s1.rem;have YT:r.down.rem<=r.rem:=by
      unfold Rd.rem;obtain⟨_,_,h3,h4,_⟩:=Rd.bO h he;rw[h3,h4,if_pos he];split<;>omega
     omega
   have st:=(zE r).trans (jM r.down t);have:=ic 0 (r.down.av t) (s1.inv h1) (by rw[st.l];exact ht) jB hr;exact((this.pre st).post (jM _ _)).post (Ac _)
  refine⟨fun r h ht hn=>?_,fun r h ht hn=>?_,fun lv r h ht h5 hn=>?_,fun lv ln r p h ht h5 hn hp=>?_⟩
  ·unfold qK;split
   ·rename_i he;exact fun h=>(he h).elim
   rename_i he;have he:r.e=0:=jB;have WM:r.i.toNat<r.l.length:=by have:=h.lt;have:=h.pos;omega
   split
   ·rename_i hk;exact j3 _ _ _ _ fun _=>⟨Mk.refl _,uB jB (fun _=>⟨_,h.num _ WM hk,rfl⟩) jH jH,by unfold cS;omega⟩
   split
   ·rename_i hk;exact j3 _ _ _ _ fun _=>⟨Mk.refl _,uB jB jH jH (fun _=>ht _ WM hk),by unfold cS;omega⟩
   split
   ·rename_i hk;have WE:r.e=0/\r.tok.kind≠0:=⟨he,jB⟩;split
    ·have hi:=(Rd.br h WE.2).1.inv h;have hr:=Rd.dc h WE;have hm:=deeper r.inc (⟨#[91]⟩:UR) (⟨#[93]⟩:UR) hi ht he jB (.inl (by assumption));exact j3 _ _ _ _ fun e=>⟨(hm e).1,vG jB ((hm e).2 _ jE),by unfold cS;omega⟩
    ·exact j3 _ _ _ _ fun _=>⟨Mk.refl _,uB jB jH jH jH,by unfold cS;omega⟩
   split
   ·exact j3 _ _ _ _ fun _=>⟨Mk.refl _,uB jB jH (fun _=>.inr rfl) jH,by unfold cS;omega⟩
   split
   ·exact j3 _ _ _ _ fun _=>⟨Mk.refl _,uB jB jH (fun _=>.inl rfl) jH,by unfold cS;omega⟩
   split
   ·rename_i hs;have WE:=Rd.bc hs;split
    ·have hi:=(Rd.br h WE.2).1.inv h;have hr:=Rd.dc h WE;have hm:=deeper r.inc (⟨#[40]⟩:UR) (⟨#[41]⟩:UR) hi ht he jB (.inl (by assumption));exact j3 _ _ _ _ fun e=>⟨(hm e).1,vG jB ((hm e).2 _ jE),by unfold cS;omega⟩
    ·exact fun e=>(Rd.gQ jC e).elim
   split
   ·exact deeper r (⟨#[40]⟩:UR) (⟨#[41]⟩:UR) h ht he hn (.inl (by assumption))
   ·exact G3 jC
  ·unfold iJ;have sg:∀t,r.is t=true->∀k ln nm,(k=7\/k=8)->Made r (((iJ n r.down.inc).1.up).put k ln 0 nm [(iJ n r.down.inc).2]).1 [(((iJ n r.down.inc).1.up).put k ln 0 nm [(iJ n r.down.inc).2]).2] cS:=fun t Yj k ln nm hk=>by
    obtain⟨he,XY⟩:=Rd.bc Yj;obtain⟨h1,h2,h3,h4,h5,h6⟩:=Rd.bO h he;have WM:r.down.tok=r.tok:=by unfold Rd.tok;rw[h3,h4]
    have s1:=(Rd.br h1 (by rw[WM];exact XY)).1;have st:=(zE r).trans (nH r.down);have hr:8*r.down.inc.rem+2<=n:=by
     have hb:=Rd.behind h XY;unfold Rd.rem at hn ⊢;rw[if_pos he]at hn;have e1:r.down.inc.i=r.i+1:=by show r.down.i+1=_;rw[h3]
     have e2:r.down.inc.l=r.l:=h4;rw[e1,e2];have:=h.pos;split<;>omega
    have hm:=((lA r.down.inc (s1.inv h1) (by rw[st.l];exact ht) hr).pre st).post (Ac _);exact j3 _ _ _ _ fun e=>⟨(hm e).1,vG jB ((hm e).2 _ jE),by unfold cS;omega⟩
   split
   ·rename_i Yj;exact sg _ Yj _ _ _ (.inl rfl)
   split
   ·rename_i Yj;exact sg _ Yj _ _ _ (.inr rfl)
   ·exact ia r h ht jB
  ·unfold dV;split
   ·exact lA r h ht jB
   ·have s1:=ist.2.2.1 (lv+1) r h;exact il lv _ r _ (s1.inv h) (by rw[s1.l];exact ht) jB (by have:=s1.rem;omega) (ic (lv+1) r h ht jB jB)
  ·unfold oT;split
   ·exact hp
   rename_i Zs;have WE:=Rd.bc (Rd.lE Zs);have s1:=(Rd.br h WE.2).1;have hr:=Rd.dc h WE;have s2:=ist.2.2.1 (lv+1) _ (s1.inv h);have hm:=ic (lv+1) p.1.inc (s1.inv h) (by rw[s1.l];exact ht) jB jB;have ZQ:=(hp.post (nH _)).seq hm (qa s2);have haG:Made r ((dV n (lv+1) p.1.inc).1.put 9 ln 0 (p.1.next lv) [p.2,(dV n (lv+1) p.1.inc).2]).1 [((dV n (lv+1) p.1.inc).1.put 9 ln 0 (p.1.next lv) [p.2,(dV n (lv+1) p.1.inc).2]).2] cS:=
    j3 _ _ _ _ fun e=>⟨(ZQ e).1,GU (.inr ⟨rfl,PS Zs⟩) ((ZQ e).2.1 _ jE) ((ZQ e).2.2 _ jE),by unfold cS;omega⟩
   split
   ·exact haG
   ·have s3:=Rd.cZ (s1.trans s2) (by have:=s2.dO;have:=(Rd.br h WE.2).2;omega) 9 ln 0 (p.1.next lv) [p.2,(dV n (lv+1) p.1.inc).2];exact il lv ln r _ (s3.inv h) (by rw[s3.l];exact ht) h5 (by have e:((dV n (lv+1) p.1.inc).1.put 9 ln 0 (p.1.next lv) [p.2,(dV n (lv+1) p.1.inc).2]).1.rem=(dV n (lv+1) p.1.inc).1.rem:=rfl;show 8*((dV n (lv+1) p.1.inc).1.put 9 ln 0 (p.1.next lv) [p.2,(dV n (lv+1) p.1.inc).2]).1.rem+7<=_;rw[e];have:=s2.rem;omega) haG
def rW(h:r.Inv)(ht:k7 r.l):Made r (de r).1 [(de r).2] cS:=(J9 _).2.2.1 0 r h ht jB jB
def St.ki{r':Rd}(s:Rd.St r r')(h:k7 r.l):k7 r'.l:=by rw[s.l];exact h
theorem J0:∀(n:Nat) (b:Bool) (r0 r:Rd) (L:UP),r.Inv->k7 r.l->Made r0 r L cS->Made r0 (nJ n b r L).1 (nJ n b r L).2 cS
 |0,_,r0,r,L,h,ht,hm=>by unfold nJ;exact hm
 |n+1,false,r0,r,L,h,ht,hm=>by unfold nJ;exact hm
 |n+1,true,r0,r,L,h,ht,hm=>by
  have s1:=j4 h;have h1:=s1.inv h;have m1:=hm.both (rW h ht) (qa s1);unfold nJ;split
  ·rename_i hs;have s2:=(Rd.br h1 (Rd.bc hs).2).1;exact J0 n _ r0 _ _ (s2.inv h1) (St.ki s2 (St.ki s1 ht)) (m1.post (nH _))
  ·exact m1
def F6(h:r.Inv)(ht:k7 r.l):Made r (mW r).1 [(mW r).2] (fun k=>k=21):=by have hs:=Ax h;have st:=(vH r).trans (jM r.name.1 (⟨#[40]⟩:UR));have hm:Made r (nY r).1 (nY r).2 cS:=J0 _ _ r _ _ (hs.inv h) (St.ki hs ht) ((Made.nil _ _).pre st);have hm:=hm.post (jM (nY r).1 (⟨#[41]⟩:UR));exact j3 _ _ _ _ fun e=>⟨(hm e).1,Ut (hm e).2,rfl⟩
def ET(h:r.Inv)(ht:k7 r.l):Made r (lU r).1 [(lU r).2] fy:=by
 unfold lU;split
 ·exact j3 _ _ _ _ fun _=>⟨Mk.refl _,uB jB jH jH jH,by unfold fy;omega⟩
 split
 ·rename_i hs;have s1:=(Rd.br h (Rd.bc hs).2).1;have s2:=s1.trans (Rd.aK (s1.inv h) (⟨#[40]⟩:UR));have hm:=((rW (s2.inv h) (St.ki s2 ht)).pre ((nH r).trans (jM _ _))).post (jM _ (⟨#[41]⟩:UR));exact j3 _ _ _ _ fun e=>⟨(hm e).1,vG jB ((hm e).2 _ jE),by unfold fy;omega⟩
 split
 ·exact(F6 h ht).qd fun k hk=>by unfold fy;omega
 ·exact(rW h ht).qd fun k hk=>.inl hk
def Rl(h:r.Inv)(ht:k7 r.l)(he:r.e=0):Made r (pe r).1 [(pe r).2] cS:=by have h1:=(Rd.bO h he).1;have s1:=Rd.aK h1 (⟨#[91]⟩:UR);have st:=(zE r).trans (jM r.down (⟨#[91]⟩:UR));exact(rW (s1.inv h1) (by rw[st.l];exact ht)).pre st
def Ml(h:r.Inv)(ht:k7 r.l)(he:r.e=0)(ln:Int):Made r (qc r ln).1 [(qc r ln).2] fA:=by
 unfold qc;split
 ·have hm:=(F6 h ht).post (jM _ (⟨#[59]⟩:UR));exact j3 _ _ _ _ fun e=>⟨(hm e).1,N5 ((hm e).2 _ jE),by unfold fA;omega⟩
 have s0:=Rd.dv h;have h0:=s0.inv h;split
 ·rename_i hs;have he0:=(Rd.bc hs).1;have m1:=Rl h0 (St.ki s0 ht) he0;obtain⟨t1,t2⟩:=y8 h0 hs;have sB:Rd.St r.name.1 ((pe r.name.1).1.av (⟨#[93]⟩:UR)).up:=(BX h0 hs).2;have stl:Still (pe r.name.1).1 (((pe r.name.1).1.av (⟨#[93]⟩:UR)).up.av (⟨#[61]⟩:UR)):=((jM _ _).trans (Ac _)).trans (jM _ _);have m2:Made (((pe r.name.1).1.av (⟨#[93]⟩:UR)).up.av (⟨#[61]⟩:UR)) (uW r.name.1).1 [(uW r.name.1).2] cS:=rW (t1.inv h0) (St.ki t1 (St.ki s0 ht));have hm:=((m1.post stl).both m2 (qa (j4 (t1.inv h0)))).post (jM _ (⟨#[59]⟩:UR));have hm:=hm.pre (vH r);exact j3 _ _ _ _ fun e=>⟨(hm e).1,GU (.inl rfl) ((hm e).2 _ jE) ((hm e).2 _ jE),by unfold fA;omega⟩
 ·have s1:=s0.trans (Rd.aK h0 (⟨#[61]⟩:UR));have hm:=((ET (s1.inv h) (St.ki s1 ht)).pre ((vH r).trans (jM _ _))).post (jM _ (⟨#[59]⟩:UR));exact j3 _ _ _ _ fun e=>⟨(hm e).1,Kd (.inr rfl) ((hm e).2 _ jE),by unfold fA;omega⟩
theorem HA:∀n,(∀r:Rd,r.Inv->k7 r.l->4*r.rem+1<=n->Made r (gh n r).1 [(gh n r).2] (fun k=>k=18))/\
  (∀(r0 r:Rd) L,r.Inv->k7 r.l->4*r.rem+3<=n->Made r0 r L fA->Made r0 (mL n r L).1 (mL n r L).2 fA)/\
  (∀r:Rd,r.Inv->k7 r.l->r.e=0->4*r.rem+2<=n->Made r (nT n r).1 [(nT n r).2] fA)
 |0=>⟨fun r h ht hn=>by omega,fun r0 r L h ht hn hm=>by omega,fun r h ht he hn=>by omega⟩
 |n+1=>by
  obtain⟨ib,il,is_⟩:=HA n;have ist:=sD n;refine⟨fun r h ht hn=>?_,fun r0 r L h ht hn hm=>?_,fun r h ht he hn=>?_⟩
  ·unfold gh;split
   ·rename_i hx;have he:=(Rd.bc hx).1;have hd:=(Rd.bO h he).1;have s1:=Rd.aK hd (⟨#[123]⟩:UR);have st:=(zE r).trans (jM r.down (⟨#[123]⟩:UR));have hr:=(Rd.gN h hx).1;have hm:=il r (r.down.av (⟨#[123]⟩:UR)) [] (s1.inv hd) (by rw[st.l];exact ht) jB ((Made.nil _ _).pre st);have hm:=(hm.post (jM _ (⟨#[125]⟩:UR))).post (Ac _);exact j3 _ _ _ _ fun e=>⟨(hm e).1,O3 (hm e).2,rfl⟩
   ·exact G3 jC
  ·unfold mL;split
   ·rename_i hc;have YF:0<n:=jB;obtain⟨s1,s2⟩:=ist.2.2 r h hc.1 YF;have WW:=hm.both (is_ r h ht hc.1 jB) (qa s1);exact il r0 _ _ (s1.inv h) (St.ki s1 ht) jB WW
   ·exact hm
  ·unfold nT;have word:∀w:UR,w≠⟨#[]⟩->r.word=w->r.inc.Inv/\r.inc.rem+1<=r.rem/\Rd.St r r.inc:=fun w h0 hw=>by
    have hk:=Rd.dL (Rd.gW hw h0) jC;exact⟨(Rd.br h hk.2).1.inv h,Rd.dc h hk,(Rd.br h hk.2).1⟩
   split
   ·rename_i hw;obtain⟨h1,h2,s1⟩:=word _ jC hw;have s2:=Rd.dv h1;have s3:=s2.trans (Rd.aK (s2.inv h1) (⟨#[61]⟩:UR));have hm:=((ET (s3.inv h1) (St.ki s3 ht)).pre ((nH r).trans ((vH r.inc).trans (jM _ _)))).post (jM _ (⟨#[59]⟩:UR));exact j3 _ _ _ _ fun e=>⟨(hm e).1,Kd (.inl rfl) ((hm e).2 _ jE),by unfold fA;omega⟩
   split
   ·rename_i hw;obtain⟨h1,h2,s1⟩:=word _ jC hw;have hm:=((rW h1 (St.ki s1 ht)).pre (nH r)).post (jM _ (⟨#[59]⟩:UR));exact j3 _ _ _ _ fun e=>⟨(hm e).1,vG jB ((hm e).2 _ jE),by unfold fA;omega⟩
   split
   ·rename_i hw;obtain⟨h1,h2,s1⟩:=word _ jC hw;have s2:=j4 h1;have s3:=ist.1 _ (s2.inv h1);have hm:=((rW h1 (St.ki s1 ht)).pre (nH r)).seq (ib (de r.inc).1 (s2.inv h1) (St.ki s2 (St.ki s1 ht)) (by have:=s2.rem;omega)) (qa s3);exact j3 _ _ _ _ fun e=>⟨(hm e).1,PY ((hm e).2.1 _ jE) ((hm e).2.2 _ jE),by unfold fA;omega⟩
   split
   ·rename_i hw;obtain⟨h1,h2,s1⟩:=word _ jC hw;have s2:=j4 h1;have h3:=s2.inv h1;have s3:=ist.1 _ h3;have h4:=s3.inv h3;have hm:=((rW h1 (St.ki s1 ht)).pre (nH r)).seq (ib (de r.inc).1 h3 (St.ki s2 (St.ki s1 ht)) (by have:=s2.rem;omega)) (qa s3);split
    ·rename_i hx;have hk:=Rd.bc hx;have s5:=(Rd.br h4 hk.2).1;have hr5:=Rd.dc h4 hk;have h5:=s5.inv h4;have s6:=ist.1 _ h5;have m3:=(ib (gh n (de r.inc).1).1.inc h5 (St.ki s5 (St.ki s3 (St.ki s2 (St.ki s1 ht)))) (by have:=s2.rem;have:=s3.rem;omega)).pre (nH _);have he5:=fun e=>qa s5 (qa s6 e)
     exact j3 _ _ _ _ fun e=>by obtain⟨a1,a2,a3⟩:=hm (he5 e);obtain⟨b1,b2⟩:=m3 e;exact⟨a1.trans b1,Qf (by rw[a1.kind b1 jE];exact a2 _ jE) (by rw[a1.kind b1 jE];exact a3 _ jE) (b2 _ jE),by unfold fA;omega⟩
    ·exact j3 _ _ _ _ fun e=>⟨(hm e).1,SL ((hm e).2.1 _ jE) ((hm e).2.2 _ jE),by unfold fA;omega⟩
   split
   ·rename_i hw;obtain⟨h1,h2,s1⟩:=word _ jC hw;split
    ·have hm:=((Made.nil r.inc cS).pre (nH r)).post (jM _ (⟨#[59]⟩:UR));exact j3 _ _ _ _ fun e=>⟨(hm e).1,uB jB jH jH jH,by unfold fA;omega⟩
    ·have hm:=((rW h1 (St.ki s1 ht)).pre (nH r)).post (jM _ (⟨#[59]⟩:UR));exact j3 _ _ _ _ fun e=>⟨(hm e).1,vG jB ((hm e).2 _ jE),by unfold fA;omega⟩
   ·exact Ml h ht he _
def QH(h:r.Inv)(ht:k7 r.l):Made r (oM r).1 [(oM r).2] (fun k=>k=18):=(HA _).1 r h ht jB
-- functions
structure qY(f:bj):Prop where
 ps:∀p∈f.params,1<=p.ty/\p.ty<=4
 ret:0<=f.ret/\f.ret<=4
def MF(w:UR):0<=sJ w/\sJ w<=4:=by
 unfold sJ;repeat' split
 all_goals omega
def Fj(r:Rd):Still r (iZ r).1:=by
 unfold iZ;split
 ·exact y9 r jC
 ·exact nH r
def Kz(he:(iZ r).1.e=0):1<=(iZ r).2/\(iZ r).2<=4:=by
 unfold iZ at he ⊢;split
 ·rename_i h;rw[if_pos h]at he;exact(Rd.gQ jC he).elim
 ·have:=MF r.word;simp only;omega
theorem FJ:∀(n:Nat) (b:Bool) (r:Rd) (L:List bM),Still r (nb n b r L).1/\((nb n b r L).1.e=0->(∀p∈L,1<=p.ty/\p.ty<=4)->∀p∈(nb n b r L).2,1<=p.ty/\p.ty<=4)
 |0,_,r,L=>by unfold nb;exact⟨.refl r,fun _ h=>h⟩
 |n+1,false,r,L=>by unfold nb;exact⟨.refl r,fun _ h=>h⟩
 |n+1,true,r,L=>by
  have st:Still r (pG r):=(vH r).trans (Fj _);have hL:(pG r).e=0->(∀p∈L,1<=p.ty/\p.ty<=4)->∀p∈L++[⟨r.name.2,(iZ r.name.1).2⟩],1<=p.ty/\p.ty<=4:=fun e h p hp=>by
   rcases List.mem_append.1 hp with hp|hp
   ·exact h p hp
   ·rw[List.mem_singleton.1 hp];exact Kz e
  unfold nb;split
  ·obtain⟨a,b⟩:=FJ n true (pG r).inc (L++[⟨r.name.2,(iZ r.name.1).2⟩]);exact⟨st.trans ((nH _).trans a),fun e h=>b e (hL (a.err e) h)⟩
  ·exact⟨st,hL⟩
def PU(h:r.Inv)(ht:k7 r.l):Made r (mQ r).1 [(mQ r).2.body] (fun k=>k=18)/\((mQ r).1.e=0->qY (mQ r).2):=by
 have h1:=(qo h).1.inv h;have h2:=(yB h).inv h1;obtain⟨a,b⟩:=FJ ((nz r).rem+2) (more (nz r)) (nz r) [];have stA:Still r (nz r):=((jM r (⟨#[102,110]⟩:UR)).trans (vH _)).trans (jM _ _);have xP:Still r (lR r):=(stA.trans a).trans (jM _ _);have stD:Still (lR r) (mn r).1:=by
  unfold mn;split
  ·exact .refl _
  ·exact Fj _
 have hb:=QH h2 (by rw[(xP.trans stD).l];exact ht);refine⟨hb.pre (xP.trans stD),fun e=>?_⟩;have e2:(mn r).1.e=0:=qa (BT h2) e;have e1:(lR r).e=0:=stD.err e2;have e0:(tq r).1.e=0:=(jM _ _).err e1;refine⟨b e0 (fun p hp=>by simp at hp),?_⟩;show 0<=(mn r).2/\(mn r).2<=4;unfold mn at e2 ⊢;split
 ·simp
 ·rename_i hc;rw[if_neg hc]at e2;have:=Kz e2;omega
theorem HB:∀(n:Nat) (r0 r:Rd) (L:List bj),r.Inv->k7 r.l->Made r0 r (L.map (·.body)) (fun k=>k=18)->(r.e=0->∀f∈L,qY f)->
  Made r0 (qx n r L).1 ((qx n r L).2.map (·.body)) (fun k=>k=18)/\((qx n r L).1.e=0->∀f∈(qx n r L).2,qY f)
 |0,r0,r,L,h,ht,hm,hf=>by unfold qx;exact⟨hm,hf⟩
 |n+1,r0,r,L,h,ht,hm,hf=>by
  unfold qx;split
  ·have s1:=(EY h).1;obtain⟨a,b⟩:=PU h ht;refine HB n r0 _ _ (s1.inv h) (St.ki s1 ht) ?_ fun e f ZO=>?_
   ·rw[List.map_append];exact hm.both a (qa s1)
   ·rcases List.mem_append.1 ZO with h'|h'
    ·exact hf (qa s1 e) f h'
    ·rw[List.mem_singleton.1 h'];exact b e
  ·exact⟨hm,hf⟩
structure aR(t:aH):Prop where
 chain:aL t.nodes 0 (t.aw.map (·.body)) t.nodes.length
 shape:∀k,k<t.nodes.length->Shape t.nodes (nth t.nodes k)/\(∀a∈(nth t.nodes k).l,0<=a/\a.toNat<k)/\∃lo,aL t.nodes lo (nth t.nodes k).l k
 body:∀f∈t.aw,bX t.nodes f.body=18
 fn:∀f∈t.aw,qY f/\f.params.length<=3
 many:t.nodes.length<=300
 aw:t.aw.length<=6
variable{s:UR}
def Uu{a:Nat}(h:(oX s a).2.2=0):(oX s a).1.size<=12:=by
 unfold oX at h ⊢;simp only at h ⊢;split at h<;>rename_i h1
 ·rw[if_pos h1];split at h<;>rename_i h2
  ·cases h
  ·rw[if_neg h2];simp only[ByteArray.size_extract];omega
 ·cases h
def Rq{a:Nat}(h:(ix s a).2.2=0)(hk:(ix s a).1.kind=2):(ix s a).1.text.size<=12:=by
 unfold ix at h hk ⊢;split at h<;>rename_i h1
 ·rw[if_pos h1]at hk ⊢;split at h<;>rename_i h2
  ·rw[if_pos h2]at hk;cases hk
  ·cases h
 rw[if_neg h1]at hk ⊢;split at h<;>rename_i h2
 ·rw[if_pos h2]at hk ⊢;split at h<;>rename_i h3
  ·rw[if_pos h3]at hk;cases hk
  ·rw[if_neg h3]at hk ⊢;split at h<;>rename_i h4
   ·cases h
   ·rw[if_neg h4]at hk;cases hk
 rw[if_neg h2]at hk ⊢;split at h<;>rename_i h3
 ·rw[if_pos h3]at hk ⊢;exact Uu h
 ·rw[if_neg h3]at hk;split at h<;>rename_i h4
  ·cases h
  ·rw[if_neg h4]at hk;cases hk
theorem D4(s:UR):∀(n i:Nat) (out:List cB),(lI s n i out).2.2=0->(∀t∈out,t.kind=2->t.text.size<=12)->∀t∈(lI s n i out).1,t.kind=2->t.text.size<=12
 |0,i,out,he,ho=>by unfold lI;exact ho
 |n+1,i,out,he,ho=>by
  unfold lI at he ⊢;split at he<;>rename_i hi
  ·rw[if_pos hi];split at he<;>rename_i h3
   ·rw[if_pos h3];refine D4 s n _ _ he fun t ht=>?_
    rcases List.mem_append.1 ht with ht|ht
    ·exact ho t ht
    ·rw[List.mem_singleton.1 ht];exact Rq h3
   ·exact(h3 he).elim
  ·rw[if_neg hi];intro t ht;rcases List.mem_append.1 ht with ht|ht
   ·exact ho t ht
   ·rw[List.mem_singleton.1 ht];intro h;cases h
def Pr(he:(kX s).2.2=0):k7 (oO s).l:=by
 have:∀t∈(kX s).1,t.kind=2->t.text.size<=12:=by
  unfold kX at he ⊢;split at he<;>rename_i h
  ·cases he
  ·rw[if_neg h];exact D4 s _ _ _ he (fun t ht=>by simp at ht)
 intro k hk;exact this _ (fa hk)
def u9(h:(gY s).2.2=0):aR (gY s).1:=by
 unfold gY at h ⊢;split at h<;>rename_i h1
 ·exact(h1 h).elim
 rw[if_neg h1];split at h<;>rename_i h2
 ·exact(h2 h).elim
 rw[if_neg h2];split at h<;>rename_i h3
 ·cases h
 rw[if_neg h3];have he:(kX s).2.2=0:=jB;have hf:(oi s).1.e=0:=jB;obtain⟨a,b⟩:=HB ((oO s).rem+1) (oO s) (oO s) [] (Hg he) (Pr he) (Made.nil _ _) (fun _ f hf=>by simp at hf);obtain⟨a1,a2⟩:=a hf;simp only[ut,Bool.or_eq_true,decide_eq_true_eq,not_or,List.any_eq_true,not_exists,not_and]at h3;refine⟨a1.chain,fun k hk=>a1.shape k (Nat.zero_le _) hk,fun f hf=>a2 _ (List.mem_map.2 ⟨f,hf,rfl⟩),fun f hff=>⟨b hf f hff,by have:=h3.2 f hff;omega⟩,by show(oi s).1.nodes.length<=300;omega,by show(oi s).2.length<=6;omega⟩
structure Ck where
 aa:aH
 types:List Int
 slots:List Int
 aw:List Int
 aP:List Int
 fn:Int
 vars:List bI
 more:List bI
 size:Int
 e:Int
 at_:Int
 deriving Inhabited
def js{α:Type}(f:α->UR)(name:UR):List α->Int->Int
 |[],_=>-1
 |v::l,i=>if f v=name then i else js f name l (i+1)
def jR{α:Type}(f:α->UR)(name:UR):List α->Int->Int->Int
 |[],_,k=>k
 |v::l,i,k=>jR f name l (i+1) (if f v=name then i else k)
def lZ(sign:UR)(a b:Int):Int:=
 if a≠b then 0
 else if sign=(⟨#[124,124]⟩:UR)\/sign=(⟨#[38,38]⟩:UR)then(if a=2 then 2 else 0)
 else if sign=(⟨#[60]⟩:UR)\/sign=(⟨#[60,61]⟩:UR)then(if a=1 then 2 else 0)
 else if sign=(⟨#[61,61]⟩:UR)\/sign=(⟨#[33,61]⟩:UR)then(if a=1\/a=2\/a=3 then 2 else 0)
 else if sign=(⟨#[43]⟩:UR)then(if a=1\/a=3 then a else 0)
 else(if a=1 then 1 else 0)
namespace Ck
def node(c:Ck)(a:Int):bq:=nth c.aa.nodes a.toNat
def aF(c:Ck)(a:Int)(i:Nat):Int:=nth (c.node a).l i
def aE(c:Ck)(e a:Int):Ck:=if c.e=0 then{ c with e:=e,at_:=a }else c
def av(c:Ck)(ok:Bool)(a:Int):Ck:=if ok=true then c else c.aE 42 a
def find(c:Ck)(name:UR):Int:=js bI.name name c.vars 0
def slot(c:Ck)(a s:Int):Ck:={ c with slots:=c.slots.set a.toNat s }
def named(c:Ck)(a:Int):Ck×Int:=
 if c.find (c.node a).name<0 then(c.aE 40 a,0)
 else(c.slot a (nth c.vars (c.find (c.node a).name).toNat).slot,(nth c.vars (c.find (c.node a).name).toNat).ty)
def note(c:Ck)(a t:Int):Ck:={ c with types:=c.types.set a.toNat t,aw:=c.aw.set a.toNat c.fn }
def ai(c:Ck)(a:Int):Ck:={ c with aw:=c.aw.set a.toNat c.fn }
end Ck
def gG(ex:Ck->Int->Ck×Int):Ck->UP->UP->Ck×UP
 |c,[],ts=>(c,ts)
 |c,a::l,ts=>if c.e=0 then gG ex (ex c a).1 l (ts++[(ex c a).2])else(c,ts)
def iE(a:Int):Ck->UP->List bM->Ck
 |c,t::ts,p::ps=>if c.e=0 then iE a (c.av (decide (t=p.ty)) a) ts ps else c
 |c,_,_=>c
def fV(c:Ck)(a:Int):Int:=jR bj.name (c.node a).name c.aa.aw 0 (-1)
def je(ex:Ck->Int->Ck×Int)(c:Ck)(a:Int):Ck×Int:=
 if fV c a<0 then(c.aE 40 a,0)
 else
  let f:=nth c.aa.aw (fV c a).toNat
  let p:=gG ex c (c.node a).l []
  let c1:=if(c.node a).l.length≠f.params.length then p.1.aE 43 a else p.1
  (iE a c1 p.2 f.params,f.ret)
def cw(ex:Ck->Int->Ck×Int)(c:Ck)(a:Int):Ck×Int:=
 let k:=(c.node a).kind
 if k=1\/k=19 then(c,1)
 else if k=2 then(c,2)
 else if k=3 then(c,3)
 else if k=4 then c.named a
 else if k=21 then je ex c a
 else if k=5 then
  let p:=c.named a
  let x:=ex p.1 (c.aF a 0)
  (x.1.av (decide (p.2=4) && decide (x.2=1)) a,1)
 else if k=9 then
  let x:=ex c (c.aF a 0)
  let y:=ex x.1 (c.aF a 1)
  let t:=lZ (c.node a).name x.2 y.2
  (y.1.av (!decide (t=0)) a,t)
 else
  let x:=ex c (c.aF a 0)
  if k=6 then(x.1.av (decide (x.2=3) || decide (x.2=4)) a,1)
  else if k=7 then(x.1.av (decide (x.2=1)) a,1)
  else if k=8 then(x.1.av (decide (x.2=2)) a,2)
  else(x.1.av (decide (x.2=1)) a,4)
def aA:Nat->Ck->Int->Ck×Int
 |0,c,_=>(c,0)
 |n+1,c,a=>if c.e≠0 then(c,0)else((cw (aA n) c a).1.note a (cw (aA n) c a).2,(cw (aA n) c a).2)
def pm(ex:Ck->Int->Ck×Int)(c:Ck)(a:Int):Ck:=
 let x:=ex c (c.aF a 0)
 let c1:=x.1.av (!decide (x.2=0)) a
 let c2:=if 0<=c1.find (c.node a).name then c1.aE 41 a else c1
 let c3:=if 24<=c2.size then c2.aE 4 a else c2
 { (c3.slot a c3.size)with vars:=c3.vars++[⟨(c.node a).name,x.2,c3.size⟩],more:=c3.more.drop 1,size:=c3.size+1 }
def kJ(ex:Ck->Int->Ck×Int)(c:Ck)(a:Int):Ck:=
 let ret:=(nth c.aa.aw c.fn.toNat).ret
 let l:=(c.node a).l
 if decide (l.length=1)≠(!decide (ret=0))then c.aE 43 a
 else if l.length=1 then
  let x:=ex c (c.aF a 0)
  x.1.av (decide (x.2=ret)) a
 else c
def dS(st:Ck->Int->Ck):Ck->UP->Ck
 |c,[]=>c
 |c,a::l=>if c.e=0 then dS st (st c a) l else c
def fp(st:Ck->Int->Ck)(c:Ck)(a:Int):Ck:=
 let c1:=dS st (c.ai a) (c.node a).l
 { c1 with vars:=c1.vars.take (min c.vars.length c1.vars.length),more:=c1.vars.drop (min c.vars.length c1.vars.length)++c1.more }
def bU:Nat->Ck->Int->Ck
 |0,c,_=>c
 |n+1,c0,a=>
  let c:=c0.ai a
  let k:=(c.node a).kind
  if k=10 then pm (aA n) c a
  else if k=11 then
   let p:=c.named a
   let x:=aA n p.1 (c.aF a 0)
   x.1.av (decide (p.2=x.2)) a
  else if k=12 then
   let p:=c.named a
   let x:=aA n p.1 (c.aF a 0)
   let y:=aA n x.1 (c.aF a 1)
   y.1.av (decide (p.2=4) && decide (x.2=1) && decide (y.2=1)) a
  else if k=13 then(aA n c (c.aF a 0)).1
  else if k=14 then
   let x:=aA n c (c.aF a 0)
   x.1.av (!decide (x.2=4)) a
  else if k=17 then kJ (aA n) c a
  else
   let x:=aA n c (c.aF a 0)
   dS (fp (bU n)) (x.1.av (decide (x.2=2)) a) ((c.node a).l.drop 1)
def fF(body:Int):Ck->List bM->Int->Ck
 |c,[],_=>c
 |c,p::ps,i=>
  let c1:=if 0<=c.find p.name then c.aE 41 body else c
  fF body { c1 with vars:=c1.vars++[⟨p.name,p.ty,i⟩],more:=c1.more.drop 1,size:=c1.size+1 } ps (i+1)
def gU(c:Ck)(k:Nat):Ck:=
 let f:=nth c.aa.aw k
 let c1:=fF f.body { c with fn:=k,vars:=[],more:=[],size:=0 } f.params 0
 let c2:=if c1.e=0 then fp (bU c.aa.nodes.length) c1 f.body else c1
 { c2 with aP:=c2.aP++[c2.size],vars:=[],more:=[] }
def kT(x:bj):Ck->List bj->Ck
 |c,[]=>c
 |c,f::l=>kT x (if f.name=x.name then c.aE 41 x.body else c) l
def vR(f:bj):Bool:=decide (f.name=(⟨#[109,97,105,110]⟩:UR)) && decide ((f.params.length:Int)=0) && decide (f.ret=0)
def kn(aw:List bj):Ck->Bool->Nat->Nat->Ck×Bool
 |c,m,_,0=>(c,m)
 |c,m,i,n+1=>kn aw (kT (nth aw i) c (aw.take i)) (m || vR (nth aw i)) (i+1) n
def jd(c:Ck):Ck:=
 let p:=kn c.aa.aw c false 0 c.aa.aw.length
 if p.2=true then p.1 else p.1.aE 44 0
def gA:Ck->Nat->Nat->Ck
 |c,_,0=>c
 |c,i,n+1=>if c.e=0 then gA (gU c i) (i+1) n else c
def jU(t:aH):Ck:=⟨t,t.nodes.map fun _=>0,t.nodes.map fun _=>-1,t.nodes.map fun _=>0,[],0,[],[],0,0,0⟩
def jb(t:aH):Ck:=gA (jd (jU t)) 0 t.aw.length
def la:af:=⟨⟨[],[]⟩,[],[],[],[]⟩
def Ck.prog(c:Ck):af:=⟨c.aa,c.types,c.slots,c.aw,c.aP⟩
def iA(t:aH):af×Int×Int:=if(jb t).e≠0 then(la,(jb t).at_,(jb t).e)else((jb t).prog,0,0)
def fZ(s:UR):af×Int×Int:=
 if(gY s).2.2≠0 then(la,(gY s).2.1,(gY s).2.2)
 else
  let q:=iA (gY s).1
  if q.2.2=44 then(la,0,44)
  else if q.2.2≠0 then(la,(nth (gY s).1.nodes q.2.1.toNat).cV,q.2.2)
  else(q.1,0,0)
def ff(slots:List aj)(k t:Int):aj:=
 if k<0\/(slots.length:Int)<=k then vZ t
 else if mg (nth slots k.toNat)=true/\(nth slots k.toNat).ty=t then nth slots k.toNat else vZ t
end Go.Gd
namespace Go.Proofs.YtijdhbokcdpklaaGreatDoor
open Go Go.Gd Tryz
abbrev rI(n:Int):AV:=.raw (.int .i64 n)
abbrev rU(n:Int):AV:=.raw (.int .u8 n)
abbrev rS(s:UR):AV:=.raw (.string s)
abbrev rB(b:Bool):AV:=.raw (.bool b)
def xq(n:Int):aB prog 92 [rU n] (rB (j8 n)):=by
 refine bF func92 ntmps92 ?_
 (repeat' (first|refine aq fun K hK=>?_|refine ak ?_|(refine hK _ _ ?_;clear hK K)|(refine ao ?_ ?_<;>intro hc<;>try exact jz)|refine ap ?_|exact jI|(clear hK K)))
 (refine bY [.tmp 2] ?_ ?_<;>(try simp only[go_sem]))
 rfl
def Bs(n:Int):aB prog 94 [rU n] (rB (xv n)):=by
 refine bF func94 ntmps94 ?_
 (repeat' (first|refine aq fun K hK=>?_|refine ak ?_|(refine hK _ _ ?_;clear hK K)|(refine ao ?_ ?_<;>intro hc<;>try exact jz)|refine ap ?_|exact jI|(clear hK K)))
 (refine bY [.tmp 2] ?_ ?_<;>(try simp only[go_sem]))
 rfl
def UE(s:UR):aB prog 93 [rS s] (rB (xO s)):=by
 refine bF func93 ntmps93 ?_
 (repeat' (first|refine aq fun K hK=>?_|refine ak ?_|(refine hK _ _ ?_;clear hK K)|(refine ao ?_ ?_<;>intro hc<;>try exact jz)|refine ap ?_|exact jI|(clear hK K)))
 (refine bY [.tmp 2] ?_ ?_<;>(try simp only[go_sem]))
 rfl
def Nx(s:UR)(at_:Int)(hs:s.size<=1000000):aB prog 98 [rS s,rI at_] (rI (pi s (min s.size at_.toNat))):=by
 refine bF func98 ntmps98 ?_
 (repeat' (first|refine aq fun K hK=>?_|refine ak ?_|(refine hK _ _ ?_;clear hK K)|(refine ao ?_ ?_<;>intro hc<;>try exact jz)|refine ap ?_|exact jI|(clear hK K)))
 have Vb:=hK;clear hK;refine ee (S:=Nat) [(5,19)] (fun k=>k<=s.size/\k<=at_.toNat) (fun k=>[(5,rI (pi s k)),(6,rI k)]) (fun _=>⟨[],[]⟩) (fun k=>s.size-k) 0 jB (dZ rfl (by simp only[go_sem,lc,Nat.reduceAdd,AV.raw.injEq,Value.int.injEq,Value.slice.injEq,Value.pointer.injEq,AV.rs.injEq,pi];try omega)) ?_;rintro k ⟨Vr,Vc⟩ Kr U5;have hb:=G7 s k;refine S ?_
 (repeat' (first|refine aq fun K hK=>?_|refine ak ?_|(refine hK _ _ ?_;clear hK K)|(refine ao ?_ ?_<;>intro hc<;>try exact jz)|refine Vb _ _ ?_|refine ap ?_|exact jI|(clear hK K)))
 ·refine U5 _ _ (dY (k+1) jB jJ rfl (by simp only[pi,if_pos hc];exact cr))
 ·refine U5 _ _ (dY (k+1) jB jJ rfl (by simp only[pi,if_neg hc];exact cr))
 ·(refine bY [.tmp 4] ?_ ?_<;>(try simp only[go_sem]))
  rw[show min s.size at_.toNat=k from jB]
def Nh{s:UR}(h:∀j,j<gb.length->nth gb j≠s):uT s=false:=by unfold uT;rw[List.any_eq_false];intro x hm;obtain⟨j,hj,rfl⟩:=List.getElem_of_mem hm;have:=h j hj;rw[fM hj]at this;simp[this]
def S0{s:UR}{k:Nat}(hk:k<gb.length)(h:nth gb k=s):uT s=true:=by unfold uT;rw[List.any_eq_true];exact⟨gb[k],List.getElem_mem hk,by rw[fM hk]at h;simp[h]⟩
def Qo(s:UR):aB prog 95 [rS s] (rB (uT s)):=by
 refine bF func95 ntmps95 ?_
 (repeat' (first|refine aq fun K hK=>?_|refine ak ?_|(refine hK _ _ ?_;clear hK K)|(refine ao ?_ ?_<;>intro hc<;>try exact jz)|refine ap ?_|exact jI|(clear hK K)))
 have Vb:=hK;clear hK;refine ee (S:=Nat) [(2,1),(4,1),(6,12)] (fun k=>k<=16/\∀j,j<k->nth gb j≠s) (fun k=>[(3,.sl true 1 (gb.map eS) []),(4,rI k)]) (fun _=>⟨[],[]⟩) (fun k=>16-k) 0 ⟨jB,fun j h=>jB⟩ (dZ rfl (by(repeat' (first|exact jI|exact Or.inr rfl|exact Or.inl rfl|refine jA ?_ ?_)))) ?_;rintro k ⟨Vr,Vc⟩ Kr U5;have hl:=Q9;refine S ?_
 (repeat' (first|refine aq fun K hK=>?_|refine ak ?_|(refine hK _ _ ?_;clear hK K)|(refine ao ?_ ?_<;>intro hc<;>try exact jz)|refine Vb _ _ ?_|refine ap ?_|exact jI|(clear hK K)))
 ·(refine bY [.tmp 2] ?_ ?_<;>(try simp only[go_sem]))
  rw[S0 jB hc]
 ·refine U5 _ _ (dY (k+1) ⟨jB,fun j hj=>?_⟩ jJ rfl cr);by_cases e:j=k
  ·subst e;exact hc
  ·exact Vc j jB
 ·(refine bY [.tmp 2] ?_ ?_<;>(try simp only[go_sem]))
  rw[Nh fun j hj=>Vc j jB]
def JH(s:UR)(i:Nat)(hs:s.size<=1000000)(hi:i<=s.size):aB prog 65 [rS s,rI i] (rI (o9 s i:Nat)):=by
 refine bF func65 ntmps65 ?_
 (repeat' (first|refine aq fun K hK=>?_|refine ak ?_|(refine hK _ _ ?_;clear hK K)|(refine ao ?_ ?_<;>intro hc<;>try exact jz)|refine ap ?_|exact jI|(clear hK K)))
 have Vb:=hK;clear hK;refine ee (S:=Nat) [(1,1),(4,54)] (fun k=>k<=s.size/\o9 s k=o9 s i) (fun k=>[(1,rI k)]) (fun _=>⟨[],[]⟩) (fun k=>s.size-k) i ⟨hi,rfl⟩ (dZ rfl cr) ?_;rintro k ⟨Vr,Vc⟩ Kr U5;refine S ?_
 (repeat' (first|refine aq fun K hK=>?_|refine ak ?_|(refine hK _ _ ?_;clear hK K)|(refine ao ?_ ?_<;>intro hc<;>try exact jz)|refine Vb _ _ ?_|refine ap ?_|exact jI|(clear hK K)))
 ·have P':mA s k=some (k+1):=by
   unfold mA;rw[jP,if_pos];simp[yo];omega
  refine U5 _ _ (dY (k+1) ⟨jB,by rw[<-Vc,Kl P']⟩ jJ rfl cr)
 ·have P':mA s k=some (iP tM s k):=by
   unfold mA;rw[jP,if_neg (by simp[yo];omega),if_pos];simp[za];exact⟨⟨hc.1.1,jB⟩,hc.2⟩
  have I':=zV P';have hKi:=hK;clear hK;refine ee (S:=Nat) [(1,1),(45,12)] (fun m=>k<=m/\m<=s.size/\∀j,k<=j->j<m->tM (eT s j)=true) (fun m=>[(1,rI m)]) (fun _=>⟨[],[]⟩) (fun m=>s.size-m) k ⟨jB,jB,fun j h1 h2=>jB⟩ (dZ rfl cr) ?_;rintro m ⟨Xy,WW,Wd⟩ Kj hKj;refine S ?_
  (repeat' (first|refine aq fun K hK=>?_|refine ak ?_|(refine hK _ _ ?_;clear hK K)|(refine ao ?_ ?_<;>intro hc<;>try exact jz)|refine hKi _ _ ?_|refine ap ?_|exact jI|(clear hK K)))
  ·refine hKj _ _ (dY (m+1) ⟨jB,jB,fun j h1 h2=>?_⟩ jJ rfl cr);by_cases e:j=m
   ·subst e;simp only[tM,decide_eq_true_eq];exact hc.2
   ·exact Wd j h1 jB
  ·have e:iP tM s k=m:=zv (by simp only[tM,decide_eq_true_eq];omega) Xy WW Wd;rw[e]at P' I';refine U5 _ _ (dY m ⟨jB,by rw[<-Vc,Kl P']⟩ jJ rfl cr)
 ·(refine bY [.tmp 4] ?_ ?_<;>(try simp only[go_sem]))
  rw[<-Vc,JP];unfold mA;rw[jP,if_neg (by simp[yo];omega),if_neg];simp[za];omega
 ·(refine bY [.tmp 4] ?_ ?_<;>(try simp only[go_sem]))
  rw[<-Vc,JP];unfold mA;rw[jN]
def KE(s:UR)(a:Nat)(hs:s.size<=1000000)(ha:a<s.size):aB prog 96 [rS s,rI a] (.aQ [rS (oX s a).1,rI (oX s a).2.1,rI (oX s a).2.2]):=by
 refine bF func96 ntmps96 ?_
 (repeat' (first|refine aq fun K hK=>?_|refine ak ?_|(refine hK _ _ ?_;clear hK K)|(refine ao ?_ ?_<;>intro hc<;>try exact jz)|refine ap ?_|exact jI|(clear hK K)))
 have Vb:=hK;clear hK;refine ee (S:=Nat) [(7,1),(10,24)] (fun m=>a+1<=m/\m<=s.size/\∀j,a+1<=j->j<m->uC (eT s j)=true) (fun m=>[(7,rI m)]) (fun _=>⟨[],[]⟩) (fun m=>s.size-m) (a+1) ⟨jB,jB,fun j h1 h2=>jB⟩ (dZ rfl cr) ?_;rintro m ⟨Xy,WW,Wd⟩ Kr U5;refine S ?_
 (repeat' (first|refine aq fun K hK=>?_|refine ak ?_|(refine hK _ _ ?_;clear hK K)|(refine ao ?_ ?_<;>intro hc<;>try exact jz)|refine Vb _ _ ?_|refine ap ?_|exact jI|(clear hK K)))
 ·refine U5 _ _ (dY (m+1) ⟨jB,jB,fun j h1 h2=>?_⟩ jJ rfl cr);by_cases e:j=m
  ·subst e;simp only[uC,Bool.and_eq_true,decide_eq_true_eq];exact⟨⟨hc.1.1.2,hc.1.2⟩,hc.2⟩
  ·exact Wd j h1 jB
 all_goals have e:iP uC s (a+1)=m:=zv (by simp only[uC,Bool.and_eq_true,decide_eq_true_eq];omega) Xy WW Wd
 ·(refine bY [.tmp 4,.tmp 5,.tmp 6] ?_ ?_<;>(try simp only[go_sem]))
  simp only[oX,e];rw[jN]
 ·(refine bY [.tmp 4,.tmp 5,.tmp 6] ?_ ?_<;>(try simp only[go_sem]))
  simp only[oX,e];rw[jP,jP]
 ·(refine bY [.tmp 4,.tmp 5,.tmp 6] ?_ ?_<;>(try simp only[go_sem]))
  simp only[oX,e];rw[jP,jN]
def L8:jn.length=5:=rfl
def QK(s:UR)(hs:0<s.size)(hs2:s.size<=1000000):aB prog 97 [rS s] (rS (nR s)):=by
 refine bF func97 ntmps97 ?_
 (repeat' (first|refine aq fun K hK=>?_|refine ak ?_|(refine hK _ _ ?_;clear hK K)|(refine ao ?_ ?_<;>intro hc<;>try exact jz)|refine ap ?_|exact jI|(clear hK K)))
 have Vb:=hK;clear hK;refine ee (S:=Nat) [(2,1),(4,1),(8,22)] (fun k=>k<=5/\∀j,j<k->qG s (nth jn j)=false) (fun k=>[(3,.sl true 1 (jn.map eS) []),(4,rI k)]) (fun _=>⟨[],[]⟩) (fun k=>5-k) 0 ⟨jB,fun j h=>jB⟩ (dZ rfl (by(repeat' (first|exact jI|exact Or.inr rfl|exact Or.inl rfl|refine jA ?_ ?_)))) ?_;rintro k ⟨Vr,Vc⟩ Kr U5;have hl:=L8;refine S ?_
 (repeat' (first|refine aq fun K hK=>?_|refine ak ?_|(with_reducible refine gR 5 ?_);refine dE 5 (ba 0 12) mixed ?_|(refine hK _ _ ?_;clear hK K)|(refine ao ?_ ?_<;>intro hc<;>try exact jz)|refine Vb _ _ ?_|refine ap ?_|exact jI|(clear hK K)))
 ·(refine bY [.tmp 2] ?_ ?_<;>(try simp only[go_sem]))
  have:jn.find? (qG s)=some (nth jn k):=yn Vc jB (by simp only[qG,Bool.and_eq_true,decide_eq_true_eq];exact hc);simp only[nR,this]
 ·refine U5 _ _ (dY (k+1) ⟨jB,fun j hj=>?_⟩ jJ rfl cr);by_cases e:j=k
  ·subst e;simp only[qG,Bool.and_eq_false_iff,decide_eq_false_iff_not,Int.not_le];exact hc
  ·exact Vc j jB
 ·have h2:jn.find? (qG s)=none:=AD fun j hj=>Vc j jB
  have Vb:=hK;clear hK;have hos:iL.size=16:=rfl;refine ee (S:=Nat) [(2,1),(6,1),(30,17)] (fun k=>k<=16/\∀j,j<k->decide (eT s 0=eT iL (nth (List.range 16) j:Nat))=false) (fun k=>[(5,rS iL),(6,rI k)]) (fun _=>⟨[],[]⟩) (fun k=>16-k) 0 ⟨jB,fun j h=>jB⟩ (dZ rfl (by(repeat' (first|exact jI|exact Or.inr rfl|exact Or.inl rfl|refine jA ?_ ?_)))) ?_;rintro m ⟨Xy,WW⟩ Kj hKj;refine S ?_
  (repeat' (first|refine aq fun K hK=>?_|refine ak ?_|(with_reducible refine gR 11 ?_);refine dE 11 (ba 0 6) mixed ?_|(refine hK _ _ ?_;clear hK K)|(refine ao ?_ ?_<;>intro hc<;>try exact jz)|refine Vb _ _ ?_|refine ap ?_|exact jI|(clear hK K)))
  ·(refine bY [.tmp 2] ?_ ?_<;>(try simp only[go_sem]))
   have h3:(List.range 16).find? (fun k:Nat=>decide (eT s 0=eT iL (k:Nat)))=some (nth (List.range 16) m):=yn WW jF (by rw[CG jB];simpa using hc);simp only[nR,h2,h3];rw[CG jB]
  ·refine hKj _ _ (dY (m+1) ⟨jB,fun j hj=>?_⟩ jJ rfl cr);by_cases e:j=m
   ·subst e;rw[CG jB];simpa using hc
   ·exact WW j jB
  ·(refine bY [.tmp 2] ?_ ?_<;>(try simp only[go_sem]))
   have h3:(List.range 16).find? (fun k:Nat=>decide (eT s 0=eT iL (k:Nat)))=none:=AD fun j hj=>WW j (by simp at hj;omega)
   simp only[nR,h2,h3]
def qA(t:cB×Int×Int):AV:=.aQ [.agg (mB t.1),rI t.2.1,rI t.2.2]
def MM(s:UR)(a:Nat)(hs:s.size<=1000000)(ha:a<s.size):aB prog 66 [rS s,rI a] (qA (ix s a)):=by
 have hex:(s.extract a s.size).size=s.size-a:=by rw[ByteArray.size_extract];omega
 have U':=MJ (s.extract a s.size);refine bF func66 ntmps66 ?_
 (repeat' (first|refine aq fun K hK=>?_|refine ak ?_|(refine hK _ _ ?_;clear hK K)|(refine ao ?_ ?_<;>intro hc<;>try exact jz)|refine cp (xq _) ?_|refine cp (Bs _) ?_|refine cp (KE s a hs ha) ?_|refine cp (QK _ jB jB) ?_|refine ap ?_|exact jI|(clear hK K)))
 ·have Vb:=hK;clear hK;refine ee (S:=Nat) [(8,1),(20,12)] (fun m=>a<=m/\m<=s.size/\∀j,a<=j->j<m->j8 (eT s j)=true) (fun m=>[(8,rI m)]) (fun _=>⟨[],[(0,.var 133 (mB wc))]⟩) (fun m=>s.size-m) a ⟨jB,jB,fun j h1 h2=>jB⟩ (dZ rfl cr) ?_;rintro m ⟨Xy,WW,Wd⟩ Kr U5;refine S ?_
  (repeat' (first|refine aq fun K hK=>?_|refine ak ?_|(refine hK _ _ ?_;clear hK K)|(refine ao ?_ ?_<;>intro hc<;>try exact jz)|(first|refine cg (xq _) ?_|refine nr (xq _) ?_)|refine Vb _ _ ?_|refine ap ?_|exact jI|(clear hK K)))
  ·refine U5 _ _ (dY (m+1) ⟨jB,jB,fun j h1 h2=>?_⟩ jJ rfl cr);by_cases e:j=m
   ·subst e;exact hc.2
   ·exact Wd j h1 jB
  ·have hd:j8 (eT s a)=true:=by assumption
   have e:iP j8 s a=m:=zv (by rintro⟨h1,h2⟩;rcases hc with h|h;omega;rw[h2]at h;cases h) Xy WW Wd
   (repeat' (first|refine aq fun K hK=>?_|refine ak ?_|(refine hK _ _ ?_;clear hK K)|(refine ao ?_ ?_<;>intro hc<;>try exact jz)|refine cp (UE _) ?_|refine ap ?_|exact jI|(clear hK K)))
   ·(refine aW [.cell 4 133,.tmp 5,.tmp 6] ?_;try simp only[go_sem])
    simp only[ix,hd,if_true,e,if_neg,hc,Bool.false_eq_true,if_false,qA,wc];rfl
   ·(refine aW [.cell 4 133,.tmp 5,.tmp 6] ?_;try simp only[go_sem])
    simp only[ix,hd,if_true,e,hc,qA];rfl
 ·have Vb:=hK;clear hK;have hnd:j8 (eT s a)=false:=by assumption
  have U6:xv (eT s a)=true:=by assumption
  refine ee (S:=Nat) [(8,1),(49,24)] (fun m=>a<=m/\m<=s.size/\∀j,a<=j->j<m->pD (eT s j)=true) (fun m=>[(8,rI m)]) (fun _=>⟨[],[(0,.var 133 (mB wc))]⟩) (fun m=>s.size-m) a ⟨jB,jB,fun j h1 h2=>jB⟩ (dZ rfl cr) ?_;rintro m ⟨Xy,WW,Wd⟩ Kr U5;have hexm:(s.extract a m).size=m-a:=by rw[ByteArray.size_extract];omega
  refine S ?_
  (repeat' (first|refine aq fun K hK=>?_|refine ak ?_|(refine hK _ _ ?_;clear hK K)|(refine ao ?_ ?_<;>intro hc<;>try exact jz)|(first|refine cg (xq _) ?_|refine nr (xq _) ?_)|(first|refine cg (Bs _) ?_|refine nr (Bs _) ?_)|refine cp (Qo _) ?_|refine Vb _ _ ?_|refine ap ?_|exact jI|(clear hK K)))
  ·refine U5 _ _ (dY (m+1) ⟨jB,jB,fun j h1 h2=>?_⟩ jJ rfl cr);by_cases e:j=m
   ·subst e;simp only[pD,Bool.or_eq_true,decide_eq_true_eq];exact hc.2
   ·exact Wd j h1 jB
  all_goals
   have X5:(s.size:Int)<=m\/(xv (eT s m)=false/\j8 (eT s m)=false)/\¬eT s m=95:=by assumption
   have e:iP pD s a=m:=zv (by
    simp only[pD,Bool.or_eq_true,decide_eq_true_eq];rintro⟨h1,h2⟩;rcases X5 with h|⟨⟨h3,h4⟩,h5⟩
    ·omega
    ·rcases h2 with(h|h)|h
     ·rw[h]at h3;exact Bool.noConfusion h3
     ·rw[h]at h4;exact Bool.noConfusion h4
     ·exact h5 h) Xy WW Wd
  ·(refine aW [.cell 4 133,.tmp 5,.tmp 6] ?_;try simp only[go_sem])
   simp only[ix,hnd,U6,e,hc,Bool.false_eq_true,if_false,if_true,qA];rfl
  ·(refine aW [.cell 4 133,.tmp 5,.tmp 6] ?_;try simp only[go_sem])
   simp only[ix,hnd,U6,e, *,Bool.false_eq_true,if_false,if_true,qA];rw[jP];rfl
  ·(refine aW [.cell 4 133,.tmp 5,.tmp 6] ?_;try simp only[go_sem])
   simp only[ix,hnd,U6,e, *,Bool.false_eq_true,if_false,if_true,qA];rw[jN];rfl
 ·(refine aW [.cell 4 133,.tmp 5,.tmp 6] ?_;try simp only[go_sem])
  simp only[ix, *,Bool.false_eq_true,if_false,if_true,qA];rfl
 ·(refine aW [.cell 4 133,.tmp 5,.tmp 6] ?_;try simp only[go_sem])
  simp only[ix, *,Bool.false_eq_true,if_false,if_true,qA];rfl
 ·(refine aW [.cell 4 133,.tmp 5,.tmp 6] ?_;try simp only[go_sem])
  simp only[ix, *,Bool.false_eq_true,if_false,qA];rfl
attribute [go_sem] qA
def F0(s:UR)(hs:s.size<=1000000):aB prog 42 [rS s] (.aQ [aM mB 3 (kX s).1,rI (kX s).2.1,rI (kX s).2.2]):=by
 refine bF func42 ntmps42 ?_
 (repeat' (first|refine aq fun K hK=>?_|refine ak ?_|(refine hK _ _ ?_;clear hK K)|(refine ao ?_ ?_<;>intro hc<;>try exact jz)|refine cp (JH s 0 hs (Nat.zero_le _)) ?_|refine ap ?_|exact jI|(clear hK K)))
 ·refine fH [.tmp 2,.tmp 3,.tmp 4] ?_;simp only[kX,if_pos hc];refine bt.aQ ?_;exact jo
 ·have Vb:=hK;clear hK;have h0:=vY (s:=s) (i:=0) (Nat.zero_le _);refine ee (S:=Nat×List cB) [(2,8),(16,22)] (fun p=>p.1<=s.size/\p.2.length<=p.1/\uY s p.1 p.2=kX s) (fun p=>[(5,.rs 0 p.2.length 3 p.2.length),(6,rI p.1)]) (fun p=>⟨[],[(0,.aG 133 3 (p.2.map mB))]⟩) (fun p=>s.size-p.1) (o9 s 0,[]) ⟨h0.2,Nat.zero_le _,by simp only[kX];rw[jN]⟩ (dZ rfl cr) ?_;rintro⟨k,ts⟩ ⟨Vr,Vc,Ya⟩ Kr U5;simp only at Vr Vc Ya
  (refine S ?_;try exact jI)
  by_cases hk:k<s.size
  ·have Vf:=zQ (s:=s) (a:=k) hk
   (repeat' (first|refine aq fun K hK=>?_|refine ak ?_|(refine hK _ _ ?_;clear hK K)|(refine ao ?_ ?_<;>intro hc<;>try exact jz)|refine cp (MM s k hs hk) ?_|refine ap ?_|exact jI|(clear hK K)))
   ·refine fH [.tmp 2,.tmp 3,.tmp 4] ?_;rw[<-Ya,TI hk (by assumption)];refine bt.aQ ?_;exact jo
   ·obtain⟨e,XK,ZM,he3⟩:=Vf hc;have h4:=vY he3;rw[XK]
    (repeat' (first|refine aq fun K hK=>?_|refine ak ?_|(refine hK _ _ ?_;clear hK K)|(refine ao ?_ ?_<;>intro hc<;>try exact jz)|refine cp (JH s e hs he3) ?_|refine ap ?_|exact jI|(clear hK K)))
    refine U5 _ _ (po [1] (o9 s e,ts++[(ix s k).1]) ⟨h4.2,by simp;omega,by rw[<-Ya,S3 hk hc,XK];simp⟩ jJ rfl Sd Sd jo)
  ·(repeat' (first|refine aq fun K hK=>?_|refine ak ?_|(refine hK _ _ ?_;clear hK K)|(refine ao ?_ ?_<;>intro hc<;>try exact jz)|refine Vb _ _ ?_|refine ap ?_|exact jI|(clear hK K)))
   refine fH [.tmp 2,.tmp 3,.tmp 4] ?_;rw[<-Ya,SS hk];simp only[go_sem];refine bt.aQ ?_;refine jA ?_ (jA (.same _ rfl) (jA (.same _ rfl) trivial));refine cY.row (enc:=mB) (e:=133) (ts++[⟨0,⟨#[]⟩,s.size⟩]) ?_ ?_ ?_
   ·rfl
   ·(refine S ?_;try exact jI)
    rfl
   ·(refine S ?_;try exact jI)
def iz(r:Rd):UM:=[rS r.src,aM mB 3 r.l,rI r.i,.rs 1 r.nodes.length 5 r.nodes.length,rI r.deep,rI r.e,rI r.at_]
def cF(r:Rd):UL:=[(0,.var 94 (iz r)),(1,.aG 66 5 (r.nodes.map eN))]
attribute [go_sem] cF iz
abbrev pR:AV:=.pt 0 0 0 0
structure o3(r:Rd):Prop where
 src:r.src.size<=1000
 pos:0<=r.i
 lt:r.i<r.l.length
 len:r.l.length<=2000
 pn:-1000<=r.deep
 pJ:r.deep<=1000
 nodes:r.nodes.length<=100000
def bz{r:Rd}(h:r.Inv):o3 r:=by have hp:=h.dO;unfold Rd.dO at hp;have:=h.lt;have:=h.pn;have:=h.pJ;exact⟨h.src,h.pos,h.lt,h.len,jB,jB,by split at hp<;>omega⟩
def uL(r:Rd)(e:Int)(h:o3 r):ab prog 99 [pR,rI e] (cF r) (fun v l=>v=.aQ []/\l=cF (r.aE e)):=by
 obtain⟨h1,h2,h3,h4,h5,h6,h7⟩:=h;refine aO func99 ntmps99 ?_;simp only[cF,iz]
 (repeat' (first|refine aq fun K hK=>?_|refine ak ?_|(with_reducible refine gR 2 ?_);refine dE 2 (ba 0 15) mixed ?_|(refine hK _ _ ?_;clear hK K)|(refine ao ?_ ?_<;>intro hc<;>try exact jz)|refine ap ?_|exact jI|(clear hK K)))
 ·(refine bY [] ?_ ?_<;>(try simp only[go_sem]))
  simp only[Rd.aE,if_pos hc];rfl
 ·(refine bY [] ?_ ?_<;>(try simp only[go_sem]))
  simp only[Rd.aE,if_neg hc]
def gC(r:Rd)(t:UR)(h:o3 r):ab prog 70 [pR,rS t] (cF r) (fun v l=>v=rB (r.is t)/\l=cF r):=by
 obtain⟨h1,h2,h3,h4,h5,h6,h7⟩:=h;refine aO func70 ntmps70 ?_;simp only[cF,iz]
 (repeat' (first|refine aq fun K hK=>?_|refine ak ?_|(with_reducible refine gR 1 ?_);refine dE 1 (ba 0 12) mixed ?_|(refine hK _ _ ?_;clear hK K)|(refine ao ?_ ?_<;>intro hc<;>try exact jz)|refine ap ?_|exact jI|(clear hK K)))
 (refine aW [.tmp 4] ?_;try simp only[go_sem])
 rfl
def xr(r:Rd)(k:Int)(h:o3 r):ab prog 43 [pR,rI k] (cF r) (fun v l=>v=rB (r.kind k)/\l=cF r):=by
 obtain⟨h1,h2,h3,h4,h5,h6,h7⟩:=h;refine aO func43 ntmps43 ?_;simp only[cF,iz]
 (repeat' (first|refine aq fun K hK=>?_|refine ak ?_|(with_reducible refine gR 1 ?_);refine dE 1 (ba 0 21) mixed ?_|(refine hK _ _ ?_;clear hK K)|(refine ao ?_ ?_<;>intro hc<;>try exact jz)|refine ap ?_|exact jI|(clear hK K)))
 (refine aW [.tmp 4] ?_;try simp only[go_sem])
 rfl
def iY(r:Rd)(t:UR)(h:o3 r):ab prog 68 [pR,rS t] (cF r) (fun v l=>v=.aQ []/\l=cF (r.av t)):=by
 have Yf:=gC r t h;have hf:=uL r 20 h;obtain⟨h1,h2,h3,h4,h5,h6,h7⟩:=h;simp only[cF,iz]at Yf hf;refine aO func68 ntmps68 ?_;simp only[cF,iz]
 (repeat' (first|refine aq fun K hK=>?_|refine ak ?_|(refine hK _ _ ?_;clear hK K)|(refine ao ?_ ?_<;>intro hc<;>try exact jz)|refine cm (Yf) ?_|refine cm (hf) ?_|refine ap ?_|exact jI|(clear hK K)))
 ·(refine bY [] ?_ ?_<;>(try simp only[go_sem]))
  simp only[Rd.av,hc,Bool.false_eq_true,if_false,go_sem]
 ·(refine bY [] ?_ ?_<;>(try simp only[go_sem]))
  simp only[Rd.av,hc,if_true];rfl
def wk(r:Rd)(h:o3 r):ab prog 69 [pR] (cF r) (fun v l=>v=rS r.name.2/\l=cF r.name.1):=by
 have Yf:=xr r 3 h;have hf:=uL r 20 h;obtain⟨h1,h2,h3,h4,h5,h6,h7⟩:=h;simp only[cF,iz]at Yf hf;refine aO func69 ntmps69 ?_;simp only[cF,iz]
 (repeat' (first|refine aq fun K hK=>?_|refine ak ?_|(with_reducible refine gR 6 ?_);refine dE 6 (ba 0 13) mixed ?_|(refine hK _ _ ?_;clear hK K)|(refine ao ?_ ?_<;>intro hc<;>try exact jz)|refine cm (Yf) ?_|refine cm (hf) ?_|refine ap ?_|exact jI|(clear hK K)))
 ·(refine bY [.tmp 2] ?_ ?_<;>(try simp only[go_sem]))
  ·simp only[Rd.name,hc,Bool.false_eq_true,if_false]
  ·simp only[Rd.name,hc,Bool.false_eq_true,if_false,go_sem]
 ·(refine bY [.tmp 2] ?_ ?_<;>(try simp only[go_sem]))
  ·simp only[Rd.name,hc,if_true];rw[show r.i+1-1=r.i from jB];rfl
  ·simp only[Rd.name,hc,if_true];rfl
def ir(r:Rd)(h:o3 r):ab prog 67 [pR] (cF r) (fun v l=>v=rI r.cV/\l=cF r):=by
 obtain⟨h1,h2,h3,h4,h5,h6,h7⟩:=h;refine aO func67 ntmps67 ?_;simp only[cF,iz]
 (repeat' (first|refine aq fun K hK=>?_|refine ak ?_|(with_reducible refine gR 1 ?_);refine dE 1 (ba 0 17) mixed ?_|(refine hK _ _ ?_;clear hK K)|(refine ao ?_ ?_<;>intro hc<;>try exact jz)|refine cp (Nx _ _ jB) ?_|refine ap ?_|exact jI|(clear hK K)))
 (refine bY [.tmp 2] ?_ ?_<;>(try simp only[go_sem]))
 rfl
def xB(r:Rd)(k ln n:Int)(nm:UR)(L:UP)(h:o3 r):ab prog 104 [pR,rI k,rI ln,rI n,rS nm,aM eI 1 L] (cF r) (fun v l=>v=rI (r.put k ln n nm L).2/\l=cF (r.put k ln n nm L).1):=by
 obtain⟨h1,h2,h3,h4,h5,h6,h7⟩:=h;refine aO func104 ntmps104 ?_;simp only[cF,iz]
 (repeat' (first|refine aq fun K hK=>?_|refine ak ?_|(refine hK _ _ ?_;clear hK K)|(refine ao ?_ ?_<;>intro hc<;>try exact jz)|refine ap ?_|exact jI|(clear hK K)))
 (refine bY [.tmp 12] ?_ ?_<;>(try simp only[go_sem]))
 ·simp only[Rd.put];exact Pg jB
 ·simp only[Rd.put,Rd.node,List.map_append,List.length_append,List.length_cons,List.length_nil];rfl
def uN(r:Rd)(h:o3 r):ab prog 102 [pR] (cF r) (fun v l=>v=.aQ []/\l=cF r.down):=by
 have hf:=uL r 21 h;obtain⟨h1,h2,h3,h4,h5,h6,h7⟩:=h;simp only[cF,iz]at hf;refine aO func102 ntmps102 ?_;simp only[cF,iz]
 (repeat' (first|refine aq fun K hK=>?_|refine ak ?_|(refine hK _ _ ?_;clear hK K)|(refine ao ?_ ?_<;>intro hc<;>try exact jz)|refine cm (hf) ?_|refine ap ?_|exact jI|(clear hK K)))
 ·(refine bY [] ?_ ?_<;>(try simp only[go_sem]))
  simp only[Rd.down,if_pos hc,go_sem]
 ·(refine bY [] ?_ ?_<;>(try simp only[go_sem]))
  simp only[Rd.down];rw[jN]
def sa(r:Rd)(h:o3 r):ab prog 100 [pR] (cF r) (fun v l=>v=rS r.word/\l=cF r):=by
 have Yf:=xr r 4 h;obtain⟨h1,h2,h3,h4,h5,h6,h7⟩:=h;simp only[cF,iz]at Yf;refine aO func100 ntmps100 ?_;simp only[cF,iz]
 (repeat' (first|refine aq fun K hK=>?_|refine ak ?_|(with_reducible refine gR 3 ?_);refine dE 3 (ba 0 12) mixed ?_|(refine hK _ _ ?_;clear hK K)|(refine ao ?_ ?_<;>intro hc<;>try exact jz)|refine cm (Yf) ?_|refine ap ?_|exact jI|(clear hK K)))
 ·(refine bY [.tmp 2] ?_ ?_<;>(try simp only[go_sem]))
  simp only[Rd.word,hc,if_true];rfl
 ·(refine bY [.tmp 2] ?_ ?_<;>(try simp only[go_sem]))
  simp only[Rd.word,hc,Bool.false_eq_true,if_false]
def Lp(r:Rd)(h:o3 r)(hn:r.kind 3=true->r.i+1<r.l.length):ab prog 136 [pR] (cF r) (fun v l=>v=rB r.calls/\l=cF r):=by
 have Yf:=xr r 3 h;obtain⟨h1,h2,h3,h4,h5,h6,h7⟩:=h;simp only[cF,iz]at Yf;refine aO func136 ntmps136 ?_;simp only[cF,iz]
 (repeat' (first|refine aq fun K hK=>?_|refine ak ?_|(with_reducible refine gR 2 ?_);refine dE 2 (ba 0 32) mixed ?_|(refine hK _ _ ?_;clear hK K)|(refine ao ?_ ?_<;>intro hc<;>try exact jz)|refine cm (Yf) ?_|refine ap ?_|exact jI|(clear hK K)))
 refine⟨fun h=>⟨h,jB,hn h⟩,fun h=>⟨h,jB,hn (by simp only[Bool.and_eq_true]at h;exact h.1)⟩,?_⟩
 (repeat' (first|refine aq fun K hK=>?_|refine ak ?_|(refine hK _ _ ?_;clear hK K)|(refine ao ?_ ?_<;>intro hc<;>try exact jz)|refine ap ?_|exact jI|(clear hK K)))
 (refine aW [.tmp 2] ?_;try simp only[go_sem])
 rfl
def Qp(lv:Int):aB prog 175 [rI lv] (aM eS 1 (nq lv)):=by
 refine bF func175 ntmps175 ?_
 (repeat' (first|refine aq fun K hK=>?_|refine ak ?_|(refine hK _ _ ?_;clear hK K)|(refine ao ?_ ?_<;>intro hc<;>try exact jz)|refine ap ?_|exact jI|(clear hK K)))
 all_goals refine fH [.tmp 2] ?_
 all_goals simp only[nq, *,if_true,if_false,Int.reduceEq,if_pos,if_neg,not_false_eq_true]
 all_goals exact .lit _ _ _ _ _
def OB(lv:Int):(nq lv).length<=4/\∀s∈nq lv,s≠⟨#[]⟩:=by
 unfold nq;split
 ·decide
 ·split
  ·decide
  ·split
   ·decide
   ·split<;>decide
def HI(r:Rd)(lv:Int)(h:o3 r):ab prog 163 [pR,rI lv] (cF r) (fun v l=>v=rS (r.next lv)/\l=cF r):=by
 have Yf:=fun t=>gC r t h
 have hl:=OB lv;obtain⟨h1,h2,h3,h4,h5,h6,h7⟩:=h;simp only[cF,iz]at Yf;refine aO func163 ntmps163 ?_;simp only[cF,iz]
 (repeat' (first|refine aq fun K hK=>?_|refine ak ?_|(refine hK _ _ ?_;clear hK K)|(refine ao ?_ ?_<;>intro hc<;>try exact jz)|refine cp (Qp lv) ?_|refine ap ?_|exact jI|(clear hK K)))
 have Vb:=hK;clear hK;refine ee (S:=Nat) [(4,1),(6,2),(10,17)] (fun k=>k<=(nq lv).length/\∀j,j<k->r.is (nth (nq lv) j)=false) (fun k=>[(6,rI k)]) (fun _=>⟨[0,1],cF r⟩) (fun k=>(nq lv).length-k) 0 ⟨jB,fun j h=>jB⟩ (dZ rfl cr) ?_;rintro k ⟨Vr,Vc⟩ Kr U5;simp only[cF,iz];refine S ?_
 (repeat' (first|refine aq fun K hK=>?_|refine ak ?_|(refine hK _ _ ?_;clear hK K)|(refine ao ?_ ?_<;>intro hc<;>try exact jz)|refine cm (Yf _) ?_|refine Vb _ _ ?_|refine ap ?_|exact jI|(clear hK K)))
 ·(refine bY [.tmp 4] ?_ ?_<;>(try simp only[go_sem]))
  have:(nq lv).find? (fun s=>r.is s)=some (nth (nq lv) k):=yn Vc jB hc;simp only[Rd.next,this]
 ·refine U5 _ _ (dY (k+1) ⟨jB,fun j hj=>?_⟩ jJ rfl cr);by_cases e:j=k
  ·subst e;exact hc
  ·exact Vc j jB
 ·(refine bY [.tmp 4] ?_ ?_<;>(try simp only[go_sem]))
  have:(nq lv).find? (fun s=>r.is s)=none:=AD fun j hj=>Vc j jB
  simp only[Rd.next,this]
def Li{P:UY}{f:FuncId}{args args':UM}{l:UL}{R:AV->List U0->Prop}(hl:qe args args')(h:ab P f args' l R):ab P f args l R:=fun w vs h1 h2=>by
 obtain⟨O',hg⟩:=hl.get;refine h w vs h1 ⟨O'.symm.trans h2.1,fun i a v ha hv=>?_⟩;have hi:i<args.length:=by rw[O'];exact(List.getElem?_eq_some_iff.1 ha).1
 exact hg i args[i] a (List.getElem?_eq_getElem hi) ha w v (h2.2 i _ v (List.getElem?_eq_getElem hi) hv)
def k8(r:Rd)(k ln n:Int)(nm:UR)(L:UP)(a:AV)(ha:gM a (aM eI 1 L))(h:o3 r):ab prog 104 [pR,rI k,rI ln,rI n,rS nm,a] (cF r) (fun v l=>v=rI (r.put k ln n nm L).2/\l=cF (r.put k ln n nm L).1):=
 Li (args':=[pR,rI k,rI ln,rI n,rS nm,aM eI 1 L]) ⟨gM.refl _,gM.refl _,gM.refl _,gM.refl _,gM.refl _,ha,trivial⟩ (xB r k ln n nm L h)
def DL(n:Nat):Prop:=∀r:Rd,r.Inv->8*r.rem+1<=n->ab prog 174 [pR] (cF r) (fun v l=>v=rI (qK n r).2/\l=cF (qK n r).1)
def zi(n:Nat):Prop:=∀r:Rd,r.Inv->8*r.rem+2<=n->ab prog 162 [pR] (cF r) (fun v l=>v=rI (iJ n r).2/\l=cF (iJ n r).1)
def yD(n:Nat):Prop:=∀(lv:Nat) (r:Rd),lv<=5->r.Inv->8*r.rem+8-lv<=n->ab prog 138 [pR,rI lv] (cF r) (fun v l=>v=rI (dV n lv r).2/\l=cF (dV n lv r).1)
def OS(n:Nat)(ha:DL n)(hf:zi n):zi (n+1):=by
 intro r h hn;have sg:∀t,r.is t=true->r.e=0/\r.down.Inv/\r.down.inc.Inv/\r.down.inc.rem+1<=r.rem:=fun t ht=>by
  obtain⟨he,hk⟩:=Rd.bc ht;obtain⟨h1,h2,h3,h4,_⟩:=Rd.bO h he;have WM:r.down.tok=r.tok:=by unfold Rd.tok;rw[h3,h4]
  obtain⟨s1,e1⟩:=Rd.br h1 (by rw[WM];exact hk);have:=s1.inv h1;have hb:=Rd.behind h1 (by rw[WM];exact hk);refine⟨he,h1,this,?_⟩;unfold Rd.rem;rw[if_pos he];have:r.down.inc.i=r.i+1:=by show r.down.i+1=_;rw[h3]
  have hl:r.down.inc.l=r.l:=h4;rw[this,hl];rw[h3,h4]at hb;split<;>omega
 by_cases hm:r.is (⟨#[45]⟩:UR)=true
 ·obtain⟨he,h1,h2,h3⟩:=sg _ hm;have s2:=(td n).2.1 _ h2;have h4:=s2.inv h2;have h5:(iJ n r.down.inc).1.up.Inv:=(Rd.fC h he ((Rd.br h1 (by obtain⟨_,_,h3,h4,_⟩:=Rd.bO h he;unfold Rd.tok;rw[h3,h4];exact(Rd.bc hm).2)).1.trans s2)).inv h;have hd1:=h2.pn;have hd2:=h2.pJ;have Xx:=h1.lt;have hi2:=h1.len;have hi3:=h1.pos;have hd3:=h4.pn;have hd4:=h4.pJ;rw[iJ,if_pos hm];refine aO func162 ntmps162 ?_;refine S ?_
  (have W:=hm;repeat' (first|refine aq fun K hK=>?_|refine ak ?_|(refine hK _ _ ?_;clear hK K)|(refine ao ?_ ?_<;>intro hc<;>try exact jz)|refine cm (ir r (bz h)) ?_|refine cm (gC r _ (bz h)) ?_|refine cm (uN r (bz h)) ?_|refine cm (hf r.down.inc h2 jB) ?_|refine cm (k8 (iJ n r.down.inc).1.up _ _ _ _ [(iJ n r.down.inc).2] _ gM.sl (bz h5)) ?_|refine ap ?_|exact jI|(clear hK K)))
  (refine bY [.tmp 2] ?_ ?_<;>(try simp only[go_sem]))
 ·have hmf:r.is (⟨#[45]⟩:UR)=false:=by simpa using hm
  by_cases hq:r.is (⟨#[33]⟩:UR)=true
  ·obtain⟨he,h1,h2,h3⟩:=sg _ hq;have s2:=(td n).2.1 _ h2;have h4:=s2.inv h2;have h5:(iJ n r.down.inc).1.up.Inv:=(Rd.fC h he ((Rd.br h1 (by obtain⟨_,_,h3,h4,_⟩:=Rd.bO h he;unfold Rd.tok;rw[h3,h4];exact(Rd.bc hq).2)).1.trans s2)).inv h;have hd1:=h2.pn;have hd2:=h2.pJ;have Xx:=h1.lt;have hi2:=h1.len;have hi3:=h1.pos;have hd3:=h4.pn;have hd4:=h4.pJ;rw[iJ,if_neg hm,if_pos hq];refine aO func162 ntmps162 ?_;refine S ?_
   (have W:=jA hmf hq;repeat' (first|refine aq fun K hK=>?_|refine ak ?_|(refine hK _ _ ?_;clear hK K)|(refine ao ?_ ?_<;>intro hc<;>try exact jz)|refine cm (ir r (bz h)) ?_|refine cm (gC r _ (bz h)) ?_|refine cm (uN r (bz h)) ?_|refine cm (hf r.down.inc h2 jB) ?_|refine cm (k8 (iJ n r.down.inc).1.up _ _ _ _ [(iJ n r.down.inc).2] _ gM.sl (bz h5)) ?_|refine ap ?_|exact jI|(clear hK K)))
   (refine bY [.tmp 2] ?_ ?_<;>(try simp only[go_sem]))
  ·have hqf:r.is (⟨#[33]⟩:UR)=false:=by simpa using hq
   rw[iJ,if_neg hm,if_neg hq];refine aO func162 ntmps162 ?_;refine S ?_
   (have W:=jA hmf hqf;repeat' (first|refine aq fun K hK=>?_|refine ak ?_|(refine hK _ _ ?_;clear hK K)|(refine ao ?_ ?_<;>intro hc<;>try exact jz)|refine cm (ir r (bz h)) ?_|refine cm (gC r _ (bz h)) ?_|refine cm (ha r h jB) ?_|refine ap ?_|exact jI|(clear hK K)))
   (refine bY [.tmp 2] ?_ ?_<;>(try simp only[go_sem]))
def Oy(n:Nat)(hf:zi n)(X5:∀m,m<=n->yD m):yD (n+1):=by
 intro lv r hlv h hn;have U3:∀(m:Nat) (q:Rd),m<=n->lv+1<=5->q.Inv->8*q.rem+7-lv<=m->ab prog 138 [pR,rI ((lv:Int)+1)] (cF q) (fun v l=>v=rI (dV m (lv+1) q).2/\l=cF (dV m (lv+1) q).1):=fun m q hm hl hq hr=>by have:=X5 m hm (lv+1) q hl hq jB;rw[show((lv+1:Nat):Int)=(lv:Int)+1 from jB]at this;exact this
 by_cases h5:lv=5
 ·subst h5;rw[dV,if_pos rfl];refine aO func138 ntmps138 ?_;refine S ?_
  (repeat' (first|refine aq fun K hK=>?_|refine ak ?_|(refine hK _ _ ?_;clear hK K)|(refine ao ?_ ?_<;>intro hc<;>try exact jz)|refine cm (hf r h jB) ?_|refine ap ?_|exact jI|(clear hK K)))
  (refine bY [.tmp 4] ?_ ?_<;>(try simp only[go_sem]))
 ·rw[dV,if_neg h5];have s1:=(td n).2.2.1 (lv+1) r h;have h1:=s1.inv h;have Xh:=s1.rem;refine aO func138 ntmps138 ?_;refine S ?_
  (repeat' (first|refine aq fun K hK=>?_|refine ak ?_|(refine hK _ _ ?_;clear hK K)|(refine ao ?_ ?_<;>intro hc<;>try exact jz)|refine cm (ir r (bz h)) ?_|refine cm (U3 n r jl jB h jB) ?_|refine ap ?_|exact jI|(clear hK K)))
  refine ee (S:=Nat×Rd×Int) [(4,1),(6,3),(19,27)] (fun s=>s.2.1.Inv/\8*s.2.1.rem+7-lv<=s.1/\s.1<=n/\oT s.1 lv r.cV s.2=oT n lv r.cV (dV n (lv+1) r)) (fun s=>[(6,rI s.2.2)]) (fun s=>⟨[0,1],cF s.2.1⟩) (fun s=>s.1) (n,dV n (lv+1) r) ⟨h1,jJ,Nat.le_refl _,rfl⟩ (dZ rfl cr) ?_;rintro⟨m,q,x⟩ ⟨hq,Xy,WW,Wd⟩ Kr U5;simp only at hq Xy WW Wd;rw[<-Wd];obtain⟨m,rfl⟩:∃k,m=k+1:=⟨m-1,jB⟩;have Zg:=hq.lt;have hqp:=hq.pos;have hqn:=hq.len;by_cases hx:q.next lv=⟨#[]⟩
  ·rw[oT,if_pos hx];refine S ?_
   (have W:=hx;repeat' (first|refine aq fun K hK=>?_|refine ak ?_|(refine hK _ _ ?_;clear hK K)|(refine ao ?_ ?_<;>intro hc<;>try exact jz)|refine cm (HI q lv (bz hq)) ?_|refine ap ?_|exact jI|(clear hK K)))
   (refine bY [.tmp 4] ?_ ?_<;>(try simp only[go_sem]))
  ·have hk:=Rd.bc (Rd.lE hx);obtain⟨t1,e1⟩:=Rd.br hq hk.2;have hi:=t1.inv hq;have hri:=Rd.dc hq hk;have t2:=(td m).2.2.1 (lv+1) _ hi;have hj:=t2.inv hi;have hrj:=t2.rem;have t3:=fun L=>Rd.cZ (t1.trans t2) (by have:=t2.dO;omega) 9 r.cV 0 (q.next lv) L
   rw[oT,if_neg hx];refine S ?_
   (have W:=hx;repeat' (first|refine aq fun K hK=>?_|refine ak ?_|(refine hK _ _ ?_;clear hK K)|(refine ao ?_ ?_<;>intro hc<;>try exact jz)|refine cm (HI q lv (bz hq)) ?_|refine cm (U3 m q.inc jB jB hi jB) ?_|refine cm (k8 (dV m (lv+1) q.inc).1 _ _ _ _ [x,(dV m (lv+1) q.inc).2] _ gM.sl (bz hj)) ?_|refine ap ?_|exact jI|(clear hK K)))
   ·have h2:lv=2:=jB
    (refine bY [.tmp 4] ?_ ?_<;>(try simp only[go_sem]))
    ·simp only[if_pos h2]
    ·simp only[if_pos h2]
   ·have h2:¬lv=2:=jB;refine U5 _ _ (dY (m,(dV m (lv+1) q.inc).1.put 9 r.cV 0 (q.next lv) [x,(dV m (lv+1) q.inc).2]) ⟨(t3 _).inv hq,?_,jJ,?_⟩ jJ rfl cr)
    ·have h6:∀L,((dV m (lv+1) q.inc).1.put 9 r.cV 0 (q.next lv) L).1.rem=(dV m (lv+1) q.inc).1.rem:=fun L=>rfl
     simp only[h6];omega
    ·rw[<-Wd,oT,if_neg hx,if_neg h2]
end Go.Proofs.YtijdhbokcdpklaaGreatDoor