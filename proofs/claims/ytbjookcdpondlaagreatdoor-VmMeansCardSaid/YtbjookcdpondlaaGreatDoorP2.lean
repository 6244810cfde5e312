/- Lemmas. No conditions. -/
import Derived.Test.YtbjookcdpondlaaGreatDoorLxT
set_option linter.all false
set_option maxHeartbeats 4000000
set_option maxRecDepth 10000
namespace Go.Gd
open Go
def lM{α:Type}[Inhabited α]{a b:List α}{i:Nat}(h:i<a.length):nth (a++b) i=nth a i:=by simp[nth,List.getD_eq_getElem?_getD,List.getElem?_append_left h]
def mn{α:Type}[Inhabited α](a:List α)(x:α):nth (a++[x]) a.length=x:=by simp[nth,List.getD_eq_getElem?_getD]
def bA(t:List bu)(i:Int):Int:=(nth t i.toNat).kind
def bT(k:Int):Prop:=1<=k/\k<=9
def eF(k:Int):Prop:=bT k\/k=19\/k=20\/k=21
def eo(k:Int):Prop:=10<=k/\k<=17
def uj:List SK:=[(⟨#[124,124]⟩:SK),(⟨#[38,38]⟩:SK),(⟨#[60]⟩:SK),(⟨#[60,61]⟩:SK),(⟨#[61,61]⟩:SK),(⟨#[33,61]⟩:SK),(⟨#[43]⟩:SK),(⟨#[45]⟩:SK),(⟨#[42]⟩:SK),(⟨#[47]⟩:SK),(⟨#[37]⟩:SK)]
structure Shape(t:List bu)(n:bu):Prop where
 any:1<=n.kind/\n.kind<=21
 zero:n.kind=1\/n.kind=2\/n.kind=3\/n.kind=4\/n.kind=19->n.l=[]
 one:n.kind=5\/n.kind=6\/n.kind=7\/n.kind=8\/n.kind=14\/n.kind=20->∃a,n.l=[a]/\bT (bA t a)
 two:n.kind=9\/n.kind=12->∃a b,n.l=[a,b]/\bT (bA t a)/\bT (bA t b)
 right:n.kind=10\/n.kind=11->∃a,n.l=[a]/\eF (bA t a)
 nN:n.kind=13->∃a,n.l=[a]/\bA t a=21
 kI:n.kind=15->∃a b,bT (bA t a)/\bA t b=18/\(n.l=[a,b]\/∃d,n.l=[a,b,d]/\bA t d=18)
 dS:n.kind=16->∃a b,n.l=[a,b]/\bT (bA t a)/\bA t b=18
 ret:n.kind=17->n.l=[]\/∃a,n.l=[a]/\bT (bA t a)
 block:n.kind=18->∀a∈n.l,eo (bA t a)
 call:n.kind=21->∀a∈n.l,bT (bA t a)
 num:n.kind=1->∃s,rC s/\n.n=qo s
 bool:n.kind=2->n.n=0\/n.n=1
 text:n.kind=3->n.name.size<=12
 sign:n.kind=9->n.name∈uj
inductive aJ(t:List bu):Nat->List Int->Nat->Prop
 |nil (k:Nat):aJ t k [] k
 |cons {lo c hi:Nat} {L:List Int} (hc:c<t.length) (h1:aJ t lo (nth t c).l c) (h2:aJ t (c+1) L hi):aJ t lo ((c:Int)::L) hi
variable{t:List bu}{lo hi:Nat}{L:SI}
def aJ.le(h:aJ t lo L hi):lo<=hi:=by
 induction h with
 |nil=>exact Nat.le_refl _
 |cons _ _ _ i1 i2=>omega
def aJ.mem(h:aJ t lo L hi):∀a∈L,0<=a/\lo<=a.toNat/\a.toNat<hi/\a.toNat<t.length:=by
 induction h with
 |nil=>intro a ha;simp at ha
 |@cons lo c hi L hc h1 h2 i1 i2=>
  intro a ha;have l1:=h1.le;have l2:=h2.le;rcases List.mem_cons.1 ha with rfl|ha
  ·exact⟨jB,by simpa using l1,by simp;omega,by simpa using hc⟩
  ·have:=i2 a ha;omega
variable{u:List bu}
def aJ.mono(h:aJ t lo L hi):aJ (t++u) lo L hi:=by
 induction h with
 |nil k=>exact .nil k
 |cons hc _ _ i1 i2=>exact .cons jF (by rw[lM hc];exact i1) i2
variable{M:SI}
def aJ.append{fA:Nat}(h:aJ t lo L fA):aJ t fA M hi->aJ t lo (L++M) hi:=by
 induction h with
 |nil=>intro k;exact k
 |cons hc h1 _ _ i2=>intro k;exact .cons hc h1 (i2 k)
def aJ.one{c:Nat}(hc:c<t.length)(h:aJ t lo (nth t c).l c):aJ t lo [(c:Int)] (c+1):=.cons hc h (.nil _)
def na{a:Int}(h:a.toNat<t.length):bA (t++u) a=bA t a:=by unfold bA;rw[lM h]
def Shape.mono{n:bu}(h:Shape t n)(hl:∀a∈n.l,a.toNat<t.length):Shape (t++u) n where
 any:=h.any
 zero:=h.zero
 one:=fun e=>by obtain⟨a,h1,h2⟩:=h.one e;exact⟨a,h1,by rw[na (hl a (by rw[h1];simp))];exact h2⟩
 two:=fun e=>by obtain⟨a,b,h1,h2,h3⟩:=h.two e;exact⟨a,b,h1,by rw[na (hl a (by rw[h1];simp))];exact h2,by rw[na (hl b (by rw[h1];simp))];exact h3⟩
 right:=fun e=>by obtain⟨a,h1,h2⟩:=h.right e;exact⟨a,h1,by rw[na (hl a (by rw[h1];simp))];exact h2⟩
 nN:=fun e=>by obtain⟨a,h1,h2⟩:=h.nN e;exact⟨a,h1,by rw[na (hl a (by rw[h1];simp))];exact h2⟩
 kI:=fun e=>by
  obtain⟨a,b,h1,h2,h3⟩:=h.kI e;rcases h3 with h3|⟨d,h3,h4⟩
  ·exact⟨a,b,by rw[na (hl a (by rw[h3];simp))];exact h1,by rw[na (hl b (by rw[h3];simp))];exact h2,.inl h3⟩
  ·exact⟨a,b,by rw[na (hl a (by rw[h3];simp))];exact h1,by rw[na (hl b (by rw[h3];simp))];exact h2,.inr ⟨d,h3,by rw[na (hl d (by rw[h3];simp))];exact h4⟩⟩
 dS:=fun e=>by obtain⟨a,b,h1,h2,h3⟩:=h.dS e;exact⟨a,b,h1,by rw[na (hl a (by rw[h1];simp))];exact h2,by rw[na (hl b (by rw[h1];simp))];exact h3⟩
 ret:=fun e=>by
  rcases h.ret e with h1|⟨a,h1,h2⟩
  ·exact .inl h1
  ·exact .inr ⟨a,h1,by rw[na (hl a (by rw[h1];simp))];exact h2⟩
 block:=fun e a ha=>by rw[na (hl a ha)];exact h.block e a ha
 call:=fun e a ha=>by rw[na (hl a ha)];exact h.call e a ha
 num:=h.num
 bool:=h.bool
 text:=h.text
 sign:=h.sign
def aJ.len(h:aJ t lo L hi):L.length+lo<=hi:=by
 induction h with
 |nil=>simp
 |@cons lo c hi L hc h1 h2 i1 i2=> have:=h1.le;simp only[List.length_cons];omega
structure Mk(t t':List bu)(L:List Int):Prop where
 pre:∃u,t'=t++u
 chain:aJ t' t.length L t'.length
 shape:∀k,t.length<=k->k<t'.length->Shape t' (nth t' k)/\(∀a∈(nth t' k).l,0<=a/\a.toNat<k)/\∃lo,aJ t' lo (nth t' k).l k
def Mk.refl(t:List bu):Mk t t []:=⟨⟨[],jE⟩,.nil _,fun k h1 h2=>jB⟩
variable{a b:List bu}
def Mk.trans{c:List bu}(h:Mk a b L)(k:Mk b c M):Mk a c (L++M):=by
 obtain⟨⟨u,rfl⟩,h2,h3⟩:=h;obtain⟨⟨v,rfl⟩,k2,k3⟩:=k;refine⟨⟨u++v,jE⟩,h2.mono.append k2,fun i h4 h5=>?_⟩;by_cases hi:i<(a++u).length
 ·obtain⟨g1,g2,lo,g3⟩:=h3 i h4 hi;rw[lM hi];exact⟨g1.mono fun x hx=>by have:=g2 x hx;omega,g2,lo,g3.mono⟩
 ·exact k3 i jB h5
def Mk.put(h:Mk a b L)(n:bu)(hn:n.l=L)(hs:Shape b n):Mk a (b++[n]) [(b.length:Int)]:=by
 obtain⟨⟨u,rfl⟩,h2,h3⟩:=h;have hm:∀x∈n.l,0<=x/\x.toNat<(a++u).length:=fun x hx=>by rw[hn]at hx;exact⟨(h2.mem x hx).1,(h2.mem x hx).2.2.1⟩
 refine⟨⟨u++[n],jE⟩,?_,fun i h4 h5=>?_⟩
 ·have e:((a++u)++[n]).length=(a++u).length+1:=by simp only[List.length_append,List.length_cons,List.length_nil]
  rw[e];refine aJ.one jE ?_;rw[mn,hn];exact h2.mono
 ·by_cases hi:i<(a++u).length
  ·obtain⟨g1,g2,lo,g3⟩:=h3 i h4 hi;rw[lM hi];exact⟨g1.mono fun x hx=>by have:=g2 x hx;omega,g2,lo,g3.mono⟩
  ·have:i=(a++u).length:=by simp at h5 hi ⊢;omega
   subst this;rw[mn];exact⟨hs.mono fun x hx=>(hm x hx).2,hm,a.length,by rw[hn];exact h2.mono⟩
def Mk.kind{c:List bu}(h:Mk a b L)(k:Mk b c M){x:Int}(hx:x∈L):bA c x=bA b x:=by obtain⟨⟨v,rfl⟩,_,_⟩:=k;exact na (h.chain.mem x hx).2.2.2
def Lt(t:List bu)(n:bu):bA (t++[n]) (t.length:Int)=n.kind:=by unfold bA;rw[Int.toNat_natCast,mn]
def ll(l:List cB):Prop:=∀k,k<l.length->(nth l k).kind=2->(nth l k).text.size<=12
def Made(r r':Rd)(L:SI)(C:Int->Prop):Prop:=r'.e=0->Mk r.nodes r'.nodes L/\∀a∈L,C (bA r'.nodes a)
structure Still(r r':Rd):Prop where
 nodes:r'.nodes=r.nodes
 err:r'.e=0->r.e=0
 l:r'.l=r.l
def Still.refl(r:Rd):Still r r:=⟨rfl,id,rfl⟩
theorem Still.trans{a b c:Rd}(h:Still a b)(k:Still b c):Still a c:=⟨k.nodes.trans h.nodes,fun e=>h.err (k.err e),k.l.trans h.l⟩
def y5(r:Rd){e:Int}(he:e≠0):Still r (r.aG e):=⟨Rd.dW _ _,fun h=>(Rd.gH he h).elim,Rd.gD _ _⟩
def nr(r:Rd):Still r r.inc:=⟨rfl,id,rfl⟩
def zL(r:Rd):Still r r.up:=⟨rfl,id,rfl⟩
def jy(r:Rd)(t:SK):Still r (r.ar t):=by
 unfold Rd.ar;split
 ·exact nr r
 ·exact y5 r jC
def uY(r:Rd):Still r r.name.1:=by
 unfold Rd.name;split
 ·exact nr r
 ·exact y5 r jC
def yK(r:Rd):Still r r.down:=by
 unfold Rd.down;split
 ·have:=y5 r (e:=21) jC;exact⟨this.nodes,this.err,this.l⟩
 ·exact⟨rfl,id,rfl⟩
variable{r a b:Rd}{C:Int->Prop}
def Made.pre(s:Still r a)(h:Made a b L C):Made r b L C:=fun e=>by have:=h e;rwa [s.nodes]at this
def Made.post(h:Made r a L C)(s:Still a b):Made r b L C:=fun e=>by have:=h (s.err e);rwa [s.nodes]
def Made.nil(r:Rd)(C:Int->Prop):Made r r [] C:=fun _=>⟨Mk.refl _,fun a ha=>by simp at ha⟩
def Made.qh{D:Int->Prop}(h:Made r a L C)(hc:∀k,C k->D k):Made r a L D:=fun e=>⟨(h e).1,fun a ha=>hc _ ((h e).2 a ha)⟩
def Made.seq{c:Rd}{D:Int->Prop}(h:Made a b L C)(k:Made b c M D)(he:c.e=0->b.e=0):c.e=0->Mk a.nodes c.nodes (L++M)/\(∀x∈L,C (bA c.nodes x))/\∀x∈M,D (bA c.nodes x):=fun e=>by obtain⟨h1,h2⟩:=h (he e);obtain⟨k1,k2⟩:=k e;exact⟨h1.trans k1,fun x hx=>by rw[h1.kind k1 hx];exact h2 x hx,k2⟩
def Made.both{c:Rd}(h:Made a b L C)(k:Made b c M C)(he:c.e=0->b.e=0):Made a c (L++M) C:=fun e=>by obtain⟨h1,h2,h3⟩:=h.seq k he e;exact⟨h1,fun x hx=>(List.mem_append.1 hx).elim (h2 x) (h3 x)⟩
def km(k ln n:Int)(nm:SK)(h:a.e=0->Mk r.nodes a.nodes L/\Shape a.nodes ⟨k,ln,n,nm,L⟩/\C k):Made r (a.put k ln n nm L).1 [(a.put k ln n nm L).2] C:=fun e=>by obtain⟨h1,h2,h3⟩:=h e;refine⟨h1.put _ rfl h2,fun x hx=>?_⟩;rw[List.mem_singleton.1 hx];show C (bA (a.nodes++[_]) (a.nodes.length:Int));rw[Lt];exact h3
variable{k ln n:Int}{nm:SK}
def uG(hk:k=1\/k=2\/k=3\/k=4\/k=17\/k=19)(h1:k=1->∃s,rC s/\n=qo s)(h2:k=2->n=0\/n=1)(h3:k=3->nm.size<=12):Shape t ⟨k,ln,n,nm,[]⟩:=by constructor<;>(try simp only)<;>intros<;>first|(clear h1 h2 h3;omega)|(clear h1 h2 h3;exfalso;omega)|trivial|rfl|(exact .inl rfl)|(exact .inl trivial)|(refine h1 ?_;assumption)|(refine h2 ?_;assumption)|(refine h3 ?_;assumption)|fail
variable{a:Int}
def vA(hk:k=5\/k=6\/k=7\/k=8\/k=14\/k=17\/k=20)(h:bT (bA t a)):Shape t ⟨k,ln,n,nm,[a]⟩:=by constructor<;>(try simp only)<;>intros<;>first|omega|omega|trivial|(exact⟨a,rfl,h⟩)|(exact .inr ⟨a,rfl,h⟩)
def G2(hk:k=10\/k=11)(h:eF (bA t a)):Shape t ⟨k,ln,n,nm,[a]⟩:=by constructor<;>(try simp only)<;>intros<;>first|omega|omega|trivial|(exact⟨a,rfl,h⟩)
def KJ(h:bA t a=21):Shape t ⟨13,ln,n,nm,[a]⟩:=by constructor<;>(try simp only)<;>intros<;>first|omega|omega|trivial|(exact⟨a,rfl,h⟩)
variable{b:Int}
def EU(hk:k=12\/k=9/\nm∈uj)(h:bT (bA t a))(h':bT (bA t b)):Shape t ⟨k,ln,n,nm,[a,b]⟩:=by constructor<;>(try simp only)<;>intros<;>first|omega|omega|trivial|(exact⟨a,b,rfl,h,h'⟩)|(rcases hk with hk|hk;omega;exact hk.2)|fail
def KY(h:bT (bA t a))(h':bA t b=18):Shape t ⟨16,ln,n,nm,[a,b]⟩:=by constructor<;>(try simp only)<;>intros<;>first|omega|omega|trivial|(exact⟨a,b,rfl,h,h'⟩)
def Lp(h:bT (bA t a))(h':bA t b=18):Shape t ⟨15,ln,n,nm,[a,b]⟩:=by constructor<;>(try simp only)<;>intros<;>first|omega|omega|trivial|(exact⟨a,b,h,h',.inl rfl⟩)
def RG{d:Int}(h:bT (bA t a))(h':bA t b=18)(h'':bA t d=18):Shape t ⟨15,ln,n,nm,[a,b,d]⟩:=by constructor<;>(try simp only)<;>intros<;>first|omega|omega|trivial|(exact⟨a,b,h,h',.inr ⟨d,rfl,h''⟩⟩)
def RK(h:∀a∈L,eo (bA t a)):Shape t ⟨18,ln,n,nm,L⟩:=by constructor<;>(try simp only)<;>intros<;>first|omega|omega|trivial|(refine h _ ?_;assumption)|fail
def Jx(h:∀a∈L,bT (bA t a)):Shape t ⟨21,ln,n,nm,L⟩:=by constructor<;>(try simp only)<;>intros<;>first|omega|omega|trivial|(refine h _ ?_;assumption)|fail
def Pj{lv:Int}(h:r.next lv≠⟨#[]⟩):r.next lv∈uj:=by
 unfold Rd.next at h ⊢;cases e:(nL lv).find? (fun s=>r.is s)with
 |none=>rw[e]at h;exact(h rfl).elim
 |some s=>
  have:=List.mem_of_find?_eq_some e;unfold nL at this;simp only;unfold uj;split at this
  ·simp at this ⊢;simp[this]
  split at this
  ·simp at this ⊢;simp[this]
  split at this
  ·simp at this ⊢;rcases this with h|h|h|h<;>simp[h]
  split at this
  ·simp at this ⊢;rcases this with h|h<;>simp[h]
  ·simp at this ⊢;rcases this with h|h|h<;>simp[h]
def qc{r':Rd}(s:Rd.St r r'):r'.e=0->r.e=0:=fun h=>Classical.byContradiction fun e=>s.err e h
def Hw{e:Int}(he:e≠0):Made r (r.aG e) L C:=fun h=>(Rd.gH he h).elim
theorem IX:∀n,(∀r:Rd,r.Inv->ll r.l->8*r.rem+1<=n->Made r (qv n r).1 [(qv n r).2] bT)/\(∀r:Rd,r.Inv->ll r.l->8*r.rem+2<=n->Made r (iA n r).1 [(iA n r).2] bT)/\
  (∀lv (r:Rd),r.Inv->ll r.l->lv<=5->8*r.rem+8<=n+lv->Made r (eH n lv r).1 [(eH n lv r).2] bT)/\
  (∀lv ln (r:Rd) (p:Rd×Int),p.1.Inv->ll p.1.l->lv<=4->8*p.1.rem+7<=n+lv->Made r p.1 [p.2] bT->Made r (oO n lv ln p).1 [(oO n lv ln p).2] bT)
 |0=>⟨fun r h ht hn=>by omega,fun r h ht hn=>by omega,fun lv r h ht h5 hn=>by omega,fun lv ln r p h ht h5 hn hp=>by omega⟩
 |n+1=>by
  obtain⟨ia,kI,ic,il⟩:=IX n;have ist:=sH n;have aX:∀(r:Rd) (t u:SK),r.Inv->ll r.l->r.e=0->8*r.rem+1<=n+1->(r.is t=true\/8*r.rem+8<=n)->Made r ((eH n 0 (r.down.ar t)).1.ar u).up [(eH n 0 (r.down.ar t)).2] bT:=fun r t u h ht he hn hx=>by
   have h1:=(Rd.bS h he).1;have s1:=Rd.aQ h1 t;have hr:8*(r.down.ar t).rem+8<=n+0:=by
    rcases hx with hx|hx
    ·have:=(Rd.gF h hx).1;omega
    ·have:=s1.rem;have hdr:r.down.rem<=r.rem:=by
      unfold Rd.rem;obtain⟨_,_,h3,h4,_⟩:=Rd.bS h he;rw[h3,h4,if_pos he];split<;>omega
     omega
   have st:=(yK r).trans (jy r.down t);have:=ic 0 (r.down.ar t) (s1.inv h1) (by rw[st.l];exact ht) jB hr;exact((this.pre st).post (jy _ _)).post (zL _)
  refine⟨fun r h ht hn=>?_,fun r h ht hn=>?_,fun lv r h ht h5 hn=>?_,fun lv ln r p h ht h5 hn hp=>?_⟩
  ·unfold qv;split
   ·rename_i he;exact fun h=>(he h).elim
   rename_i he;have he:r.e=0:=jB;have Wd:r.i.toNat<r.l.length:=by have:=h.lt;have:=h.pos;omega
   split
   ·rename_i hk;exact km _ _ _ _ fun _=>⟨Mk.refl _,uG jB (fun _=>⟨_,h.num _ Wd hk,rfl⟩) jH jH,by unfold bT;omega⟩
   split
   ·rename_i hk;exact km _ _ _ _ fun _=>⟨Mk.refl _,uG jB jH jH (fun _=>ht _ Wd hk),by unfold bT;omega⟩
   split
   ·rename_i hk;have UW:r.e=0/\r.tok.kind≠0:=⟨he,jB⟩;split
    ·have hi:=(Rd.bv h UW.2).1.inv h;have hr:=Rd.dj h UW;have hm:=aX r.inc (⟨#[91]⟩:SK) (⟨#[93]⟩:SK) hi ht he jB (.inl (by assumption));exact km _ _ _ _ fun e=>⟨(hm e).1,vA jB ((hm e).2 _ jE),by unfold bT;omega⟩
    ·exact km _ _ _ _ fun _=>⟨Mk.refl _,uG jB jH jH jH,by unfold bT;omega⟩
   split
   ·exact km _ _ _ _ fun _=>⟨Mk.refl _,uG jB jH (fun _=>.inr rfl) jH,by unfold bT;omega⟩
   split
   ·exact km _ _ _ _ fun _=>⟨Mk.refl _,uG jB jH (fun _=>.inl rfl) jH,by unfold bT;omega⟩
   split
   ·rename_i hs;have UW:=Rd.aZ hs;split
    ·have hi:=(Rd.bv h UW.2).1.inv h;have hr:=Rd.dj h UW;have hm:=aX r.inc (⟨#[40]⟩:SK) (⟨#[41]⟩:SK) hi ht he jB (.inl (by assumption));exact km _ _ _ _ fun e=>⟨(hm e).1,vA jB ((hm e).2 _ jE),by unfold bT;omega⟩
    ·exact fun e=>(Rd.gH jC e).elim
   split
   ·exact aX r (⟨#[40]⟩:SK) (⟨#[41]⟩:SK) h ht he hn (.inl (by assumption))
   ·exact Hw jC
  ·unfold iA;have sg:∀t,r.is t=true->∀k ln nm,(k=7\/k=8)->Made r (((iA n r.down.inc).1.up).put k ln 0 nm [(iA n r.down.inc).2]).1 [(((iA n r.down.inc).1.up).put k ln 0 nm [(iA n r.down.inc).2]).2] bT:=fun t Wm k ln nm hk=>by
    obtain⟨he,VU⟩:=Rd.aZ Wm;obtain⟨h1,h2,h3,h4,h5,h6⟩:=Rd.bS h he;have Wd:r.down.tok=r.tok:=by unfold Rd.tok;rw[h3,h4]
    have s1:=(Rd.bv h1 (by rw[Wd];exact VU)).1;have st:=(yK r).trans (nr r.down);have hr:8*r.down.inc.rem+2<=n:=by
     have hb:=Rd.behind h VU;unfold Rd.rem at hn ⊢;rw[if_pos he]at hn;have e1:r.down.inc.i=r.i+1:=by show r.down.i+1=_;rw[h3]
     have e2:r.down.inc.l=r.l:=h4;rw[e1,e2];have:=h.pos;split<;>omega
    have hm:=((kI r.down.inc (s1.inv h1) (by rw[st.l];exact ht) hr).pre st).post (zL _);exact km _ _ _ _ fun e=>⟨(hm e).1,vA jB ((hm e).2 _ jE),by unfold bT;omega⟩
   split
   ·rename_i Wm;exact sg _ Wm _ _ _ (.inl rfl)
   split
   ·rename_i Wm;exact sg _ Wm _ _ _ (.inr rfl)
   ·exact ia r h ht jB
  ·unfold eH;split
   ·exact kI r h ht jB
   ·have s1:=ist.2.2.1 (lv+1) r h;exact il lv _ r _ (s1.inv h) (by rw[s1.l];exact ht) jB (by have:=s1.rem;omega) (ic (lv+1) r h ht jB jB)
  ·unfold oO;split
   ·exact hp
   rename_i Wr;have UW:=Rd.aZ (Rd.lT Wr);have s1:=(Rd.bv h UW.2).1;have hr:=Rd.dj h UW;have s2:=ist.2.2.1 (lv+1) _ (s1.inv h);have hm:=ic (lv+1) p.1.inc (s1.inv h) (by rw[s1.l];exact ht) jB jB;have VL:=(hp.post (nr _)).seq hm (qc s2);have Zm:Made r ((eH n (lv+1) p.1.inc).1.put 9 ln 0 (p.1.next lv) [p.2,(eH n (lv+1) p.1.inc).2]).1 [((eH n (lv+1) p.1.inc).1.put 9 ln 0 (p.1.next lv) [p.2,(eH n (lv+1) p.1.inc).2]).2] bT:=
    km _ _ _ _ fun e=>⟨(VL e).1,EU (.inr ⟨rfl,Pj Wr⟩) ((VL e).2.1 _ jE) ((VL e).2.2 _ jE),by unfold bT;omega⟩
   split
   ·exact Zm
   ·have s3:=Rd.dh (s1.trans s2) (by have:=s2.ee;have:=(Rd.bv h UW.2).2;omega) 9 ln 0 (p.1.next lv) [p.2,(eH n (lv+1) p.1.inc).2];exact il lv ln r _ (s3.inv h) (by rw[s3.l];exact ht) h5 (by have e:((eH n (lv+1) p.1.inc).1.put 9 ln 0 (p.1.next lv) [p.2,(eH n (lv+1) p.1.inc).2]).1.rem=(eH n (lv+1) p.1.inc).1.rem:=rfl;show 8*((eH n (lv+1) p.1.inc).1.put 9 ln 0 (p.1.next lv) [p.2,(eH n (lv+1) p.1.inc).2]).1.rem+7<=_;rw[e];have:=s2.rem;omega) Zm
def rb(h:r.Inv)(ht:ll r.l):Made r (dn r).1 [(dn r).2] bT:=(IX _).2.2.1 0 r h ht jB jB
def St.j3{r':Rd}(s:Rd.St r r')(h:ll r.l):ll r'.l:=by rw[s.l];exact h
theorem Iy:∀(n:Nat) (b:Bool) (r0 r:Rd) (L:SI),r.Inv->ll r.l->Made r0 r L bT->Made r0 (nM n b r L).1 (nM n b r L).2 bT
 |0,_,r0,r,L,h,ht,hm=>by unfold nM;exact hm
 |n+1,false,r0,r,L,h,ht,hm=>by unfold nM;exact hm
 |n+1,true,r0,r,L,h,ht,hm=>by
  have s1:=j6 h;have h1:=s1.inv h;have m1:=hm.both (rb h ht) (qc s1);unfold nM;split
  ·rename_i hs;have s2:=(Rd.bv h1 (Rd.aZ hs).2).1;exact Iy n _ r0 _ _ (s2.inv h1) (St.j3 s2 (St.j3 s1 ht)) (m1.post (nr _))
  ·exact m1
def FZ(h:r.Inv)(ht:ll r.l):Made r (mQ r).1 [(mQ r).2] (fun k=>k=21):=by have hs:=zP h;have st:=(uY r).trans (jy r.name.1 (⟨#[40]⟩:SK));have hm:Made r (n8 r).1 (n8 r).2 bT:=Iy _ _ r _ _ (hs.inv h) (St.j3 hs ht) ((Made.nil _ _).pre st);have hm:=hm.post (jy (n8 r).1 (⟨#[41]⟩:SK));exact km _ _ _ _ fun e=>⟨(hm e).1,Jx (hm e).2,rfl⟩
def FT(h:r.Inv)(ht:ll r.l):Made r (lP r).1 [(lP r).2] eF:=by
 unfold lP;split
 ·exact km _ _ _ _ fun _=>⟨Mk.refl _,uG jB jH jH jH,by unfold eF;omega⟩
 split
 ·rename_i hs;have s1:=(Rd.bv h (Rd.aZ hs).2).1;have s2:=s1.trans (Rd.aQ (s1.inv h) (⟨#[40]⟩:SK));have hm:=((rb (s2.inv h) (St.j3 s2 ht)).pre ((nr r).trans (jy _ _))).post (jy _ (⟨#[41]⟩:SK));exact km _ _ _ _ fun e=>⟨(hm e).1,vA jB ((hm e).2 _ jE),by unfold eF;omega⟩
 split
 ·exact(FZ h ht).qh fun k hk=>by unfold eF;omega
 ·exact(rb h ht).qh fun k hk=>.inl hk
def OM(h:r.Inv)(ht:ll r.l)(he:r.e=0):Made r (o9 r).1 [(o9 r).2] bT:=by have h1:=(Rd.bS h he).1;have s1:=Rd.aQ h1 (⟨#[91]⟩:SK);have st:=(yK r).trans (jy r.down (⟨#[91]⟩:SK));exact(rb (s1.inv h1) (by rw[st.l];exact ht)).pre st
def Nb(h:r.Inv)(ht:ll r.l)(he:r.e=0)(ln:Int):Made r (pW r ln).1 [(pW r ln).2] eo:=by
 unfold pW;split
 ·have hm:=(FZ h ht).post (jy _ (⟨#[59]⟩:SK));exact km _ _ _ _ fun e=>⟨(hm e).1,KJ ((hm e).2 _ jE),by unfold eo;omega⟩
 have s0:=Rd.dv h;have h0:=s0.inv h;split
 ·rename_i hs;have he0:=(Rd.aZ hs).1;have m1:=OM h0 (St.j3 s0 ht) he0;obtain⟨t1,t2⟩:=zF h0 hs;have sB:Rd.St r.name.1 ((o9 r.name.1).1.ar (⟨#[93]⟩:SK)).up:=(CG h0 hs).2;have stl:Still (o9 r.name.1).1 (((o9 r.name.1).1.ar (⟨#[93]⟩:SK)).up.ar (⟨#[61]⟩:SK)):=((jy _ _).trans (zL _)).trans (jy _ _);have m2:Made (((o9 r.name.1).1.ar (⟨#[93]⟩:SK)).up.ar (⟨#[61]⟩:SK)) (wb r.name.1).1 [(wb r.name.1).2] bT:=rb (t1.inv h0) (St.j3 t1 (St.j3 s0 ht));have hm:=((m1.post stl).both m2 (qc (j6 (t1.inv h0)))).post (jy _ (⟨#[59]⟩:SK));have hm:=hm.pre (uY r);exact km _ _ _ _ fun e=>⟨(hm e).1,EU (.inl rfl) ((hm e).2 _ jE) ((hm e).2 _ jE),by unfold eo;omega⟩
 ·have s1:=s0.trans (Rd.aQ h0 (⟨#[61]⟩:SK));have hm:=((FT (s1.inv h) (St.j3 s1 ht)).pre ((uY r).trans (jy _ _))).post (jy _ (⟨#[59]⟩:SK));exact km _ _ _ _ fun e=>⟨(hm e).1,G2 (.inr rfl) ((hm e).2 _ jE),by unfold eo;omega⟩
theorem IK:∀n,(∀r:Rd,r.Inv->ll r.l->4*r.rem+1<=n->Made r (gi n r).1 [(gi n r).2] (fun k=>k=18))/\
  (∀(r0 r:Rd) L,r.Inv->ll r.l->4*r.rem+3<=n->Made r0 r L eo->Made r0 (ng n r L).1 (ng n r L).2 eo)/\
  (∀r:Rd,r.Inv->ll r.l->r.e=0->4*r.rem+2<=n->Made r (n7 n r).1 [(n7 n r).2] eo)
 |0=>⟨fun r h ht hn=>by omega,fun r0 r L h ht hn hm=>by omega,fun r h ht he hn=>by omega⟩
 |n+1=>by
  obtain⟨ib,il,is_⟩:=IK n;have ist:=sZ n;refine⟨fun r h ht hn=>?_,fun r0 r L h ht hn hm=>?_,fun r h ht he hn=>?_⟩
  ·unfold gi;split
   ·rename_i hx;have he:=(Rd.aZ hx).1;have hd:=(Rd.bS h he).1;have s1:=Rd.aQ hd (⟨#[123]⟩:SK);have st:=(yK r).trans (jy r.down (⟨#[123]⟩:SK));have hr:=(Rd.gF h hx).1;have hm:=il r (r.down.ar (⟨#[123]⟩:SK)) [] (s1.inv hd) (by rw[st.l];exact ht) jB ((Made.nil _ _).pre st);have hm:=(hm.post (jy _ (⟨#[125]⟩:SK))).post (zL _);exact km _ _ _ _ fun e=>⟨(hm e).1,RK (hm e).2,rfl⟩
   ·exact Hw jC
  ·unfold ng;split
   ·rename_i hc;have XA:0<n:=jB;obtain⟨s1,s2⟩:=ist.2.2 r h hc.1 XA;have Un:=hm.both (is_ r h ht hc.1 jB) (qc s1);exact il r0 _ _ (s1.inv h) (St.j3 s1 ht) jB Un
   ·exact hm
  ·unfold n7;have word:∀w:SK,w≠⟨#[]⟩->r.word=w->r.inc.Inv/\r.inc.rem+1<=r.rem/\Rd.St r r.inc:=fun w h0 hw=>by
    have hk:=Rd.dX (Rd.gJ hw h0) jC;exact⟨(Rd.bv h hk.2).1.inv h,Rd.dj h hk,(Rd.bv h hk.2).1⟩
   split
   ·rename_i hw;obtain⟨h1,h2,s1⟩:=word _ jC hw;have s2:=Rd.dv h1;have s3:=s2.trans (Rd.aQ (s2.inv h1) (⟨#[61]⟩:SK));have hm:=((FT (s3.inv h1) (St.j3 s3 ht)).pre ((nr r).trans ((uY r.inc).trans (jy _ _)))).post (jy _ (⟨#[59]⟩:SK));exact km _ _ _ _ fun e=>⟨(hm e).1,G2 (.inl rfl) ((hm e).2 _ jE),by unfold eo;omega⟩
   split
   ·rename_i hw;obtain⟨h1,h2,s1⟩:=word _ jC hw;have hm:=((rb h1 (St.j3 s1 ht)).pre (nr r)).post (jy _ (⟨#[59]⟩:SK));exact km _ _ _ _ fun e=>⟨(hm e).1,vA jB ((hm e).2 _ jE),by unfold eo;omega⟩
   split
   ·rename_i hw;obtain⟨h1,h2,s1⟩:=word _ jC hw;have s2:=j6 h1;have s3:=ist.1 _ (s2.inv h1);have hm:=((rb h1 (St.j3 s1 ht)).pre (nr r)).seq (ib (dn r.inc).1 (s2.inv h1) (St.j3 s2 (St.j3 s1 ht)) (by have:=s2.rem;omega)) (qc s3);exact km _ _ _ _ fun e=>⟨(hm e).1,KY ((hm e).2.1 _ jE) ((hm e).2.2 _ jE),by unfold eo;omega⟩
   split
   ·rename_i hw;obtain⟨h1,h2,s1⟩:=word _ jC hw;have s2:=j6 h1;have h3:=s2.inv h1;have s3:=ist.1 _ h3;have h4:=s3.inv h3;have hm:=((rb h1 (St.j3 s1 ht)).pre (nr r)).seq (ib (dn r.inc).1 h3 (St.j3 s2 (St.j3 s1 ht)) (by have:=s2.rem;omega)) (qc s3);split
    ·rename_i hx;have hk:=Rd.aZ hx;have s5:=(Rd.bv h4 hk.2).1;have hr5:=Rd.dj h4 hk;have h5:=s5.inv h4;have s6:=ist.1 _ h5;have m3:=(ib (gi n (dn r.inc).1).1.inc h5 (St.j3 s5 (St.j3 s3 (St.j3 s2 (St.j3 s1 ht)))) (by have:=s2.rem;have:=s3.rem;omega)).pre (nr _);have he5:=fun e=>qc s5 (qc s6 e)
     exact km _ _ _ _ fun e=>by obtain⟨a1,a2,a3⟩:=hm (he5 e);obtain⟨b1,b2⟩:=m3 e;exact⟨a1.trans b1,RG (by rw[a1.kind b1 jE];exact a2 _ jE) (by rw[a1.kind b1 jE];exact a3 _ jE) (b2 _ jE),by unfold eo;omega⟩
    ·exact km _ _ _ _ fun e=>⟨(hm e).1,Lp ((hm e).2.1 _ jE) ((hm e).2.2 _ jE),by unfold eo;omega⟩
   split
   ·rename_i hw;obtain⟨h1,h2,s1⟩:=word _ jC hw;split
    ·have hm:=((Made.nil r.inc bT).pre (nr r)).post (jy _ (⟨#[59]⟩:SK));exact km _ _ _ _ fun e=>⟨(hm e).1,uG jB jH jH jH,by unfold eo;omega⟩
    ·have hm:=((rb h1 (St.j3 s1 ht)).pre (nr r)).post (jy _ (⟨#[59]⟩:SK));exact km _ _ _ _ fun e=>⟨(hm e).1,vA jB ((hm e).2 _ jE),by unfold eo;omega⟩
   ·exact Nb h ht he _
def OQ(h:r.Inv)(ht:ll r.l):Made r (oC r).1 [(oC r).2] (fun k=>k=18):=(IK _).1 r h ht jB
-- functions
structure rm(f:bg):Prop where
 ps:∀p∈f.params,1<=p.ty/\p.ty<=4
 ret:0<=f.ret/\f.ret<=4
def OH(w:SK):0<=sJ w/\sJ w<=4:=by
 unfold sJ;repeat' split
 all_goals omega
def Gx(r:Rd):Still r (iS r).1:=by
 unfold iS;split
 ·exact y5 r jC
 ·exact nr r
def FM(he:(iS r).1.e=0):1<=(iS r).2/\(iS r).2<=4:=by
 unfold iS at he ⊢;split
 ·rename_i h;rw[if_pos h]at he;exact(Rd.gH jC he).elim
 ·have:=OH r.word;simp only;omega
theorem F6:∀(n:Nat) (b:Bool) (r:Rd) (L:List bQ),Still r (mW n b r L).1/\((mW n b r L).1.e=0->(∀p∈L,1<=p.ty/\p.ty<=4)->∀p∈(mW n b r L).2,1<=p.ty/\p.ty<=4)
 |0,_,r,L=>by unfold mW;exact⟨.refl r,fun _ h=>h⟩
 |n+1,false,r,L=>by unfold mW;exact⟨.refl r,fun _ h=>h⟩
 |n+1,true,r,L=>by
  have st:Still r (p6 r):=(uY r).trans (Gx _);have hL:(p6 r).e=0->(∀p∈L,1<=p.ty/\p.ty<=4)->∀p∈L++[⟨r.name.2,(iS r.name.1).2⟩],1<=p.ty/\p.ty<=4:=fun e h p hp=>by
   rcases List.mem_append.1 hp with hp|hp
   ·exact h p hp
   ·rw[List.mem_singleton.1 hp];exact FM e
  unfold mW;split
  ·obtain⟨a,b⟩:=F6 n true (p6 r).inc (L++[⟨r.name.2,(iS r.name.1).2⟩]);exact⟨st.trans ((nr _).trans a),fun e h=>b e (hL (a.err e) h)⟩
  ·exact⟨st,hL⟩
def JW(h:r.Inv)(ht:ll r.l):Made r (mY r).1 [(mY r).2.body] (fun k=>k=18)/\((mY r).1.e=0->rm (mY r).2):=by
 have h1:=(qR h).1.inv h;have h2:=(yN h).inv h1;obtain⟨a,b⟩:=F6 ((nt r).rem+2) (more (nt r)) (nt r) [];have stA:Still r (nt r):=((jy r (⟨#[102,110]⟩:SK)).trans (uY _)).trans (jy _ _);have xv:Still r (l6 r):=(stA.trans a).trans (jy _ _);have stD:Still (l6 r) (mN r).1:=by
  unfold mN;split
  ·exact .refl _
  ·exact Gx _
 have hb:=OQ h2 (by rw[(xv.trans stD).l];exact ht);refine⟨hb.pre (xv.trans stD),fun e=>?_⟩;have e2:(mN r).1.e=0:=qc (CH h2) e;have e1:(l6 r).e=0:=stD.err e2;have e0:(sX r).1.e=0:=(jy _ _).err e1;refine⟨b e0 (fun p hp=>by simp at hp),?_⟩;show 0<=(mN r).2/\(mN r).2<=4;unfold mN at e2 ⊢;split
 ·simp
 ·rename_i hc;rw[if_neg hc]at e2;have:=FM e2;omega
theorem Ik:∀(n:Nat) (r0 r:Rd) (L:List bg),r.Inv->ll r.l->Made r0 r (L.map (·.body)) (fun k=>k=18)->(r.e=0->∀f∈L,rm f)->
  Made r0 (qS n r L).1 ((qS n r L).2.map (·.body)) (fun k=>k=18)/\((qS n r L).1.e=0->∀f∈(qS n r L).2,rm f)
 |0,r0,r,L,h,ht,hm,hf=>by unfold qS;exact⟨hm,hf⟩
 |n+1,r0,r,L,h,ht,hm,hf=>by
  unfold qS;split
  ·have s1:=(H7 h).1;obtain⟨a,b⟩:=JW h ht;refine Ik n r0 _ _ (s1.inv h) (St.j3 s1 ht) ?_ fun e f WW=>?_
   ·rw[List.map_append];exact hm.both a (qc s1)
   ·rcases List.mem_append.1 WW with h'|h'
    ·exact hf (qc s1 e) f h'
    ·rw[List.mem_singleton.1 h'];exact b e
  ·exact⟨hm,hf⟩
structure aL(t:aF):Prop where
 chain:aJ t.nodes 0 (t.aq.map (·.body)) t.nodes.length
 shape:∀k,k<t.nodes.length->Shape t.nodes (nth t.nodes k)/\(∀a∈(nth t.nodes k).l,0<=a/\a.toNat<k)/\∃lo,aJ t.nodes lo (nth t.nodes k).l k
 body:∀f∈t.aq,bA t.nodes f.body=18
 fn:∀f∈t.aq,rm f/\f.params.length<=3
 many:t.nodes.length<=300
 aq:t.aq.length<=6
variable{s:SK}
def Se{a:Nat}(h:(oD s a).2.2=0):(oD s a).1.size<=12:=by
 unfold oD at h ⊢;simp only at h ⊢;split at h<;>rename_i h1
 ·rw[if_pos h1];split at h<;>rename_i h2
  ·cases h
  ·rw[if_neg h2];simp only[ByteArray.size_extract];omega
 ·cases h
def Od{a:Nat}(h:(ik s a).2.2=0)(hk:(ik s a).1.kind=2):(ik s a).1.text.size<=12:=by
 unfold ik at h hk ⊢;split at h<;>rename_i h1
 ·rw[if_pos h1]at hk ⊢;split at h<;>rename_i h2
  ·rw[if_pos h2]at hk;cases hk
  ·cases h
 rw[if_neg h1]at hk ⊢;split at h<;>rename_i h2
 ·rw[if_pos h2]at hk ⊢;split at h<;>rename_i h3
  ·rw[if_pos h3]at hk;cases hk
  ·rw[if_neg h3]at hk ⊢;split at h<;>rename_i h4
   ·cases h
   ·rw[if_neg h4]at hk;cases hk
 rw[if_neg h2]at hk ⊢;split at h<;>rename_i h3
 ·rw[if_pos h3]at hk ⊢;exact Se h
 ·rw[if_neg h3]at hk;split at h<;>rename_i h4
  ·cases h
  ·rw[if_neg h4]at hk;cases hk
theorem HG(s:SK):∀(n i:Nat) (out:List cB),(mb s n i out).2.2=0->(∀t∈out,t.kind=2->t.text.size<=12)->∀t∈(mb s n i out).1,t.kind=2->t.text.size<=12
 |0,i,out,he,ho=>by unfold mb;exact ho
 |n+1,i,out,he,ho=>by
  unfold mb at he ⊢;split at he<;>rename_i hi
  ·rw[if_pos hi];split at he<;>rename_i h3
   ·rw[if_pos h3];refine HG s n _ _ he fun t ht=>?_
    rcases List.mem_append.1 ht with ht|ht
    ·exact ho t ht
    ·rw[List.mem_singleton.1 ht];exact Od h3
   ·exact(h3 he).elim
  ·rw[if_neg hi];intro t ht;rcases List.mem_append.1 ht with ht|ht
   ·exact ho t ht
   ·rw[List.mem_singleton.1 ht];intro h;cases h
def Qd(he:(kV s).2.2=0):ll (ou s).l:=by
 have:∀t∈(kV s).1,t.kind=2->t.text.size<=12:=by
  unfold kV at he ⊢;split at he<;>rename_i h
  ·cases he
  ·rw[if_neg h];exact HG s _ _ _ he (fun t ht=>by simp at ht)
 intro k hk;exact this _ (er hk)
def xS(h:(gP s).2.2=0):aL (gP s).1:=by
 unfold gP at h ⊢;split at h<;>rename_i h1
 ·exact(h1 h).elim
 rw[if_neg h1];split at h<;>rename_i h2
 ·exact(h2 h).elim
 rw[if_neg h2];split at h<;>rename_i h3
 ·cases h
 rw[if_neg h3];have he:(kV s).2.2=0:=jB;have hf:(nP s).1.e=0:=jB;obtain⟨a,b⟩:=Ik ((ou s).rem+1) (ou s) (ou s) [] (Ek he) (Qd he) (Made.nil _ _) (fun _ f hf=>by simp at hf);obtain⟨a1,a2⟩:=a hf;simp only[ug,Bool.or_eq_true,decide_eq_true_eq,not_or,List.any_eq_true,not_exists,not_and]at h3;refine⟨a1.chain,fun k hk=>a1.shape k (Nat.zero_le _) hk,fun f hf=>a2 _ (List.mem_map.2 ⟨f,hf,rfl⟩),fun f hff=>⟨b hf f hff,by have:=h3.2 f hff;omega⟩,by show(nP s).1.nodes.length<=300;omega,by show(nP s).2.length<=6;omega⟩
structure Ck where
 aa:aF
 types:List Int
 slots:List Int
 aq:List Int
 aR:List Int
 fn:Int
 vars:List bP
 more:List bP
 size:Int
 e:Int
 at_:Int
 deriving Inhabited
def gx{α:Type}(f:α->SK)(name:SK):List α->Int->Int
 |[],_=>-1
 |v::l,i=>if f v=name then i else gx f name l (i+1)
def ji{α:Type}(f:α->SK)(name:SK):List α->Int->Int->Int
 |[],_,k=>k
 |v::l,i,k=>ji f name l (i+1) (if f v=name then i else k)
def im(sign:SK)(a b:Int):Int:=
 if a≠b then 0
 else if sign=(⟨#[124,124]⟩:SK)\/sign=(⟨#[38,38]⟩:SK)then(if a=2 then 2 else 0)
 else if sign=(⟨#[60]⟩:SK)\/sign=(⟨#[60,61]⟩:SK)then(if a=1 then 2 else 0)
 else if sign=(⟨#[61,61]⟩:SK)\/sign=(⟨#[33,61]⟩:SK)then(if a=1\/a=2\/a=3 then 2 else 0)
 else if sign=(⟨#[43]⟩:SK)then(if a=1\/a=3 then a else 0)
 else(if a=1 then 1 else 0)
namespace Ck
def node(c:Ck)(a:Int):bu:=nth c.aa.nodes a.toNat
def aE(c:Ck)(a:Int)(i:Nat):Int:=nth (c.node a).l i
def aG(c:Ck)(e a:Int):Ck:=if c.e=0 then{ c with e:=e,at_:=a }else c
def ar(c:Ck)(ok:Bool)(a:Int):Ck:=if ok=true then c else c.aG 42 a
def find(c:Ck)(name:SK):Int:=gx bP.name name c.vars 0
def slot(c:Ck)(a s:Int):Ck:={ c with slots:=c.slots.set a.toNat s }
def named(c:Ck)(a:Int):Ck×Int:=
 if c.find (c.node a).name<0 then(c.aG 40 a,0)
 else(c.slot a (nth c.vars (c.find (c.node a).name).toNat).slot,(nth c.vars (c.find (c.node a).name).toNat).ty)
def note(c:Ck)(a t:Int):Ck:={ c with types:=c.types.set a.toNat t,aq:=c.aq.set a.toNat c.fn }
def af(c:Ck)(a:Int):Ck:={ c with aq:=c.aq.set a.toNat c.fn }
end Ck
def fV(ex:Ck->Int->Ck×Int):Ck->SI->SI->Ck×SI
 |c,[],ts=>(c,ts)
 |c,a::l,ts=>if c.e=0 then fV ex (ex c a).1 l (ts++[(ex c a).2])else(c,ts)
def gY(a:Int):Ck->SI->List bQ->Ck
 |c,t::ts,p::ps=>if c.e=0 then gY a (c.ar (decide (t=p.ty)) a) ts ps else c
 |c,_,_=>c
def fD(c:Ck)(a:Int):Int:=ji bg.name (c.node a).name c.aa.aq 0 (-1)
def gM(ex:Ck->Int->Ck×Int)(c:Ck)(a:Int):Ck×Int:=
 if fD c a<0 then(c.aG 40 a,0)
 else
  let f:=nth c.aa.aq (fD c a).toNat
  let p:=fV ex c (c.node a).l []
  let c1:=if(c.node a).l.length≠f.params.length then p.1.aG 43 a else p.1
  (gY a c1 p.2 f.params,f.ret)
def cn(ex:Ck->Int->Ck×Int)(c:Ck)(a:Int):Ck×Int:=
 let k:=(c.node a).kind
 if k=1\/k=19 then(c,1)
 else if k=2 then(c,2)
 else if k=3 then(c,3)
 else if k=4 then c.named a
 else if k=21 then gM ex c a
 else if k=5 then
  let p:=c.named a
  let x:=ex p.1 (c.aE a 0)
  (x.1.ar (decide (p.2=4) && decide (x.2=1)) a,1)
 else if k=9 then
  let x:=ex c (c.aE a 0)
  let y:=ex x.1 (c.aE a 1)
  let t:=im (c.node a).name x.2 y.2
  (y.1.ar (!decide (t=0)) a,t)
 else
  let x:=ex c (c.aE a 0)
  if k=6 then(x.1.ar (decide (x.2=3) || decide (x.2=4)) a,1)
  else if k=7 then(x.1.ar (decide (x.2=1)) a,1)
  else if k=8 then(x.1.ar (decide (x.2=2)) a,2)
  else(x.1.ar (decide (x.2=1)) a,4)
def au:Nat->Ck->Int->Ck×Int
 |0,c,_=>(c,0)
 |n+1,c,a=>if c.e≠0 then(c,0)else((cn (au n) c a).1.note a (cn (au n) c a).2,(cn (au n) c a).2)
def o0(ex:Ck->Int->Ck×Int)(c:Ck)(a:Int):Ck:=
 let x:=ex c (c.aE a 0)
 let c1:=x.1.ar (!decide (x.2=0)) a
 let c2:=if 0<=c1.find (c.node a).name then c1.aG 41 a else c1
 let c3:=if 24<=c2.size then c2.aG 4 a else c2
 { (c3.slot a c3.size)with vars:=c3.vars++[⟨(c.node a).name,x.2,c3.size⟩],more:=c3.more.drop 1,size:=c3.size+1 }
def ki(ex:Ck->Int->Ck×Int)(c:Ck)(a:Int):Ck:=
 let ret:=(nth c.aa.aq c.fn.toNat).ret
 let l:=(c.node a).l
 if decide (l.length=1)≠(!decide (ret=0))then c.aG 43 a
 else if l.length=1 then
  let x:=ex c (c.aE a 0)
  x.1.ar (decide (x.2=ret)) a
 else c
def dt(st:Ck->Int->Ck):Ck->SI->Ck
 |c,[]=>c
 |c,a::l=>if c.e=0 then dt st (st c a) l else c
def eL(st:Ck->Int->Ck)(c:Ck)(a:Int):Ck:=
 let c1:=dt st (c.af a) (c.node a).l
 { c1 with vars:=c1.vars.take (min c.vars.length c1.vars.length),more:=c1.vars.drop (min c.vars.length c1.vars.length)++c1.more }
def bH:Nat->Ck->Int->Ck
 |0,c,_=>c
 |n+1,c0,a=>
  let c:=c0.af a
  let k:=(c.node a).kind
  if k=10 then o0 (au n) c a
  else if k=11 then
   let p:=c.named a
   let x:=au n p.1 (c.aE a 0)
   x.1.ar (decide (p.2=x.2)) a
  else if k=12 then
   let p:=c.named a
   let x:=au n p.1 (c.aE a 0)
   let y:=au n x.1 (c.aE a 1)
   y.1.ar (decide (p.2=4) && decide (x.2=1) && decide (y.2=1)) a
  else if k=13 then(au n c (c.aE a 0)).1
  else if k=14 then
   let x:=au n c (c.aE a 0)
   x.1.ar (!decide (x.2=4)) a
  else if k=17 then ki (au n) c a
  else
   let x:=au n c (c.aE a 0)
   dt (eL (bH n)) (x.1.ar (decide (x.2=2)) a) ((c.node a).l.drop 1)
def eJ(body:Int):Ck->List bQ->Int->Ck
 |c,[],_=>c
 |c,p::ps,i=>
  let c1:=if 0<=c.find p.name then c.aG 41 body else c
  eJ body { c1 with vars:=c1.vars++[⟨p.name,p.ty,i⟩],more:=c1.more.drop 1,size:=c1.size+1 } ps (i+1)
def fJ(c:Ck)(k:Nat):Ck:=
 let f:=nth c.aa.aq k
 let c1:=eJ f.body { c with fn:=k,vars:=[],more:=[],size:=0 } f.params 0
 let c2:=if c1.e=0 then eL (bH c.aa.nodes.length) c1 f.body else c1
 { c2 with aR:=c2.aR++[c2.size],vars:=[],more:=[] }
def mi(x:bg):Ck->List bg->Ck
 |c,[]=>c
 |c,f::l=>mi x (if f.name=x.name then c.aG 41 x.body else c) l
def vL(f:bg):Bool:=decide (f.name=(⟨#[109,97,105,110]⟩:SK)) && decide ((f.params.length:Int)=0) && decide (f.ret=0)
def lf(aq:List bg):Ck->Bool->Nat->Nat->Ck×Bool
 |c,m,_,0=>(c,m)
 |c,m,i,n+1=>lf aq (mi (nth aq i) c (aq.take i)) (m || vL (nth aq i)) (i+1) n
def jh(c:Ck):Ck:=
 let p:=lf c.aa.aq c false 0 c.aa.aq.length
 if p.2=true then p.1 else p.1.aG 44 0
def fO:Ck->Nat->Nat->Ck
 |c,_,0=>c
 |c,i,n+1=>if c.e=0 then fO (fJ c i) (i+1) n else c
def jM(t:aF):Ck:=⟨t,t.nodes.map fun _=>0,t.nodes.map fun _=>-1,t.nodes.map fun _=>0,[],0,[],[],0,0,0⟩
def iu(t:aF):Ck:=fO (jh (jM t)) 0 t.aq.length
def lI:ab:=⟨⟨[],[]⟩,[],[],[],[]⟩
def Ck.prog(c:Ck):ab:=⟨c.aa,c.types,c.slots,c.aq,c.aR⟩
def ij(t:aF):ab×Int×Int:=if(iu t).e≠0 then(lI,(iu t).at_,(iu t).e)else((iu t).prog,0,0)
def gy(s:SK):ab×Int×Int:=
 if(gP s).2.2≠0 then(lI,(gP s).2.1,(gP s).2.2)
 else
  let q:=ij (gP s).1
  if q.2.2=44 then(lI,0,44)
  else if q.2.2≠0 then(lI,(nth (gP s).1.nodes q.2.1.toNat).cU,q.2.2)
  else(q.1,0,0)
def di(slots:List ak)(k t:Int):ak:=
 if k<0\/(slots.length:Int)<=k then vZ t
 else if jS (nth slots k.toNat)=true/\(nth slots k.toNat).ty=t then nth slots k.toNat else vZ t
def gU(heap:SH)(v:ak):SI:=if v.ty≠4\/v.n<1\/(heap.length:Int)<v.n then[]else nth heap (v.n-1).toNat
def de(p:ab)(slots:List ak)(heap:SH):Nat->Int->ak×Int
 |0,_=>(v0,0)
 |n+1,a=>
  let nd:=nth p.aa.nodes a.toNat
  let x:=de p slots heap n (nth nd.l 0)
  let y:=de p slots heap n (nth nd.l 1)
  if nd.kind=1 then(vI nd.n,0)
  else if nd.kind=2 then(vB (decide (nd.n=1)),0)
  else if nd.kind=3 then(vT nd.name,0)
  else if nd.kind=4 then(di slots (nth p.slots a.toNat) (nth p.types a.toNat),0)
  else if x.2≠0 then(v0,x.2)
  else if nd.kind=5 then
   (if x.1.n<0\/((gU heap (di slots (nth p.slots a.toNat) 4)).length:Int)<=x.1.n then(v0,2)else(vI (nth (gU heap (di slots (nth p.slots a.toNat) 4)) x.1.n.toNat),0))
  else if nd.kind=9 then
   (if(nd.name=(⟨#[124,124]⟩:SK)/\x.1.n=1)\/(nd.name=(⟨#[38,38]⟩:SK)/\x.1.n=0)then(x.1,0)
   else if y.2≠0 then(v0,y.2)else jq nd.name x.1 y.1)
  else if nd.kind=6 then(if x.1.ty=3 then(vI x.1.s.size,0)else(vI (gU heap x.1).length,0))
  else if nd.kind=7 then(jX (⟨#[45]⟩:SK) x.1,0)
  else(jX (⟨#[33]⟩:SK) x.1,0)
end Go.Gd
namespace Go.Proofs.YtbjookcdpondlaaGreatDoor
open Go Go.Gd Tryz
abbrev rI(n:Int):AV:=.raw (.int .i64 n)
abbrev rU(n:Int):AV:=.raw (.int .u8 n)
abbrev rS(s:SK):AV:=.raw (.string s)
abbrev rB(b:Bool):AV:=.raw (.bool b)
def wX(n:Int):aP prog 99 [rU n] (rB (j8 n)):=by
 refine df func99 ntmps99 ?_
 (repeat' (first|refine aA fun K hK=>?_|refine ax ?_|(refine hK _ _ ?_;clear hK K)|(refine az ?_ ?_<;>intro hc<;>try exact jz)|refine ay ?_|exact jI|(clear hK K)))
 (refine cr [.tmp 2] ?_ ?_<;>(try simp only[go_sem]))
 rfl
def AW(n:Int):aP prog 101 [rU n] (rB (xl n)):=by
 refine df func101 ntmps101 ?_
 (repeat' (first|refine aA fun K hK=>?_|refine ax ?_|(refine hK _ _ ?_;clear hK K)|(refine az ?_ ?_<;>intro hc<;>try exact jz)|refine ay ?_|exact jI|(clear hK K)))
 (refine cr [.tmp 2] ?_ ?_<;>(try simp only[go_sem]))
 rfl
def R9(s:SK):aP prog 100 [rS s] (rB (wU s)):=by
 refine df func100 ntmps100 ?_
 (repeat' (first|refine aA fun K hK=>?_|refine ax ?_|(refine hK _ _ ?_;clear hK K)|(refine az ?_ ?_<;>intro hc<;>try exact jz)|refine ay ?_|exact jI|(clear hK K)))
 (refine cr [.tmp 2] ?_ ?_<;>(try simp only[go_sem]))
 rfl
def P3(s:SK)(at_:Int)(hs:s.size<=1000000):aP prog 105 [rS s,rI at_] (rI (pn s (min s.size at_.toNat))):=by
 refine df func105 ntmps105 ?_
 (repeat' (first|refine aA fun K hK=>?_|refine ax ?_|(refine hK _ _ ?_;clear hK K)|(refine az ?_ ?_<;>intro hc<;>try exact jz)|refine ay ?_|exact jI|(clear hK K)))
 have Tc:=hK;clear hK;refine fa (S:=Nat) [(5,19)] (fun k=>k<=s.size/\k<=at_.toNat) (fun k=>[(5,rI (pn s k)),(6,rI k)]) (fun _=>⟨[],[]⟩) (fun k=>s.size-k) 0 jB (fb rfl (by simp only[go_sem,jL,Nat.reduceAdd,AV.raw.injEq,Value.int.injEq,Value.slice.injEq,Value.pointer.injEq,AV.rs.injEq,pn];try omega)) ?_;rintro k ⟨Te,S5⟩ Kr S8;have hb:=Ff s k;refine S ?_
 (repeat' (first|refine aA fun K hK=>?_|refine ax ?_|(refine hK _ _ ?_;clear hK K)|(refine az ?_ ?_<;>intro hc<;>try exact jz)|refine Tc _ _ ?_|refine ay ?_|exact jI|(clear hK K)))
 ·refine S8 _ _ (fc (k+1) jB jJ rfl (by simp only[pn,if_pos hc];exact cI))
 ·refine S8 _ _ (fc (k+1) jB jJ rfl (by simp only[pn,if_neg hc];exact cI))
 ·(refine cr [.tmp 4] ?_ ?_<;>(try simp only[go_sem]))
  rw[show min s.size at_.toNat=k from jB]
def Ot{s:SK}(h:∀j,j<fX.length->nth fX j≠s):wi s=false:=by unfold wi;rw[List.any_eq_false];intro x hm;obtain⟨j,hj,rfl⟩:=List.getElem_of_mem hm;have:=h j hj;rw[dV hj]at this;simp[this]
def ML{s:SK}{k:Nat}(hk:k<fX.length)(h:nth fX k=s):wi s=true:=by unfold wi;rw[List.any_eq_true];exact⟨fX[k],List.getElem_mem hk,by rw[dV hk]at h;simp[h]⟩
def QM(s:SK):aP prog 102 [rS s] (rB (wi s)):=by
 refine df func102 ntmps102 ?_
 (repeat' (first|refine aA fun K hK=>?_|refine ax ?_|(refine hK _ _ ?_;clear hK K)|(refine az ?_ ?_<;>intro hc<;>try exact jz)|refine ay ?_|exact jI|(clear hK K)))
 have Tc:=hK;clear hK;refine fa (S:=Nat) [(2,1),(4,1),(6,12)] (fun k=>k<=16/\∀j,j<k->nth fX j≠s) (fun k=>[(3,.sl true 1 (fX.map eS) []),(4,rI k)]) (fun _=>⟨[],[]⟩) (fun k=>16-k) 0 ⟨jB,fun j h=>jB⟩ (fb rfl (by(repeat' (first|exact jI|exact Or.inr rfl|exact Or.inl rfl|refine jA ?_ ?_)))) ?_;rintro k ⟨Te,S5⟩ Kr S8;have hl:=Rc;refine S ?_
 (repeat' (first|refine aA fun K hK=>?_|refine ax ?_|(refine hK _ _ ?_;clear hK K)|(refine az ?_ ?_<;>intro hc<;>try exact jz)|refine Tc _ _ ?_|refine ay ?_|exact jI|(clear hK K)))
 ·(refine cr [.tmp 2] ?_ ?_<;>(try simp only[go_sem]))
  rw[ML jB hc]
 ·refine S8 _ _ (fc (k+1) ⟨jB,fun j hj=>?_⟩ jJ rfl cI);by_cases e:j=k
  ·subst e;exact hc
  ·exact S5 j jB
 ·(refine cr [.tmp 2] ?_ ?_<;>(try simp only[go_sem]))
  rw[Ot fun j hj=>S5 j jB]
def GG(s:SK)(i:Nat)(hs:s.size<=1000000)(hi:i<=s.size):aP prog 60 [rS s,rI i] (rI (oW s i:Nat)):=by
 refine df func60 ntmps60 ?_
 (repeat' (first|refine aA fun K hK=>?_|refine ax ?_|(refine hK _ _ ?_;clear hK K)|(refine az ?_ ?_<;>intro hc<;>try exact jz)|refine ay ?_|exact jI|(clear hK K)))
 have Tc:=hK;clear hK;refine fa (S:=Nat) [(1,1),(4,54)] (fun k=>k<=s.size/\oW s k=oW s i) (fun k=>[(1,rI k)]) (fun _=>⟨[],[]⟩) (fun k=>s.size-k) i ⟨hi,rfl⟩ (fb rfl cI) ?_;rintro k ⟨Te,S5⟩ Kr S8;refine S ?_
 (repeat' (first|refine aA fun K hK=>?_|refine ax ?_|(refine hK _ _ ?_;clear hK K)|(refine az ?_ ?_<;>intro hc<;>try exact jz)|refine Tc _ _ ?_|refine ay ?_|exact jI|(clear hK K)))
 ·have P':my s k=some (k+1):=by
   unfold my;rw[jP,if_pos];simp[yL];omega
  refine S8 _ _ (fc (k+1) ⟨jB,by rw[<-S5,EX P']⟩ jJ rfl cI)
 ·have P':my s k=some (iL tg s k):=by
   unfold my;rw[jP,if_neg (by simp[yL];omega),if_pos];simp[zA];exact⟨⟨hc.1.1,jB⟩,hc.2⟩
  have SX:=yW P';have hKi:=hK;clear hK;refine fa (S:=Nat) [(1,1),(45,12)] (fun m=>k<=m/\m<=s.size/\∀j,k<=j->j<m->tg (eZ s j)=true) (fun m=>[(1,rI m)]) (fun _=>⟨[],[]⟩) (fun m=>s.size-m) k ⟨jB,jB,fun j h1 h2=>jB⟩ (fb rfl cI) ?_;rintro m ⟨VE,Un,Ue⟩ Kj YR;refine S ?_
  (repeat' (first|refine aA fun K hK=>?_|refine ax ?_|(refine hK _ _ ?_;clear hK K)|(refine az ?_ ?_<;>intro hc<;>try exact jz)|refine hKi _ _ ?_|refine ay ?_|exact jI|(clear hK K)))
  ·refine YR _ _ (fc (m+1) ⟨jB,jB,fun j h1 h2=>?_⟩ jJ rfl cI);by_cases e:j=m
   ·subst e;simp only[tg,decide_eq_true_eq];exact hc.2
   ·exact Ue j h1 jB
  ·have e:iL tg s k=m:=zW (by simp only[tg,decide_eq_true_eq];omega) VE Un Ue;rw[e]at P' SX;refine S8 _ _ (fc m ⟨jB,by rw[<-S5,EX P']⟩ jJ rfl cI)
 ·(refine cr [.tmp 4] ?_ ?_<;>(try simp only[go_sem]))
  rw[<-S5,Ih];unfold my;rw[jP,if_neg (by simp[yL];omega),if_neg];simp[zA];omega
 ·(refine cr [.tmp 4] ?_ ?_<;>(try simp only[go_sem]))
  rw[<-S5,Ih];unfold my;rw[jN]
def Qu(s:SK)(a:Nat)(hs:s.size<=1000000)(ha:a<s.size):aP prog 103 [rS s,rI a] (.bf [rS (oD s a).1,rI (oD s a).2.1,rI (oD s a).2.2]):=by
 refine df func103 ntmps103 ?_
 (repeat' (first|refine aA fun K hK=>?_|refine ax ?_|(refine hK _ _ ?_;clear hK K)|(refine az ?_ ?_<;>intro hc<;>try exact jz)|refine ay ?_|exact jI|(clear hK K)))
 have Tc:=hK;clear hK;refine fa (S:=Nat) [(7,1),(10,24)] (fun m=>a+1<=m/\m<=s.size/\∀j,a+1<=j->j<m->uE (eZ s j)=true) (fun m=>[(7,rI m)]) (fun _=>⟨[],[]⟩) (fun m=>s.size-m) (a+1) ⟨jB,jB,fun j h1 h2=>jB⟩ (fb rfl cI) ?_;rintro m ⟨VE,Un,Ue⟩ Kr S8;refine S ?_
 (repeat' (first|refine aA fun K hK=>?_|refine ax ?_|(refine hK _ _ ?_;clear hK K)|(refine az ?_ ?_<;>intro hc<;>try exact jz)|refine Tc _ _ ?_|refine ay ?_|exact jI|(clear hK K)))
 ·refine S8 _ _ (fc (m+1) ⟨jB,jB,fun j h1 h2=>?_⟩ jJ rfl cI);by_cases e:j=m
  ·subst e;simp only[uE,Bool.and_eq_true,decide_eq_true_eq];exact⟨⟨hc.1.1.2,hc.1.2⟩,hc.2⟩
  ·exact Ue j h1 jB
 all_goals have e:iL uE s (a+1)=m:=zW (by simp only[uE,Bool.and_eq_true,decide_eq_true_eq];omega) VE Un Ue
 ·(refine cr [.tmp 4,.tmp 5,.tmp 6] ?_ ?_<;>(try simp only[go_sem]))
  simp only[oD,e];rw[jN]
 ·(refine cr [.tmp 4,.tmp 5,.tmp 6] ?_ ?_<;>(try simp only[go_sem]))
  simp only[oD,e];rw[jP,jP]
 ·(refine cr [.tmp 4,.tmp 5,.tmp 6] ?_ ?_<;>(try simp only[go_sem]))
  simp only[oD,e];rw[jP,jN]
def PX:jw.length=5:=rfl
def Pk(s:SK)(hs:0<s.size)(YS:s.size<=1000000):aP prog 104 [rS s] (rS (oo s)):=by
 refine df func104 ntmps104 ?_
 (repeat' (first|refine aA fun K hK=>?_|refine ax ?_|(refine hK _ _ ?_;clear hK K)|(refine az ?_ ?_<;>intro hc<;>try exact jz)|refine ay ?_|exact jI|(clear hK K)))
 have Tc:=hK;clear hK;refine fa (S:=Nat) [(2,1),(4,1),(8,22)] (fun k=>k<=5/\∀j,j<k->qT s (nth jw j)=false) (fun k=>[(3,.sl true 1 (jw.map eS) []),(4,rI k)]) (fun _=>⟨[],[]⟩) (fun k=>5-k) 0 ⟨jB,fun j h=>jB⟩ (fb rfl (by(repeat' (first|exact jI|exact Or.inr rfl|exact Or.inl rfl|refine jA ?_ ?_)))) ?_;rintro k ⟨Te,S5⟩ Kr S8;have hl:=PX;refine S ?_
 (repeat' (first|refine aA fun K hK=>?_|refine ax ?_|(with_reducible refine gR 5 ?_);refine dE 5 (bo 0 12) mixed ?_|(refine hK _ _ ?_;clear hK K)|(refine az ?_ ?_<;>intro hc<;>try exact jz)|refine Tc _ _ ?_|refine ay ?_|exact jI|(clear hK K)))
 ·(refine cr [.tmp 2] ?_ ?_<;>(try simp only[go_sem]))
  have:jw.find? (qT s)=some (nth jw k):=Af S5 jB (by simp only[qT,Bool.and_eq_true,decide_eq_true_eq];exact hc);simp only[oo,this]
 ·refine S8 _ _ (fc (k+1) ⟨jB,fun j hj=>?_⟩ jJ rfl cI);by_cases e:j=k
  ·subst e;simp only[qT,Bool.and_eq_false_iff,decide_eq_false_iff_not,Int.not_le];exact hc
  ·exact S5 j jB
 ·have h2:jw.find? (qT s)=none:=A8 fun j hj=>S5 j jB
  have Tc:=hK;clear hK;have hos:iB.size=16:=rfl;refine fa (S:=Nat) [(2,1),(6,1),(30,17)] (fun k=>k<=16/\∀j,j<k->decide (eZ s 0=eZ iB (nth (List.range 16) j:Nat))=false) (fun k=>[(5,rS iB),(6,rI k)]) (fun _=>⟨[],[]⟩) (fun k=>16-k) 0 ⟨jB,fun j h=>jB⟩ (fb rfl (by(repeat' (first|exact jI|exact Or.inr rfl|exact Or.inl rfl|refine jA ?_ ?_)))) ?_;rintro m ⟨VE,Un⟩ Kj YR;refine S ?_
  (repeat' (first|refine aA fun K hK=>?_|refine ax ?_|(with_reducible refine gR 11 ?_);refine dE 11 (bo 0 6) mixed ?_|(refine hK _ _ ?_;clear hK K)|(refine az ?_ ?_<;>intro hc<;>try exact jz)|refine Tc _ _ ?_|refine ay ?_|exact jI|(clear hK K)))
  ·(refine cr [.tmp 2] ?_ ?_<;>(try simp only[go_sem]))
   have h3:(List.range 16).find? (fun k:Nat=>decide (eZ s 0=eZ iB (k:Nat)))=some (nth (List.range 16) m):=Af Un jF (by rw[Cd jB];simpa using hc);simp only[oo,h2,h3];rw[Cd jB]
  ·refine YR _ _ (fc (m+1) ⟨jB,fun j hj=>?_⟩ jJ rfl cI);by_cases e:j=m
   ·subst e;rw[Cd jB];simpa using hc
   ·exact Un j jB
  ·(refine cr [.tmp 2] ?_ ?_<;>(try simp only[go_sem]))
   have h3:(List.range 16).find? (fun k:Nat=>decide (eZ s 0=eZ iB (k:Nat)))=none:=A8 fun j hj=>Un j (by simp at hj;omega)
   simp only[oo,h2,h3]
def qy(t:cB×Int×Int):AV:=.bf [.agg (mB t.1),rI t.2.1,rI t.2.2]
def Kt(s:SK)(a:Nat)(hs:s.size<=1000000)(ha:a<s.size):aP prog 61 [rS s,rI a] (qy (ik s a)):=by
 have hex:(s.extract a s.size).size=s.size-a:=by rw[ByteArray.size_extract];omega
 have SY:=Q1 (s.extract a s.size);refine df func61 ntmps61 ?_
 (repeat' (first|refine aA fun K hK=>?_|refine ax ?_|(refine hK _ _ ?_;clear hK K)|(refine az ?_ ?_<;>intro hc<;>try exact jz)|refine cp (wX _) ?_|refine cp (AW _) ?_|refine cp (Qu s a hs ha) ?_|refine cp (Pk _ jB jB) ?_|refine ay ?_|exact jI|(clear hK K)))
 ·have Tc:=hK;clear hK;refine fa (S:=Nat) [(8,1),(20,12)] (fun m=>a<=m/\m<=s.size/\∀j,a<=j->j<m->j8 (eZ s j)=true) (fun m=>[(8,rI m)]) (fun _=>⟨[],[(0,.var 134 (mB vw))]⟩) (fun m=>s.size-m) a ⟨jB,jB,fun j h1 h2=>jB⟩ (fb rfl cI) ?_;rintro m ⟨VE,Un,Ue⟩ Kr S8;refine S ?_
  (repeat' (first|refine aA fun K hK=>?_|refine ax ?_|(refine hK _ _ ?_;clear hK K)|(refine az ?_ ?_<;>intro hc<;>try exact jz)|(first|refine cg (wX _) ?_|refine yY (wX _) ?_)|refine Tc _ _ ?_|refine ay ?_|exact jI|(clear hK K)))
  ·refine S8 _ _ (fc (m+1) ⟨jB,jB,fun j h1 h2=>?_⟩ jJ rfl cI);by_cases e:j=m
   ·subst e;exact hc.2
   ·exact Ue j h1 jB
  ·have hd:j8 (eZ s a)=true:=by assumption
   have e:iL j8 s a=m:=zW (by rintro⟨h1,h2⟩;rcases hc with h|h;omega;rw[h2]at h;cases h) VE Un Ue
   (repeat' (first|refine aA fun K hK=>?_|refine ax ?_|(refine hK _ _ ?_;clear hK K)|(refine az ?_ ?_<;>intro hc<;>try exact jz)|refine cp (R9 _) ?_|refine ay ?_|exact jI|(clear hK K)))
   ·(refine bG [.cell 4 134,.tmp 5,.tmp 6] ?_;try simp only[go_sem])
    simp only[ik,hd,if_true,e,if_neg,hc,Bool.false_eq_true,if_false,qy,vw];rfl
   ·(refine bG [.cell 4 134,.tmp 5,.tmp 6] ?_;try simp only[go_sem])
    simp only[ik,hd,if_true,e,hc,qy];rfl
 ·have Tc:=hK;clear hK;have Tt:j8 (eZ s a)=false:=by assumption
  have Ta:xl (eZ s a)=true:=by assumption
  refine fa (S:=Nat) [(8,1),(49,24)] (fun m=>a<=m/\m<=s.size/\∀j,a<=j->j<m->py (eZ s j)=true) (fun m=>[(8,rI m)]) (fun _=>⟨[],[(0,.var 134 (mB vw))]⟩) (fun m=>s.size-m) a ⟨jB,jB,fun j h1 h2=>jB⟩ (fb rfl cI) ?_;rintro m ⟨VE,Un,Ue⟩ Kr S8;have hexm:(s.extract a m).size=m-a:=by rw[ByteArray.size_extract];omega
  refine S ?_
  (repeat' (first|refine aA fun K hK=>?_|refine ax ?_|(refine hK _ _ ?_;clear hK K)|(refine az ?_ ?_<;>intro hc<;>try exact jz)|(first|refine cg (wX _) ?_|refine yY (wX _) ?_)|(first|refine cg (AW _) ?_|refine yY (AW _) ?_)|refine cp (QM _) ?_|refine Tc _ _ ?_|refine ay ?_|exact jI|(clear hK K)))
  ·refine S8 _ _ (fc (m+1) ⟨jB,jB,fun j h1 h2=>?_⟩ jJ rfl cI);by_cases e:j=m
   ·subst e;simp only[py,Bool.or_eq_true,decide_eq_true_eq];exact hc.2
   ·exact Ue j h1 jB
  all_goals
   have UU:(s.size:Int)<=m\/(xl (eZ s m)=false/\j8 (eZ s m)=false)/\¬eZ s m=95:=by assumption
   have e:iL py s a=m:=zW (by
    simp only[py,Bool.or_eq_true,decide_eq_true_eq];rintro⟨h1,h2⟩;rcases UU with h|⟨⟨h3,h4⟩,h5⟩
    ·omega
    ·rcases h2 with(h|h)|h
     ·rw[h]at h3;exact Bool.noConfusion h3
     ·rw[h]at h4;exact Bool.noConfusion h4
     ·exact h5 h) VE Un Ue
  ·(refine bG [.cell 4 134,.tmp 5,.tmp 6] ?_;try simp only[go_sem])
   simp only[ik,Tt,Ta,e,hc,Bool.false_eq_true,if_false,if_true,qy];rfl
  ·(refine bG [.cell 4 134,.tmp 5,.tmp 6] ?_;try simp only[go_sem])
   simp only[ik,Tt,Ta,e, *,Bool.false_eq_true,if_false,if_true,qy];rw[jP];rfl
  ·(refine bG [.cell 4 134,.tmp 5,.tmp 6] ?_;try simp only[go_sem])
   simp only[ik,Tt,Ta,e, *,Bool.false_eq_true,if_false,if_true,qy];rw[jN];rfl
 ·(refine bG [.cell 4 134,.tmp 5,.tmp 6] ?_;try simp only[go_sem])
  simp only[ik, *,Bool.false_eq_true,if_false,if_true,qy];rfl
 ·(refine bG [.cell 4 134,.tmp 5,.tmp 6] ?_;try simp only[go_sem])
  simp only[ik, *,Bool.false_eq_true,if_false,if_true,qy];rfl
 ·(refine bG [.cell 4 134,.tmp 5,.tmp 6] ?_;try simp only[go_sem])
  simp only[ik, *,Bool.false_eq_true,if_false,qy];rfl
attribute [go_sem] qy
def Gn(s:SK)(hs:s.size<=1000000):aP prog 32 [rS s] (.bf [bh mB 3 (kV s).1,rI (kV s).2.1,rI (kV s).2.2]):=by
 refine df func32 ntmps32 ?_
 (repeat' (first|refine aA fun K hK=>?_|refine ax ?_|(refine hK _ _ ?_;clear hK K)|(refine az ?_ ?_<;>intro hc<;>try exact jz)|refine cp (GG s 0 hs (Nat.zero_le _)) ?_|refine ay ?_|exact jI|(clear hK K)))
 ·refine lW [.tmp 2,.tmp 3,.tmp 4] ?_;simp only[kV,if_pos hc];refine bK.bf ?_;exact lU
 ·have Tc:=hK;clear hK;have h0:=u6 (s:=s) (i:=0) (Nat.zero_le _);refine fa (S:=Nat×List cB) [(2,8),(16,22)] (fun p=>p.1<=s.size/\p.2.length<=p.1/\wh s p.1 p.2=kV s) (fun p=>[(5,.rs 0 p.2.length 3 p.2.length),(6,rI p.1)]) (fun p=>⟨[],[(0,.aK 134 3 (p.2.map mB))]⟩) (fun p=>s.size-p.1) (oW s 0,[]) ⟨h0.2,Nat.zero_le _,by simp only[kV];rw[jN]⟩ (fb rfl cI) ?_;rintro⟨k,ts⟩ ⟨Te,S5,Vp⟩ Kr S8;simp only at Te S5 Vp
  (refine S ?_;try exact jI)
  by_cases hk:k<s.size
  ·have Yo:=zC (s:=s) (a:=k) hk
   (repeat' (first|refine aA fun K hK=>?_|refine ax ?_|(refine hK _ _ ?_;clear hK K)|(refine az ?_ ?_<;>intro hc<;>try exact jz)|refine cp (Kt s k hs hk) ?_|refine ay ?_|exact jI|(clear hK K)))
   ·refine lW [.tmp 2,.tmp 3,.tmp 4] ?_;rw[<-Vp,Nn hk (by assumption)];refine bK.bf ?_;exact lU
   ·obtain⟨e,V4,YP,he3⟩:=Yo hc;have h4:=u6 he3;rw[V4]
    (repeat' (first|refine aA fun K hK=>?_|refine ax ?_|(refine hK _ _ ?_;clear hK K)|(refine az ?_ ?_<;>intro hc<;>try exact jz)|refine cp (GG s e hs he3) ?_|refine ay ?_|exact jI|(clear hK K)))
    refine S8 _ _ (x8 [1] (oW s e,ts++[(ik s k).1]) ⟨h4.2,by simp;omega,by rw[<-Vp,Q9 hk hc,V4];simp⟩ jJ rfl Sd Sd lU)
  ·(repeat' (first|refine aA fun K hK=>?_|refine ax ?_|(refine hK _ _ ?_;clear hK K)|(refine az ?_ ?_<;>intro hc<;>try exact jz)|refine Tc _ _ ?_|refine ay ?_|exact jI|(clear hK K)))
   refine lW [.tmp 2,.tmp 3,.tmp 4] ?_;rw[<-Vp,KV hk];simp only[go_sem];refine bK.bf ?_;refine jA ?_ (jA (.same _ rfl) (jA (.same _ rfl) trivial));refine dM.row (enc:=mB) (e:=134) (ts++[⟨0,⟨#[]⟩,s.size⟩]) ?_ ?_ ?_
   ·rfl
   ·(refine S ?_;try exact jI)
    rfl
   ·(refine S ?_;try exact jI)
def iq(r:Rd):SG:=[rS r.src,bh mB 3 r.l,rI r.i,.rs 1 r.nodes.length 5 r.nodes.length,rI r.deep,rI r.e,rI r.at_]
def cF(r:Rd):SF:=[(0,.var 104 (iq r)),(1,.aK 59 5 (r.nodes.map dO))]
attribute [go_sem] cF iq
abbrev pR:AV:=.pt 0 0 0 0
structure oE(r:Rd):Prop where
 src:r.src.size<=1000
 pos:0<=r.i
 lt:r.i<r.l.length
 len:r.l.length<=2000
 pv:-1000<=r.deep
 qf:r.deep<=1000
 nodes:r.nodes.length<=100000
def bI{r:Rd}(h:r.Inv):oE r:=by have hp:=h.ee;unfold Rd.ee at hp;have:=h.lt;have:=h.pv;have:=h.qf;exact⟨h.src,h.pos,h.lt,h.len,jB,jB,by split at hp<;>omega⟩
def tX(r:Rd)(e:Int)(h:oE r):ai prog 106 [pR,rI e] (cF r) (fun v l=>v=.bf []/\l=cF (r.aG e)):=by
 obtain⟨h1,h2,h3,h4,h5,h6,h7⟩:=h;refine aU func106 ntmps106 ?_;simp only[cF,iq]
 (repeat' (first|refine aA fun K hK=>?_|refine ax ?_|(with_reducible refine gR 2 ?_);refine dE 2 (bo 0 15) mixed ?_|(refine hK _ _ ?_;clear hK K)|(refine az ?_ ?_<;>intro hc<;>try exact jz)|refine ay ?_|exact jI|(clear hK K)))
 ·(refine cr [] ?_ ?_<;>(try simp only[go_sem]))
  simp only[Rd.aG,if_pos hc];rfl
 ·(refine cr [] ?_ ?_<;>(try simp only[go_sem]))
  simp only[Rd.aG,if_neg hc]
def gv(r:Rd)(t:SK)(h:oE r):ai prog 65 [pR,rS t] (cF r) (fun v l=>v=rB (r.is t)/\l=cF r):=by
 obtain⟨h1,h2,h3,h4,h5,h6,h7⟩:=h;refine aU func65 ntmps65 ?_;simp only[cF,iq]
 (repeat' (first|refine aA fun K hK=>?_|refine ax ?_|(with_reducible refine gR 1 ?_);refine dE 1 (bo 0 12) mixed ?_|(refine hK _ _ ?_;clear hK K)|(refine az ?_ ?_<;>intro hc<;>try exact jz)|refine ay ?_|exact jI|(clear hK K)))
 (refine bG [.tmp 4] ?_;try simp only[go_sem])
 rfl
def yh(r:Rd)(k:Int)(h:oE r):ai prog 33 [pR,rI k] (cF r) (fun v l=>v=rB (r.kind k)/\l=cF r):=by
 obtain⟨h1,h2,h3,h4,h5,h6,h7⟩:=h;refine aU func33 ntmps33 ?_;simp only[cF,iq]
 (repeat' (first|refine aA fun K hK=>?_|refine ax ?_|(with_reducible refine gR 1 ?_);refine dE 1 (bo 0 21) mixed ?_|(refine hK _ _ ?_;clear hK K)|(refine az ?_ ?_<;>intro hc<;>try exact jz)|refine ay ?_|exact jI|(clear hK K)))
 (refine bG [.tmp 4] ?_;try simp only[go_sem])
 rfl
def iP(r:Rd)(t:SK)(h:oE r):ai prog 63 [pR,rS t] (cF r) (fun v l=>v=.bf []/\l=cF (r.ar t)):=by
 have Wh:=gv r t h;have hf:=tX r 20 h;obtain⟨h1,h2,h3,h4,h5,h6,h7⟩:=h;simp only[cF,iq]at Wh hf;refine aU func63 ntmps63 ?_;simp only[cF,iq]
 (repeat' (first|refine aA fun K hK=>?_|refine ax ?_|(refine hK _ _ ?_;clear hK K)|(refine az ?_ ?_<;>intro hc<;>try exact jz)|refine cm (Wh) ?_|refine cm (hf) ?_|refine ay ?_|exact jI|(clear hK K)))
 ·(refine cr [] ?_ ?_<;>(try simp only[go_sem]))
  simp only[Rd.ar,hc,Bool.false_eq_true,if_false,go_sem]
 ·(refine cr [] ?_ ?_<;>(try simp only[go_sem]))
  simp only[Rd.ar,hc,if_true];rfl
def ve(r:Rd)(h:oE r):ai prog 64 [pR] (cF r) (fun v l=>v=rS r.name.2/\l=cF r.name.1):=by
 have Wh:=yh r 3 h;have hf:=tX r 20 h;obtain⟨h1,h2,h3,h4,h5,h6,h7⟩:=h;simp only[cF,iq]at Wh hf;refine aU func64 ntmps64 ?_;simp only[cF,iq]
 (repeat' (first|refine aA fun K hK=>?_|refine ax ?_|(with_reducible refine gR 6 ?_);refine dE 6 (bo 0 13) mixed ?_|(refine hK _ _ ?_;clear hK K)|(refine az ?_ ?_<;>intro hc<;>try exact jz)|refine cm (Wh) ?_|refine cm (hf) ?_|refine ay ?_|exact jI|(clear hK K)))
 ·(refine cr [.tmp 2] ?_ ?_<;>(try simp only[go_sem]))
  ·simp only[Rd.name,hc,Bool.false_eq_true,if_false]
  ·simp only[Rd.name,hc,Bool.false_eq_true,if_false,go_sem]
 ·(refine cr [.tmp 2] ?_ ?_<;>(try simp only[go_sem]))
  ·simp only[Rd.name,hc,if_true];rw[show r.i+1-1=r.i from jB];rfl
  ·simp only[Rd.name,hc,if_true];rfl
def ii(r:Rd)(h:oE r):ai prog 62 [pR] (cF r) (fun v l=>v=rI r.cU/\l=cF r):=by
 obtain⟨h1,h2,h3,h4,h5,h6,h7⟩:=h;refine aU func62 ntmps62 ?_;simp only[cF,iq]
 (repeat' (first|refine aA fun K hK=>?_|refine ax ?_|(with_reducible refine gR 1 ?_);refine dE 1 (bo 0 17) mixed ?_|(refine hK _ _ ?_;clear hK K)|(refine az ?_ ?_<;>intro hc<;>try exact jz)|refine cp (P3 _ _ jB) ?_|refine ay ?_|exact jI|(clear hK K)))
 (refine cr [.tmp 2] ?_ ?_<;>(try simp only[go_sem]))
 rfl
def wV(r:Rd)(k ln n:Int)(nm:SK)(L:SI)(h:oE r):ai prog 111 [pR,rI k,rI ln,rI n,rS nm,bh eI 1 L] (cF r) (fun v l=>v=rI (r.put k ln n nm L).2/\l=cF (r.put k ln n nm L).1):=by
 obtain⟨h1,h2,h3,h4,h5,h6,h7⟩:=h;refine aU func111 ntmps111 ?_;simp only[cF,iq]
 (repeat' (first|refine aA fun K hK=>?_|refine ax ?_|(refine hK _ _ ?_;clear hK K)|(refine az ?_ ?_<;>intro hc<;>try exact jz)|refine ay ?_|exact jI|(clear hK K)))
 (refine cr [.tmp 12] ?_ ?_<;>(try simp only[go_sem]))
 ·simp only[Rd.put];exact Pw jB
 ·simp only[Rd.put,Rd.node,List.map_append,List.length_append,List.length_cons,List.length_nil];rfl
def uw(r:Rd)(h:oE r):ai prog 109 [pR] (cF r) (fun v l=>v=.bf []/\l=cF r.down):=by
 have hf:=tX r 21 h;obtain⟨h1,h2,h3,h4,h5,h6,h7⟩:=h;simp only[cF,iq]at hf;refine aU func109 ntmps109 ?_;simp only[cF,iq]
 (repeat' (first|refine aA fun K hK=>?_|refine ax ?_|(refine hK _ _ ?_;clear hK K)|(refine az ?_ ?_<;>intro hc<;>try exact jz)|refine cm (hf) ?_|refine ay ?_|exact jI|(clear hK K)))
 ·(refine cr [] ?_ ?_<;>(try simp only[go_sem]))
  simp only[Rd.down,if_pos hc,go_sem]
 ·(refine cr [] ?_ ?_<;>(try simp only[go_sem]))
  simp only[Rd.down];rw[jN]
def sr(r:Rd)(h:oE r):ai prog 107 [pR] (cF r) (fun v l=>v=rS r.word/\l=cF r):=by
 have Wh:=yh r 4 h;obtain⟨h1,h2,h3,h4,h5,h6,h7⟩:=h;simp only[cF,iq]at Wh;refine aU func107 ntmps107 ?_;simp only[cF,iq]
 (repeat' (first|refine aA fun K hK=>?_|refine ax ?_|(with_reducible refine gR 3 ?_);refine dE 3 (bo 0 12) mixed ?_|(refine hK _ _ ?_;clear hK K)|(refine az ?_ ?_<;>intro hc<;>try exact jz)|refine cm (Wh) ?_|refine ay ?_|exact jI|(clear hK K)))
 ·(refine cr [.tmp 2] ?_ ?_<;>(try simp only[go_sem]))
  simp only[Rd.word,hc,if_true];rfl
 ·(refine cr [.tmp 2] ?_ ?_<;>(try simp only[go_sem]))
  simp only[Rd.word,hc,Bool.false_eq_true,if_false]
def MG(r:Rd)(h:oE r)(hn:r.kind 3=true->r.i+1<r.l.length):ai prog 144 [pR] (cF r) (fun v l=>v=rB r.calls/\l=cF r):=by
 have Wh:=yh r 3 h;obtain⟨h1,h2,h3,h4,h5,h6,h7⟩:=h;simp only[cF,iq]at Wh;refine aU func144 ntmps144 ?_;simp only[cF,iq]
 (repeat' (first|refine aA fun K hK=>?_|refine ax ?_|(with_reducible refine gR 2 ?_);refine dE 2 (bo 0 32) mixed ?_|(refine hK _ _ ?_;clear hK K)|(refine az ?_ ?_<;>intro hc<;>try exact jz)|refine cm (Wh) ?_|refine ay ?_|exact jI|(clear hK K)))
 refine⟨fun h=>⟨h,jB,hn h⟩,fun h=>⟨h,jB,hn (by simp only[Bool.and_eq_true]at h;exact h.1)⟩,?_⟩
 (repeat' (first|refine aA fun K hK=>?_|refine ax ?_|(refine hK _ _ ?_;clear hK K)|(refine az ?_ ?_<;>intro hc<;>try exact jz)|refine ay ?_|exact jI|(clear hK K)))
 (refine bG [.tmp 2] ?_;try simp only[go_sem])
 rfl
def JK(lv:Int):aP prog 164 [rI lv] (bh eS 1 (nL lv)):=by
 refine df func164 ntmps164 ?_
 (repeat' (first|refine aA fun K hK=>?_|refine ax ?_|(refine hK _ _ ?_;clear hK K)|(refine az ?_ ?_<;>intro hc<;>try exact jz)|refine ay ?_|exact jI|(clear hK K)))
 all_goals refine lW [.tmp 2] ?_
 all_goals simp only[nL, *,if_true,if_false,Int.reduceEq,if_pos,if_neg,not_false_eq_true]
 all_goals exact .lit _ _ _ _ _
def Sg(lv:Int):(nL lv).length<=4/\∀s∈nL lv,s≠⟨#[]⟩:=by
 unfold nL;split
 ·decide
 ·split
  ·decide
  ·split
   ·decide
   ·split<;>decide
def HV(r:Rd)(lv:Int)(h:oE r):ai prog 155 [pR,rI lv] (cF r) (fun v l=>v=rS (r.next lv)/\l=cF r):=by
 have Wh:=fun t=>gv r t h
 have hl:=Sg lv;obtain⟨h1,h2,h3,h4,h5,h6,h7⟩:=h;simp only[cF,iq]at Wh;refine aU func155 ntmps155 ?_;simp only[cF,iq]
 (repeat' (first|refine aA fun K hK=>?_|refine ax ?_|(refine hK _ _ ?_;clear hK K)|(refine az ?_ ?_<;>intro hc<;>try exact jz)|refine cp (JK lv) ?_|refine ay ?_|exact jI|(clear hK K)))
 have Tc:=hK;clear hK;refine fa (S:=Nat) [(4,1),(6,2),(10,17)] (fun k=>k<=(nL lv).length/\∀j,j<k->r.is (nth (nL lv) j)=false) (fun k=>[(6,rI k)]) (fun _=>⟨[0,1],cF r⟩) (fun k=>(nL lv).length-k) 0 ⟨jB,fun j h=>jB⟩ (fb rfl cI) ?_;rintro k ⟨Te,S5⟩ Kr S8;simp only[cF,iq];refine S ?_
 (repeat' (first|refine aA fun K hK=>?_|refine ax ?_|(refine hK _ _ ?_;clear hK K)|(refine az ?_ ?_<;>intro hc<;>try exact jz)|refine cm (Wh _) ?_|refine Tc _ _ ?_|refine ay ?_|exact jI|(clear hK K)))
 ·(refine cr [.tmp 4] ?_ ?_<;>(try simp only[go_sem]))
  have:(nL lv).find? (fun s=>r.is s)=some (nth (nL lv) k):=Af S5 jB hc;simp only[Rd.next,this]
 ·refine S8 _ _ (fc (k+1) ⟨jB,fun j hj=>?_⟩ jJ rfl cI);by_cases e:j=k
  ·subst e;exact hc
  ·exact S5 j jB
 ·(refine cr [.tmp 4] ?_ ?_<;>(try simp only[go_sem]))
  have:(nL lv).find? (fun s=>r.is s)=none:=A8 fun j hj=>S5 j jB
  simp only[Rd.next,this]
def IY{P:SQ}{f:FuncId}{args args':SG}{l:SF}{R:AV->List SS->Prop}(hl:pN args args')(h:ai P f args' l R):ai P f args l R:=fun w vs h1 h2=>by
 obtain⟨D',hg⟩:=hl.get;refine h w vs h1 ⟨D'.symm.trans h2.1,fun i a v ha hv=>?_⟩;have hi:i<args.length:=by rw[D'];exact(List.getElem?_eq_some_iff.1 ha).1
 exact hg i args[i] a (List.getElem?_eq_getElem hi) ha w v (h2.2 i _ v (List.getElem?_eq_getElem hi) hv)
def lz(r:Rd)(k ln n:Int)(nm:SK)(L:SI)(a:AV)(ha:gm a (bh eI 1 L))(h:oE r):ai prog 111 [pR,rI k,rI ln,rI n,rS nm,a] (cF r) (fun v l=>v=rI (r.put k ln n nm L).2/\l=cF (r.put k ln n nm L).1):=
 IY (args':=[pR,rI k,rI ln,rI n,rS nm,bh eI 1 L]) ⟨gm.refl _,gm.refl _,gm.refl _,gm.refl _,gm.refl _,ha,trivial⟩ (wV r k ln n nm L h)
def A2(n:Nat):Prop:=∀r:Rd,r.Inv->8*r.rem+1<=n->ai prog 163 [pR] (cF r) (fun v l=>v=rI (qv n r).2/\l=cF (qv n r).1)
def z8(n:Nat):Prop:=∀r:Rd,r.Inv->8*r.rem+2<=n->ai prog 154 [pR] (cF r) (fun v l=>v=rI (iA n r).2/\l=cF (iA n r).1)
def zE(n:Nat):Prop:=∀(lv:Nat) (r:Rd),lv<=5->r.Inv->8*r.rem+8-lv<=n->ai prog 146 [pR,rI lv] (cF r) (fun v l=>v=rI (eH n lv r).2/\l=cF (eH n lv r).1)
def Sr(n:Nat)(ha:A2 n)(hf:z8 n):z8 (n+1):=by
 intro r h hn;have sg:∀t,r.is t=true->r.e=0/\r.down.Inv/\r.down.inc.Inv/\r.down.inc.rem+1<=r.rem:=fun t ht=>by
  obtain⟨he,hk⟩:=Rd.aZ ht;obtain⟨h1,h2,h3,h4,_⟩:=Rd.bS h he;have Wd:r.down.tok=r.tok:=by unfold Rd.tok;rw[h3,h4]
  obtain⟨s1,e1⟩:=Rd.bv h1 (by rw[Wd];exact hk);have:=s1.inv h1;have hb:=Rd.behind h1 (by rw[Wd];exact hk);refine⟨he,h1,this,?_⟩;unfold Rd.rem;rw[if_pos he];have:r.down.inc.i=r.i+1:=by show r.down.i+1=_;rw[h3]
  have hl:r.down.inc.l=r.l:=h4;rw[this,hl];rw[h3,h4]at hb;split<;>omega
 by_cases hm:r.is (⟨#[45]⟩:SK)=true
 ·obtain⟨he,h1,h2,h3⟩:=sg _ hm;have s2:=(sH n).2.1 _ h2;have h4:=s2.inv h2;have h5:(iA n r.down.inc).1.up.Inv:=(Rd.fE h he ((Rd.bv h1 (by obtain⟨_,_,h3,h4,_⟩:=Rd.bS h he;unfold Rd.tok;rw[h3,h4];exact(Rd.aZ hm).2)).1.trans s2)).inv h;have hd1:=h2.pv;have hd2:=h2.qf;have VZ:=h1.lt;have Xq:=h1.len;have hi3:=h1.pos;have hd3:=h4.pv;have hd4:=h4.qf;rw[iA,if_pos hm];refine aU func154 ntmps154 ?_;refine S ?_
  (have W:=hm;repeat' (first|refine aA fun K hK=>?_|refine ax ?_|(refine hK _ _ ?_;clear hK K)|(refine az ?_ ?_<;>intro hc<;>try exact jz)|refine cm (ii r (bI h)) ?_|refine cm (gv r _ (bI h)) ?_|refine cm (uw r (bI h)) ?_|refine cm (hf r.down.inc h2 jB) ?_|refine cm (lz (iA n r.down.inc).1.up _ _ _ _ [(iA n r.down.inc).2] _ gm.sl (bI h5)) ?_|refine ay ?_|exact jI|(clear hK K)))
  (refine cr [.tmp 2] ?_ ?_<;>(try simp only[go_sem]))
 ·have hmf:r.is (⟨#[45]⟩:SK)=false:=by simpa using hm
  by_cases hq:r.is (⟨#[33]⟩:SK)=true
  ·obtain⟨he,h1,h2,h3⟩:=sg _ hq;have s2:=(sH n).2.1 _ h2;have h4:=s2.inv h2;have h5:(iA n r.down.inc).1.up.Inv:=(Rd.fE h he ((Rd.bv h1 (by obtain⟨_,_,h3,h4,_⟩:=Rd.bS h he;unfold Rd.tok;rw[h3,h4];exact(Rd.aZ hq).2)).1.trans s2)).inv h;have hd1:=h2.pv;have hd2:=h2.qf;have VZ:=h1.lt;have Xq:=h1.len;have hi3:=h1.pos;have hd3:=h4.pv;have hd4:=h4.qf;rw[iA,if_neg hm,if_pos hq];refine aU func154 ntmps154 ?_;refine S ?_
   (have W:=jA hmf hq;repeat' (first|refine aA fun K hK=>?_|refine ax ?_|(refine hK _ _ ?_;clear hK K)|(refine az ?_ ?_<;>intro hc<;>try exact jz)|refine cm (ii r (bI h)) ?_|refine cm (gv r _ (bI h)) ?_|refine cm (uw r (bI h)) ?_|refine cm (hf r.down.inc h2 jB) ?_|refine cm (lz (iA n r.down.inc).1.up _ _ _ _ [(iA n r.down.inc).2] _ gm.sl (bI h5)) ?_|refine ay ?_|exact jI|(clear hK K)))
   (refine cr [.tmp 2] ?_ ?_<;>(try simp only[go_sem]))
  ·have hqf:r.is (⟨#[33]⟩:SK)=false:=by simpa using hq
   rw[iA,if_neg hm,if_neg hq];refine aU func154 ntmps154 ?_;refine S ?_
   (have W:=jA hmf hqf;repeat' (first|refine aA fun K hK=>?_|refine ax ?_|(refine hK _ _ ?_;clear hK K)|(refine az ?_ ?_<;>intro hc<;>try exact jz)|refine cm (ii r (bI h)) ?_|refine cm (gv r _ (bI h)) ?_|refine cm (ha r h jB) ?_|refine ay ?_|exact jI|(clear hK K)))
   (refine cr [.tmp 2] ?_ ?_<;>(try simp only[go_sem]))
def Of(n:Nat)(hf:z8 n)(UU:∀m,m<=n->zE m):zE (n+1):=by
 intro lv r hlv h hn;have O':∀(m:Nat) (q:Rd),m<=n->lv+1<=5->q.Inv->8*q.rem+7-lv<=m->ai prog 146 [pR,rI ((lv:Int)+1)] (cF q) (fun v l=>v=rI (eH m (lv+1) q).2/\l=cF (eH m (lv+1) q).1):=fun m q hm hl hq hr=>by have:=UU m hm (lv+1) q hl hq jB;rw[show((lv+1:Nat):Int)=(lv:Int)+1 from jB]at this;exact this
 by_cases h5:lv=5
 ·subst h5;rw[eH,if_pos rfl];refine aU func146 ntmps146 ?_;refine S ?_
  (repeat' (first|refine aA fun K hK=>?_|refine ax ?_|(refine hK _ _ ?_;clear hK K)|(refine az ?_ ?_<;>intro hc<;>try exact jz)|refine cm (hf r h jB) ?_|refine ay ?_|exact jI|(clear hK K)))
  (refine cr [.tmp 4] ?_ ?_<;>(try simp only[go_sem]))
 ·rw[eH,if_neg h5];have s1:=(sH n).2.2.1 (lv+1) r h;have h1:=s1.inv h;have VD:=s1.rem;refine aU func146 ntmps146 ?_;refine S ?_
  (repeat' (first|refine aA fun K hK=>?_|refine ax ?_|(refine hK _ _ ?_;clear hK K)|(refine az ?_ ?_<;>intro hc<;>try exact jz)|refine cm (ii r (bI h)) ?_|refine cm (O' n r jl jB h jB) ?_|refine ay ?_|exact jI|(clear hK K)))
  refine fa (S:=Nat×Rd×Int) [(4,1),(6,3),(19,27)] (fun s=>s.2.1.Inv/\8*s.2.1.rem+7-lv<=s.1/\s.1<=n/\oO s.1 lv r.cU s.2=oO n lv r.cU (eH n (lv+1) r)) (fun s=>[(6,rI s.2.2)]) (fun s=>⟨[0,1],cF s.2.1⟩) (fun s=>s.1) (n,eH n (lv+1) r) ⟨h1,jJ,Nat.le_refl _,rfl⟩ (fb rfl cI) ?_;rintro⟨m,q,x⟩ ⟨hq,VE,Un,Ue⟩ Kr S8;simp only at hq VE Un Ue;rw[<-Ue];obtain⟨m,rfl⟩:∃k,m=k+1:=⟨m-1,jB⟩;have Yf:=hq.lt;have hqp:=hq.pos;have hqn:=hq.len;by_cases hx:q.next lv=⟨#[]⟩
  ·rw[oO,if_pos hx];refine S ?_
   (have W:=hx;repeat' (first|refine aA fun K hK=>?_|refine ax ?_|(refine hK _ _ ?_;clear hK K)|(refine az ?_ ?_<;>intro hc<;>try exact jz)|refine cm (HV q lv (bI hq)) ?_|refine ay ?_|exact jI|(clear hK K)))
   (refine cr [.tmp 4] ?_ ?_<;>(try simp only[go_sem]))
  ·have hk:=Rd.aZ (Rd.lT hx);obtain⟨t1,e1⟩:=Rd.bv hq hk.2;have hi:=t1.inv hq;have hri:=Rd.dj hq hk;have t2:=(sH m).2.2.1 (lv+1) _ hi;have hj:=t2.inv hi;have hrj:=t2.rem;have t3:=fun L=>Rd.dh (t1.trans t2) (by have:=t2.ee;omega) 9 r.cU 0 (q.next lv) L
   rw[oO,if_neg hx];refine S ?_
   (have W:=hx;repeat' (first|refine aA fun K hK=>?_|refine ax ?_|(refine hK _ _ ?_;clear hK K)|(refine az ?_ ?_<;>intro hc<;>try exact jz)|refine cm (HV q lv (bI hq)) ?_|refine cm (O' m q.inc jB jB hi jB) ?_|refine cm (lz (eH m (lv+1) q.inc).1 _ _ _ _ [x,(eH m (lv+1) q.inc).2] _ gm.sl (bI hj)) ?_|refine ay ?_|exact jI|(clear hK K)))
   ·have h2:lv=2:=jB
    (refine cr [.tmp 4] ?_ ?_<;>(try simp only[go_sem]))
    ·simp only[if_pos h2]
    ·simp only[if_pos h2]
   ·have h2:¬lv=2:=jB;refine S8 _ _ (fc (m,(eH m (lv+1) q.inc).1.put 9 r.cU 0 (q.next lv) [x,(eH m (lv+1) q.inc).2]) ⟨(t3 _).inv hq,?_,jJ,?_⟩ jJ rfl cI)
    ·have h6:∀L,((eH m (lv+1) q.inc).1.put 9 r.cU 0 (q.next lv) L).1.rem=(eH m (lv+1) q.inc).1.rem:=fun L=>rfl
     simp only[h6];omega
    ·rw[<-Ue,oO,if_neg hx,if_neg h2]
end Go.Proofs.YtbjookcdpondlaaGreatDoor