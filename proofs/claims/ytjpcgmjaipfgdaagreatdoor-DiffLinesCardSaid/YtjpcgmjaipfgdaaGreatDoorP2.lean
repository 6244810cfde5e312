/- Lemmas. No conditions. -/
import Derived.Test.YtjpcgmjaipfgdaaGreatDoorLxT
set_option linter.all false
set_option maxHeartbeats 4000000
set_option maxRecDepth 10000
namespace Go.Gd
open Go
def qf{α:Type}[Inhabited α]{a b:List α}{i:Nat}(h:i<a.length):nth (a++b) i=nth a i:=by simp[nth,List.getD_eq_getElem?_getD,List.getElem?_append_left h]
def qM{α:Type}[Inhabited α](a:List α)(x:α):nth (a++[x]) a.length=x:=by simp[nth,List.getD_eq_getElem?_getD]
def bT(t:List bk)(i:Int):Int:=(nth t i.toNat).kind
def cF(k:Int):Prop:=1<=k/\k<=9
def fk(k:Int):Prop:=cF k\/k=19\/k=20\/k=21
def fu(k:Int):Prop:=10<=k/\k<=17
def zX:List UX:=[(⟨#[124,124]⟩:UX),(⟨#[38,38]⟩:UX),(⟨#[60]⟩:UX),(⟨#[60,61]⟩:UX),(⟨#[61,61]⟩:UX),(⟨#[33,61]⟩:UX),(⟨#[43]⟩:UX),(⟨#[45]⟩:UX),(⟨#[42]⟩:UX),(⟨#[47]⟩:UX),(⟨#[37]⟩:UX)]
structure Shape(t:List bk)(n:bk):Prop where
 any:1<=n.kind/\n.kind<=21
 zero:n.kind=1\/n.kind=2\/n.kind=3\/n.kind=4\/n.kind=19->n.l=[]
 one:n.kind=5\/n.kind=6\/n.kind=7\/n.kind=8\/n.kind=14\/n.kind=20->∃a,n.l=[a]/\cF (bT t a)
 two:n.kind=9\/n.kind=12->∃a b,n.l=[a,b]/\cF (bT t a)/\cF (bT t b)
 right:n.kind=10\/n.kind=11->∃a,n.l=[a]/\fk (bT t a)
 tS:n.kind=13->∃a,n.l=[a]/\bT t a=21
 lC:n.kind=15->∃a b,cF (bT t a)/\bT t b=18/\(n.l=[a,b]\/∃d,n.l=[a,b,d]/\bT t d=18)
 dP:n.kind=16->∃a b,n.l=[a,b]/\cF (bT t a)/\bT t b=18
 ret:n.kind=17->n.l=[]\/∃a,n.l=[a]/\cF (bT t a)
 block:n.kind=18->∀a∈n.l,fu (bT t a)
 call:n.kind=21->∀a∈n.l,cF (bT t a)
 num:n.kind=1->∃s,rZ s/\n.n=qv s
 bool:n.kind=2->n.n=0\/n.n=1
 text:n.kind=3->n.name.size<=12
 sign:n.kind=9->n.name∈zX
inductive aI(t:List bk):Nat->List Int->Nat->Prop
 |nil (k:Nat):aI t k [] k
 |cons {lo c hi:Nat} {L:List Int} (hc:c<t.length) (h1:aI t lo (nth t c).l c) (h2:aI t (c+1) L hi):aI t lo ((c:Int)::L) hi
variable{t:List bk}{lo hi:Nat}{L:UU}
def aI.le(h:aI t lo L hi):lo<=hi:=by
 induction h with
 |nil=>exact Nat.le_refl _
 |cons _ _ _ i1 i2=>omega
def aI.mem(h:aI t lo L hi):∀a∈L,0<=a/\lo<=a.toNat/\a.toNat<hi/\a.toNat<t.length:=by
 induction h with
 |nil=>intro a ha;simp at ha
 |@cons lo c hi L hc h1 h2 i1 i2=>
  intro a ha;have l1:=h1.le;have l2:=h2.le;rcases List.mem_cons.1 ha with rfl|ha
  ·exact⟨jB,by simpa using l1,by simp;omega,by simpa using hc⟩
  ·have:=i2 a ha;omega
variable{u:List bk}
def aI.mono(h:aI t lo L hi):aI (t++u) lo L hi:=by
 induction h with
 |nil k=>exact .nil k
 |cons hc _ _ i1 i2=>exact .cons jF (by rw[qf hc];exact i1) i2
variable{M:UU}
def aI.append{mid:Nat}(h:aI t lo L mid):aI t mid M hi->aI t lo (L++M) hi:=by
 induction h with
 |nil=>intro k;exact k
 |cons hc h1 _ _ i2=>intro k;exact .cons hc h1 (i2 k)
def aI.one{c:Nat}(hc:c<t.length)(h:aI t lo (nth t c).l c):aI t lo [(c:Int)] (c+1):=.cons hc h (.nil _)
def nz{a:Int}(h:a.toNat<t.length):bT (t++u) a=bT t a:=by unfold bT;rw[qf h]
def Shape.mono{n:bk}(h:Shape t n)(hl:∀a∈n.l,a.toNat<t.length):Shape (t++u) n where
 any:=h.any
 zero:=h.zero
 one:=fun e=>by obtain⟨a,h1,h2⟩:=h.one e;exact⟨a,h1,by rw[nz (hl a (by rw[h1];simp))];exact h2⟩
 two:=fun e=>by obtain⟨a,b,h1,h2,h3⟩:=h.two e;exact⟨a,b,h1,by rw[nz (hl a (by rw[h1];simp))];exact h2,by rw[nz (hl b (by rw[h1];simp))];exact h3⟩
 right:=fun e=>by obtain⟨a,h1,h2⟩:=h.right e;exact⟨a,h1,by rw[nz (hl a (by rw[h1];simp))];exact h2⟩
 tS:=fun e=>by obtain⟨a,h1,h2⟩:=h.tS e;exact⟨a,h1,by rw[nz (hl a (by rw[h1];simp))];exact h2⟩
 lC:=fun e=>by
  obtain⟨a,b,h1,h2,h3⟩:=h.lC e;rcases h3 with h3|⟨d,h3,h4⟩
  ·exact⟨a,b,by rw[nz (hl a (by rw[h3];simp))];exact h1,by rw[nz (hl b (by rw[h3];simp))];exact h2,.inl h3⟩
  ·exact⟨a,b,by rw[nz (hl a (by rw[h3];simp))];exact h1,by rw[nz (hl b (by rw[h3];simp))];exact h2,.inr ⟨d,h3,by rw[nz (hl d (by rw[h3];simp))];exact h4⟩⟩
 dP:=fun e=>by obtain⟨a,b,h1,h2,h3⟩:=h.dP e;exact⟨a,b,h1,by rw[nz (hl a (by rw[h1];simp))];exact h2,by rw[nz (hl b (by rw[h1];simp))];exact h3⟩
 ret:=fun e=>by
  rcases h.ret e with h1|⟨a,h1,h2⟩
  ·exact .inl h1
  ·exact .inr ⟨a,h1,by rw[nz (hl a (by rw[h1];simp))];exact h2⟩
 block:=fun e a ha=>by rw[nz (hl a ha)];exact h.block e a ha
 call:=fun e a ha=>by rw[nz (hl a ha)];exact h.call e a ha
 num:=h.num
 bool:=h.bool
 text:=h.text
 sign:=h.sign
def aI.len(h:aI t lo L hi):L.length+lo<=hi:=by
 induction h with
 |nil=>simp
 |@cons lo c hi L hc h1 h2 i1 i2=> have:=h1.le;simp only[List.length_cons];omega
structure Mk(t t':List bk)(L:List Int):Prop where
 pre:∃u,t'=t++u
 chain:aI t' t.length L t'.length
 shape:∀k,t.length<=k->k<t'.length->Shape t' (nth t' k)/\(∀a∈(nth t' k).l,0<=a/\a.toNat<k)/\∃lo,aI t' lo (nth t' k).l k
def Mk.refl(t:List bk):Mk t t []:=⟨⟨[],jE⟩,.nil _,fun k h1 h2=>jB⟩
variable{a b:List bk}
def Mk.trans{c:List bk}(h:Mk a b L)(k:Mk b c M):Mk a c (L++M):=by
 obtain⟨⟨u,rfl⟩,h2,h3⟩:=h;obtain⟨⟨v,rfl⟩,k2,k3⟩:=k;refine⟨⟨u++v,jE⟩,h2.mono.append k2,fun i h4 h5=>?_⟩;by_cases hi:i<(a++u).length
 ·obtain⟨g1,g2,lo,g3⟩:=h3 i h4 hi;rw[qf hi];exact⟨g1.mono fun x hx=>by have:=g2 x hx;omega,g2,lo,g3.mono⟩
 ·exact k3 i jB h5
def Mk.put(h:Mk a b L)(n:bk)(hn:n.l=L)(hs:Shape b n):Mk a (b++[n]) [(b.length:Int)]:=by
 obtain⟨⟨u,rfl⟩,h2,h3⟩:=h;have hm:∀x∈n.l,0<=x/\x.toNat<(a++u).length:=fun x hx=>by rw[hn]at hx;exact⟨(h2.mem x hx).1,(h2.mem x hx).2.2.1⟩
 refine⟨⟨u++[n],jE⟩,?_,fun i h4 h5=>?_⟩
 ·have e:((a++u)++[n]).length=(a++u).length+1:=by simp only[List.length_append,List.length_cons,List.length_nil]
  rw[e];refine aI.one jE ?_;rw[qM,hn];exact h2.mono
 ·by_cases hi:i<(a++u).length
  ·obtain⟨g1,g2,lo,g3⟩:=h3 i h4 hi;rw[qf hi];exact⟨g1.mono fun x hx=>by have:=g2 x hx;omega,g2,lo,g3.mono⟩
  ·have:i=(a++u).length:=by simp at h5 hi ⊢;omega
   subst this;rw[qM];exact⟨hs.mono fun x hx=>(hm x hx).2,hm,a.length,by rw[hn];exact h2.mono⟩
def Mk.kind{c:List bk}(h:Mk a b L)(k:Mk b c M){x:Int}(hx:x∈L):bT c x=bT b x:=by obtain⟨⟨v,rfl⟩,_,_⟩:=k;exact nz (h.chain.mem x hx).2.2.2
def K7(t:List bk)(n:bk):bT (t++[n]) (t.length:Int)=n.kind:=by unfold bT;rw[Int.toNat_natCast,qM]
def lu(l:List cd):Prop:=∀k,k<l.length->(nth l k).kind=2->(nth l k).text.size<=12
def Made(r r':Rd)(L:UU)(C:Int->Prop):Prop:=r'.e=0->Mk r.nodes r'.nodes L/\∀a∈L,C (bT r'.nodes a)
structure Still(r r':Rd):Prop where
 nodes:r'.nodes=r.nodes
 err:r'.e=0->r.e=0
 l:r'.l=r.l
def Still.refl(r:Rd):Still r r:=⟨rfl,id,rfl⟩
theorem Still.trans{a b c:Rd}(h:Still a b)(k:Still b c):Still a c:=⟨k.nodes.trans h.nodes,fun e=>h.err (k.err e),k.l.trans h.l⟩
def zT(r:Rd){e:Int}(he:e≠0):Still r (r.aA e):=⟨Rd.dI _ _,fun h=>(Rd.gQ he h).elim,Rd.gT _ _⟩
def nL(r:Rd):Still r r.inc:=⟨rfl,id,rfl⟩
def yL(r:Rd):Still r r.up:=⟨rfl,id,rfl⟩
def j6(r:Rd)(t:UX):Still r (r.ao t):=by
 unfold Rd.ao;split
 ·exact nL r
 ·exact zT r jC
def vo(r:Rd):Still r r.name.1:=by
 unfold Rd.name;split
 ·exact nL r
 ·exact zT r jC
def zr(r:Rd):Still r r.down:=by
 unfold Rd.down;split
 ·have:=zT r (e:=21) jC;exact⟨this.nodes,this.err,this.l⟩
 ·exact⟨rfl,id,rfl⟩
variable{r a b:Rd}{C:Int->Prop}
def Made.pre(s:Still r a)(h:Made a b L C):Made r b L C:=fun e=>by have:=h e;rwa [s.nodes]at this
def Made.post(h:Made r a L C)(s:Still a b):Made r b L C:=fun e=>by have:=h (s.err e);rwa [s.nodes]
def Made.nil(r:Rd)(C:Int->Prop):Made r r [] C:=fun _=>⟨Mk.refl _,fun a ha=>by simp at ha⟩
def Made.qo{D:Int->Prop}(h:Made r a L C)(hc:∀k,C k->D k):Made r a L D:=fun e=>⟨(h e).1,fun a ha=>hc _ ((h e).2 a ha)⟩
def Made.seq{c:Rd}{D:Int->Prop}(h:Made a b L C)(k:Made b c M D)(he:c.e=0->b.e=0):c.e=0->Mk a.nodes c.nodes (L++M)/\(∀x∈L,C (bT c.nodes x))/\∀x∈M,D (bT c.nodes x):=fun e=>by obtain⟨h1,h2⟩:=h (he e);obtain⟨k1,k2⟩:=k e;exact⟨h1.trans k1,fun x hx=>by rw[h1.kind k1 hx];exact h2 x hx,k2⟩
def Made.both{c:Rd}(h:Made a b L C)(k:Made b c M C)(he:c.e=0->b.e=0):Made a c (L++M) C:=fun e=>by obtain⟨h1,h2,h3⟩:=h.seq k he e;exact⟨h1,fun x hx=>(List.mem_append.1 hx).elim (h2 x) (h3 x)⟩
def ka(k ln n:Int)(nm:UX)(h:a.e=0->Mk r.nodes a.nodes L/\Shape a.nodes ⟨k,ln,n,nm,L⟩/\C k):Made r (a.put k ln n nm L).1 [(a.put k ln n nm L).2] C:=fun e=>by obtain⟨h1,h2,h3⟩:=h e;refine⟨h1.put _ rfl h2,fun x hx=>?_⟩;rw[List.mem_singleton.1 hx];show C (bT (a.nodes++[_]) (a.nodes.length:Int));rw[K7];exact h3
variable{k n:Int}
def uv{ln:Int}{nm:UX}(hk:k=1\/k=2\/k=3\/k=4\/k=17\/k=19)(h1:k=1->∃s,rZ s/\n=qv s)(h2:k=2->n=0\/n=1)(h3:k=3->nm.size<=12):Shape t ⟨k,ln,n,nm,[]⟩:=by constructor<;>(try simp only)<;>intros<;>first|(clear h1 h2 h3;omega)|(clear h1 h2 h3;exfalso;omega)|trivial|rfl|(exact .inl rfl)|(exact .inl trivial)|(refine h1 ?_;assumption)|(refine h2 ?_;assumption)|(refine h3 ?_;assumption)|fail
variable{a:Int}
def wv{ln:Int}{nm:UX}(hk:k=5\/k=6\/k=7\/k=8\/k=14\/k=17\/k=20)(h:cF (bT t a)):Shape t ⟨k,ln,n,nm,[a]⟩:=by constructor<;>(try simp only)<;>intros<;>first|omega|omega|trivial|(exact⟨a,rfl,h⟩)|(exact .inr ⟨a,rfl,h⟩)
def FT{ln:Int}{nm:UX}(hk:k=10\/k=11)(h:fk (bT t a)):Shape t ⟨k,ln,n,nm,[a]⟩:=by constructor<;>(try simp only)<;>intros<;>first|omega|omega|trivial|(exact⟨a,rfl,h⟩)
def Qz{ln:Int}{nm:UX}(h:bT t a=21):Shape t ⟨13,ln,n,nm,[a]⟩:=by constructor<;>(try simp only)<;>intros<;>first|omega|omega|trivial|(exact⟨a,rfl,h⟩)
variable{b:Int}
def J5{ln:Int}{nm:UX}(hk:k=12\/k=9/\nm∈zX)(h:cF (bT t a))(h':cF (bT t b)):Shape t ⟨k,ln,n,nm,[a,b]⟩:=by constructor<;>(try simp only)<;>intros<;>first|omega|omega|trivial|(exact⟨a,b,rfl,h,h'⟩)|(rcases hk with hk|hk;omega;exact hk.2)|fail
def QU{ln:Int}{nm:UX}(h:cF (bT t a))(h':bT t b=18):Shape t ⟨16,ln,n,nm,[a,b]⟩:=by constructor<;>(try simp only)<;>intros<;>first|omega|omega|trivial|(exact⟨a,b,rfl,h,h'⟩)
def Qb{ln:Int}{nm:UX}(h:cF (bT t a))(h':bT t b=18):Shape t ⟨15,ln,n,nm,[a,b]⟩:=by constructor<;>(try simp only)<;>intros<;>first|omega|omega|trivial|(exact⟨a,b,h,h',.inl rfl⟩)
def Mu{ln d:Int}{nm:UX}(h:cF (bT t a))(h':bT t b=18)(h'':bT t d=18):Shape t ⟨15,ln,n,nm,[a,b,d]⟩:=by constructor<;>(try simp only)<;>intros<;>first|omega|omega|trivial|(exact⟨a,b,h,h',.inr ⟨d,rfl,h''⟩⟩)
def RL{ln:Int}{nm:UX}(h:∀a∈L,fu (bT t a)):Shape t ⟨18,ln,n,nm,L⟩:=by constructor<;>(try simp only)<;>intros<;>first|omega|omega|trivial|(refine h _ ?_;assumption)|fail
def Us{ln:Int}{nm:UX}(h:∀a∈L,cF (bT t a)):Shape t ⟨21,ln,n,nm,L⟩:=by constructor<;>(try simp only)<;>intros<;>first|omega|omega|trivial|(refine h _ ?_;assumption)|fail
def Tc{lv:Int}(h:r.next lv≠⟨#[]⟩):r.next lv∈zX:=by
 unfold Rd.next at h ⊢;cases e:(nK lv).find? (fun s=>r.is s)with
 |none=>rw[e]at h;exact(h rfl).elim
 |some s=>
  have:=List.mem_of_find?_eq_some e;unfold nK at this;simp only;unfold zX;split at this
  ·simp at this ⊢;simp[this]
  split at this
  ·simp at this ⊢;simp[this]
  split at this
  ·simp at this ⊢;rcases this with h|h|h|h<;>simp[h]
  split at this
  ·simp at this ⊢;rcases this with h|h<;>simp[h]
  ·simp at this ⊢;rcases this with h|h|h<;>simp[h]
def qi{r':Rd}(s:Rd.St r r'):r'.e=0->r.e=0:=fun h=>Classical.byContradiction fun e=>s.err e h
def GH{e:Int}(he:e≠0):Made r (r.aA e) L C:=fun h=>(Rd.gQ he h).elim
theorem HH:∀n,(∀r:Rd,r.Inv->lu r.l->8*r.rem+1<=n->Made r (po n r).1 [(po n r).2] cF)/\(∀r:Rd,r.Inv->lu r.l->8*r.rem+2<=n->Made r (ig n r).1 [(ig n r).2] cF)/\
  (∀lv (r:Rd),r.Inv->lu r.l->lv<=5->8*r.rem+8<=n+lv->Made r (dF n lv r).1 [(dF n lv r).2] cF)/\
  (∀lv ln (r:Rd) (p:Rd×Int),p.1.Inv->lu p.1.l->lv<=4->8*p.1.rem+7<=n+lv->Made r p.1 [p.2] cF->Made r (ny n lv ln p).1 [(ny n lv ln p).2] cF)
 |0=>⟨fun r h ht hn=>by omega,fun r h ht hn=>by omega,fun lv r h ht h5 hn=>by omega,fun lv ln r p h ht h5 hn hp=>by omega⟩
 |n+1=>by
  obtain⟨ia,lC,ic,il⟩:=HH n;have ist:=sI n;have deeper:∀(r:Rd) (t u:UX),r.Inv->lu r.l->r.e=0->8*r.rem+1<=n+1->(r.is t=true\/8*r.rem+8<=n)->Made r ((dF n 0 (r.down.ao t)).1.ao u).up [(dF n 0 (r.down.ao t)).2] cF:=fun r t u h ht he hn hx=>by
   have h1:=(Rd.bH h he).1;have s1:=Rd.aH h1 t;have hr:8*(r.down.ao t).rem+8<=n+0:=by
    rcases hx with hx|hx
    ·have:=(Rd.gS h hx).1;omega
    ·have:=s1.rem;have hdr:r.down.rem<=r.rem:=by
      unfold Rd.rem;obtain⟨_,_,h3,h4,_⟩:=Rd.bH h he;rw[h3,h4,if_pos he];split<;>omega
     omega
   have st:=(zr r).trans (j6 r.down t);have:=ic 0 (r.down.ao t) (s1.inv h1) (by rw[st.l];exact ht) jB hr;exact((this.pre st).post (j6 _ _)).post (yL _)
  refine⟨fun r h ht hn=>?_,fun r h ht hn=>?_,fun lv r h ht h5 hn=>?_,fun lv ln r p h ht h5 hn hp=>?_⟩
  ·unfold po;split
   ·rename_i he;exact fun h=>(he h).elim
   rename_i he;have he:r.e=0:=jB;have Xb:r.i.toNat<r.l.length:=by have:=h.lt;have:=h.pos;omega
   split
   ·rename_i hk;exact ka _ _ _ _ fun _=>⟨Mk.refl _,uv jB (fun _=>⟨_,h.num _ Xb hk,rfl⟩) jH jH,by unfold cF;omega⟩
   split
   ·rename_i hk;exact ka _ _ _ _ fun _=>⟨Mk.refl _,uv jB jH jH (fun _=>ht _ Xb hk),by unfold cF;omega⟩
   split
   ·rename_i hk;have WA:r.e=0/\r.tok.kind≠0:=⟨he,jB⟩;split
    ·have hi:=(Rd.bq h WA.2).1.inv h;have hr:=Rd.cW h WA;have hm:=deeper r.inc (⟨#[91]⟩:UX) (⟨#[93]⟩:UX) hi ht he jB (.inl (by assumption));exact ka _ _ _ _ fun e=>⟨(hm e).1,wv jB ((hm e).2 _ jE),by unfold cF;omega⟩
    ·exact ka _ _ _ _ fun _=>⟨Mk.refl _,uv jB jH jH jH,by unfold cF;omega⟩
   split
   ·exact ka _ _ _ _ fun _=>⟨Mk.refl _,uv jB jH (fun _=>.inr rfl) jH,by unfold cF;omega⟩
   split
   ·exact ka _ _ _ _ fun _=>⟨Mk.refl _,uv jB jH (fun _=>.inl rfl) jH,by unfold cF;omega⟩
   split
   ·rename_i hs;have WA:=Rd.aT hs;split
    ·have hi:=(Rd.bq h WA.2).1.inv h;have hr:=Rd.cW h WA;have hm:=deeper r.inc (⟨#[40]⟩:UX) (⟨#[41]⟩:UX) hi ht he jB (.inl (by assumption));exact ka _ _ _ _ fun e=>⟨(hm e).1,wv jB ((hm e).2 _ jE),by unfold cF;omega⟩
    ·exact fun e=>(Rd.gQ jC e).elim
   split
   ·exact deeper r (⟨#[40]⟩:UX) (⟨#[41]⟩:UX) h ht he hn (.inl (by assumption))
   ·exact GH jC
  ·unfold ig;have sg:∀t,r.is t=true->∀k ln nm,(k=7\/k=8)->Made r (((ig n r.down.inc).1.up).put k ln 0 nm [(ig n r.down.inc).2]).1 [(((ig n r.down.inc).1.up).put k ln 0 nm [(ig n r.down.inc).2]).2] cF:=fun t XM k ln nm hk=>by
    obtain⟨he,Yp⟩:=Rd.aT XM;obtain⟨h1,h2,h3,h4,h5,h6⟩:=Rd.bH h he;have Xb:r.down.tok=r.tok:=by unfold Rd.tok;rw[h3,h4]
    have s1:=(Rd.bq h1 (by rw[Xb];exact Yp)).1;have st:=(zr r).trans (nL r.down);have hr:8*r.down.inc.rem+2<=n:=by
     have hb:=Rd.behind h Yp;unfold Rd.rem at hn ⊢;rw[if_pos he]at hn;have e1:r.down.inc.i=r.i+1:=by show r.down.i+1=_;rw[h3]
     have e2:r.down.inc.l=r.l:=h4;rw[e1,e2];have:=h.pos;split<;>omega
    have hm:=((lC r.down.inc (s1.inv h1) (by rw[st.l];exact ht) hr).pre st).post (yL _);exact ka _ _ _ _ fun e=>⟨(hm e).1,wv jB ((hm e).2 _ jE),by unfold cF;omega⟩
   split
   ·rename_i XM;exact sg _ XM _ _ _ (.inl rfl)
   split
   ·rename_i XM;exact sg _ XM _ _ _ (.inr rfl)
   ·exact ia r h ht jB
  ·unfold dF;split
   ·exact lC r h ht jB
   ·have s1:=ist.2.2.1 (lv+1) r h;exact il lv _ r _ (s1.inv h) (by rw[s1.l];exact ht) jB (by have:=s1.rem;omega) (ic (lv+1) r h ht jB jB)
  ·unfold ny;split
   ·exact hp
   rename_i Yd;have WA:=Rd.aT (Rd.lV Yd);have s1:=(Rd.bq h WA.2).1;have hr:=Rd.cW h WA;have s2:=ist.2.2.1 (lv+1) _ (s1.inv h);have hm:=ic (lv+1) p.1.inc (s1.inv h) (by rw[s1.l];exact ht) jB jB;have ZS:=(hp.post (nL _)).seq hm (qi s2);have haJ:Made r ((dF n (lv+1) p.1.inc).1.put 9 ln 0 (p.1.next lv) [p.2,(dF n (lv+1) p.1.inc).2]).1 [((dF n (lv+1) p.1.inc).1.put 9 ln 0 (p.1.next lv) [p.2,(dF n (lv+1) p.1.inc).2]).2] cF:=
    ka _ _ _ _ fun e=>⟨(ZS e).1,J5 (.inr ⟨rfl,Tc Yd⟩) ((ZS e).2.1 _ jE) ((ZS e).2.2 _ jE),by unfold cF;omega⟩
   split
   ·exact haJ
   ·have s3:=Rd.cR (s1.trans s2) (by have:=s2.dK;have:=(Rd.bq h WA.2).2;omega) 9 ln 0 (p.1.next lv) [p.2,(dF n (lv+1) p.1.inc).2];exact il lv ln r _ (s3.inv h) (by rw[s3.l];exact ht) h5 (by have e:((dF n (lv+1) p.1.inc).1.put 9 ln 0 (p.1.next lv) [p.2,(dF n (lv+1) p.1.inc).2]).1.rem=(dF n (lv+1) p.1.inc).1.rem:=rfl;show 8*((dF n (lv+1) p.1.inc).1.put 9 ln 0 (p.1.next lv) [p.2,(dF n (lv+1) p.1.inc).2]).1.rem+7<=_;rw[e];have:=s2.rem;omega) haJ
def sr(h:r.Inv)(ht:lu r.l):Made r (cU r).1 [(cU r).2] cF:=(HH _).2.2.1 0 r h ht jB jB
def St.kv{r':Rd}(s:Rd.St r r')(h:lu r.l):lu r'.l:=by rw[s.l];exact h
theorem E8:∀(n:Nat) (b:Bool) (r0 r:Rd) (L:UU),r.Inv->lu r.l->Made r0 r L cF->Made r0 (mf n b r L).1 (mf n b r L).2 cF
 |0,_,r0,r,L,h,ht,hm=>by unfold mf;exact hm
 |n+1,false,r0,r,L,h,ht,hm=>by unfold mf;exact hm
 |n+1,true,r0,r,L,h,ht,hm=>by
  have s1:=kH h;have h1:=s1.inv h;have m1:=hm.both (sr h ht) (qi s1);unfold mf;split
  ·rename_i hs;have s2:=(Rd.bq h1 (Rd.aT hs).2).1;exact E8 n _ r0 _ _ (s2.inv h1) (St.kv s2 (St.kv s1 ht)) (m1.post (nL _))
  ·exact m1
def GP(h:r.Inv)(ht:lu r.l):Made r (mU r).1 [(mU r).2] (fun k=>k=21):=by have hs:=zm h;have st:=(vo r).trans (j6 r.name.1 (⟨#[40]⟩:UX));have hm:Made r (oI r).1 (oI r).2 cF:=E8 _ _ r _ _ (hs.inv h) (St.kv hs ht) ((Made.nil _ _).pre st);have hm:=hm.post (j6 (oI r).1 (⟨#[41]⟩:UX));exact ka _ _ _ _ fun e=>⟨(hm e).1,Us (hm e).2,rfl⟩
def Fe(h:r.Inv)(ht:lu r.l):Made r (kZ r).1 [(kZ r).2] fk:=by
 unfold kZ;split
 ·exact ka _ _ _ _ fun _=>⟨Mk.refl _,uv jB jH jH jH,by unfold fk;omega⟩
 split
 ·rename_i hs;have s1:=(Rd.bq h (Rd.aT hs).2).1;have s2:=s1.trans (Rd.aH (s1.inv h) (⟨#[40]⟩:UX));have hm:=((sr (s2.inv h) (St.kv s2 ht)).pre ((nL r).trans (j6 _ _))).post (j6 _ (⟨#[41]⟩:UX));exact ka _ _ _ _ fun e=>⟨(hm e).1,wv jB ((hm e).2 _ jE),by unfold fk;omega⟩
 split
 ·exact(GP h ht).qo fun k hk=>by unfold fk;omega
 ·exact(sr h ht).qo fun k hk=>.inl hk
def Oz(h:r.Inv)(ht:lu r.l)(he:r.e=0):Made r (pe r).1 [(pe r).2] cF:=by have h1:=(Rd.bH h he).1;have s1:=Rd.aH h1 (⟨#[91]⟩:UX);have st:=(zr r).trans (j6 r.down (⟨#[91]⟩:UX));exact(sr (s1.inv h1) (by rw[st.l];exact ht)).pre st
def PQ(h:r.Inv)(ht:lu r.l)(he:r.e=0)(ln:Int):Made r (pd r ln).1 [(pd r ln).2] fu:=by
 unfold pd;split
 ·have hm:=(GP h ht).post (j6 _ (⟨#[59]⟩:UX));exact ka _ _ _ _ fun e=>⟨(hm e).1,Qz ((hm e).2 _ jE),by unfold fu;omega⟩
 have s0:=Rd.dm h;have h0:=s0.inv h;split
 ·rename_i hs;have he0:=(Rd.aT hs).1;have m1:=Oz h0 (St.kv s0 ht) he0;obtain⟨t1,t2⟩:=yN h0 hs;have sB:Rd.St r.name.1 ((pe r.name.1).1.ao (⟨#[93]⟩:UX)).up:=(Ca h0 hs).2;have stl:Still (pe r.name.1).1 (((pe r.name.1).1.ao (⟨#[93]⟩:UX)).up.ao (⟨#[61]⟩:UX)):=((j6 _ _).trans (yL _)).trans (j6 _ _);have m2:Made (((pe r.name.1).1.ao (⟨#[93]⟩:UX)).up.ao (⟨#[61]⟩:UX)) (uB r.name.1).1 [(uB r.name.1).2] cF:=sr (t1.inv h0) (St.kv t1 (St.kv s0 ht));have hm:=((m1.post stl).both m2 (qi (kH (t1.inv h0)))).post (j6 _ (⟨#[59]⟩:UX));have hm:=hm.pre (vo r);exact ka _ _ _ _ fun e=>⟨(hm e).1,J5 (.inl rfl) ((hm e).2 _ jE) ((hm e).2 _ jE),by unfold fu;omega⟩
 ·have s1:=s0.trans (Rd.aH h0 (⟨#[61]⟩:UX));have hm:=((Fe (s1.inv h) (St.kv s1 ht)).pre ((vo r).trans (j6 _ _))).post (j6 _ (⟨#[59]⟩:UX));exact ka _ _ _ _ fun e=>⟨(hm e).1,FT (.inr rfl) ((hm e).2 _ jE),by unfold fu;omega⟩
theorem I9:∀n,(∀r:Rd,r.Inv->lu r.l->4*r.rem+1<=n->Made r (fP n r).1 [(fP n r).2] (fun k=>k=18))/\
  (∀(r0 r:Rd) L,r.Inv->lu r.l->4*r.rem+3<=n->Made r0 r L fu->Made r0 (mn n r L).1 (mn n r L).2 fu)/\
  (∀r:Rd,r.Inv->lu r.l->r.e=0->4*r.rem+2<=n->Made r (mF n r).1 [(mF n r).2] fu)
 |0=>⟨fun r h ht hn=>by omega,fun r0 r L h ht hn hm=>by omega,fun r h ht he hn=>by omega⟩
 |n+1=>by
  obtain⟨ib,il,is_⟩:=I9 n;have ist:=tV n;refine⟨fun r h ht hn=>?_,fun r0 r L h ht hn hm=>?_,fun r h ht he hn=>?_⟩
  ·unfold fP;split
   ·rename_i hx;have he:=(Rd.aT hx).1;have hd:=(Rd.bH h he).1;have s1:=Rd.aH hd (⟨#[123]⟩:UX);have st:=(zr r).trans (j6 r.down (⟨#[123]⟩:UX));have hr:=(Rd.gS h hx).1;have hm:=il r (r.down.ao (⟨#[123]⟩:UX)) [] (s1.inv hd) (by rw[st.l];exact ht) jB ((Made.nil _ _).pre st);have hm:=(hm.post (j6 _ (⟨#[125]⟩:UX))).post (yL _);exact ka _ _ _ _ fun e=>⟨(hm e).1,RL (hm e).2,rfl⟩
   ·exact GH jC
  ·unfold mn;split
   ·rename_i hc;have XH:0<n:=jB;obtain⟨s1,s2⟩:=ist.2.2 r h hc.1 XH;have WR:=hm.both (is_ r h ht hc.1 jB) (qi s1);exact il r0 _ _ (s1.inv h) (St.kv s1 ht) jB WR
   ·exact hm
  ·unfold mF;have word:∀w:UX,w≠⟨#[]⟩->r.word=w->r.inc.Inv/\r.inc.rem+1<=r.rem/\Rd.St r r.inc:=fun w h0 hw=>by
    have hk:=Rd.dH (Rd.gO hw h0) jC;exact⟨(Rd.bq h hk.2).1.inv h,Rd.cW h hk,(Rd.bq h hk.2).1⟩
   split
   ·rename_i hw;obtain⟨h1,h2,s1⟩:=word _ jC hw;have s2:=Rd.dm h1;have s3:=s2.trans (Rd.aH (s2.inv h1) (⟨#[61]⟩:UX));have hm:=((Fe (s3.inv h1) (St.kv s3 ht)).pre ((nL r).trans ((vo r.inc).trans (j6 _ _)))).post (j6 _ (⟨#[59]⟩:UX));exact ka _ _ _ _ fun e=>⟨(hm e).1,FT (.inl rfl) ((hm e).2 _ jE),by unfold fu;omega⟩
   split
   ·rename_i hw;obtain⟨h1,h2,s1⟩:=word _ jC hw;have hm:=((sr h1 (St.kv s1 ht)).pre (nL r)).post (j6 _ (⟨#[59]⟩:UX));exact ka _ _ _ _ fun e=>⟨(hm e).1,wv jB ((hm e).2 _ jE),by unfold fu;omega⟩
   split
   ·rename_i hw;obtain⟨h1,h2,s1⟩:=word _ jC hw;have s2:=kH h1;have s3:=ist.1 _ (s2.inv h1);have hm:=((sr h1 (St.kv s1 ht)).pre (nL r)).seq (ib (cU r.inc).1 (s2.inv h1) (St.kv s2 (St.kv s1 ht)) (by have:=s2.rem;omega)) (qi s3);exact ka _ _ _ _ fun e=>⟨(hm e).1,QU ((hm e).2.1 _ jE) ((hm e).2.2 _ jE),by unfold fu;omega⟩
   split
   ·rename_i hw;obtain⟨h1,h2,s1⟩:=word _ jC hw;have s2:=kH h1;have h3:=s2.inv h1;have s3:=ist.1 _ h3;have h4:=s3.inv h3;have hm:=((sr h1 (St.kv s1 ht)).pre (nL r)).seq (ib (cU r.inc).1 h3 (St.kv s2 (St.kv s1 ht)) (by have:=s2.rem;omega)) (qi s3);split
    ·rename_i hx;have hk:=Rd.aT hx;have s5:=(Rd.bq h4 hk.2).1;have hr5:=Rd.cW h4 hk;have h5:=s5.inv h4;have s6:=ist.1 _ h5;have m3:=(ib (fP n (cU r.inc).1).1.inc h5 (St.kv s5 (St.kv s3 (St.kv s2 (St.kv s1 ht)))) (by have:=s2.rem;have:=s3.rem;omega)).pre (nL _);have he5:=fun e=>qi s5 (qi s6 e)
     exact ka _ _ _ _ fun e=>by obtain⟨a1,a2,a3⟩:=hm (he5 e);obtain⟨b1,b2⟩:=m3 e;exact⟨a1.trans b1,Mu (by rw[a1.kind b1 jE];exact a2 _ jE) (by rw[a1.kind b1 jE];exact a3 _ jE) (b2 _ jE),by unfold fu;omega⟩
    ·exact ka _ _ _ _ fun e=>⟨(hm e).1,Qb ((hm e).2.1 _ jE) ((hm e).2.2 _ jE),by unfold fu;omega⟩
   split
   ·rename_i hw;obtain⟨h1,h2,s1⟩:=word _ jC hw;split
    ·have hm:=((Made.nil r.inc cF).pre (nL r)).post (j6 _ (⟨#[59]⟩:UX));exact ka _ _ _ _ fun e=>⟨(hm e).1,uv jB jH jH jH,by unfold fu;omega⟩
    ·have hm:=((sr h1 (St.kv s1 ht)).pre (nL r)).post (j6 _ (⟨#[59]⟩:UX));exact ka _ _ _ _ fun e=>⟨(hm e).1,wv jB ((hm e).2 _ jE),by unfold fu;omega⟩
   ·exact PQ h ht he _
def Ui(h:r.Inv)(ht:lu r.l):Made r (oi r).1 [(oi r).2] (fun k=>k=18):=(I9 _).1 r h ht jB
-- functions
structure rq(f:aV):Prop where
 ps:∀p∈f.params,1<=p.ty/\p.ty<=4
 ret:0<=f.ret/\f.ret<=4
def Mh(w:UX):0<=tZ w/\tZ w<=4:=by
 unfold tZ;repeat' split
 all_goals omega
def EZ(r:Rd):Still r (iB r).1:=by
 unfold iB;split
 ·exact zT r jC
 ·exact nL r
def Ej(he:(iB r).1.e=0):1<=(iB r).2/\(iB r).2<=4:=by
 unfold iB at he ⊢;split
 ·rename_i h;rw[if_pos h]at he;exact(Rd.gQ jC he).elim
 ·have:=Mh r.word;simp only;omega
theorem Fk:∀(n:Nat) (b:Bool) (r:Rd) (L:List bp),Still r (k9 n b r L).1/\((k9 n b r L).1.e=0->(∀p∈L,1<=p.ty/\p.ty<=4)->∀p∈(k9 n b r L).2,1<=p.ty/\p.ty<=4)
 |0,_,r,L=>by unfold k9;exact⟨.refl r,fun _ h=>h⟩
 |n+1,false,r,L=>by unfold k9;exact⟨.refl r,fun _ h=>h⟩
 |n+1,true,r,L=>by
  have st:Still r (pr r):=(vo r).trans (EZ _);have hL:(pr r).e=0->(∀p∈L,1<=p.ty/\p.ty<=4)->∀p∈L++[⟨r.name.2,(iB r.name.1).2⟩],1<=p.ty/\p.ty<=4:=fun e h p hp=>by
   rcases List.mem_append.1 hp with hp|hp
   ·exact h p hp
   ·rw[List.mem_singleton.1 hp];exact Ej e
  unfold k9;split
  ·obtain⟨a,b⟩:=Fk n true (pr r).inc (L++[⟨r.name.2,(iB r.name.1).2⟩]);exact⟨st.trans ((nL _).trans a),fun e h=>b e (hL (a.err e) h)⟩
  ·exact⟨st,hL⟩
def Lg(h:r.Inv)(ht:lu r.l):Made r (mA r).1 [(mA r).2.body] (fun k=>k=18)/\((mA r).1.e=0->rq (mA r).2):=by
 have h1:=(qK h).1.inv h;have h2:=(As h).inv h1;obtain⟨a,b⟩:=Fk ((l5 r).rem+2) (more (l5 r)) (l5 r) [];have stA:Still r (l5 r):=((j6 r (⟨#[102,110]⟩:UX)).trans (vo _)).trans (j6 _ _);have xU:Still r (lI r):=(stA.trans a).trans (j6 _ _);have stD:Still (lI r) (lT r).1:=by
  unfold lT;split
  ·exact .refl _
  ·exact EZ _
 have hb:=Ui h2 (by rw[(xU.trans stD).l];exact ht);refine⟨hb.pre (xU.trans stD),fun e=>?_⟩;have e2:(lT r).1.e=0:=qi (Bi h2) e;have e1:(lI r).e=0:=stD.err e2;have e0:(tj r).1.e=0:=(j6 _ _).err e1;refine⟨b e0 (fun p hp=>by simp at hp),?_⟩;show 0<=(lT r).2/\(lT r).2<=4;unfold lT at e2 ⊢;split
 ·simp
 ·rename_i hc;rw[if_neg hc]at e2;have:=Ej e2;omega
theorem Ez:∀(n:Nat) (r0 r:Rd) (L:List aV),r.Inv->lu r.l->Made r0 r (L.map (·.body)) (fun k=>k=18)->(r.e=0->∀f∈L,rq f)->
  Made r0 (ot n r L).1 ((ot n r L).2.map (·.body)) (fun k=>k=18)/\((ot n r L).1.e=0->∀f∈(ot n r L).2,rq f)
 |0,r0,r,L,h,ht,hm,hf=>by unfold ot;exact⟨hm,hf⟩
 |n+1,r0,r,L,h,ht,hm,hf=>by
  unfold ot;split
  ·have s1:=(FU h).1;obtain⟨a,b⟩:=Lg h ht;refine Ez n r0 _ _ (s1.inv h) (St.kv s1 ht) ?_ fun e f ZR=>?_
   ·rw[List.map_append];exact hm.both a (qi s1)
   ·rcases List.mem_append.1 ZR with h'|h'
    ·exact hf (qi s1 e) f h'
    ·rw[List.mem_singleton.1 h'];exact b e
  ·exact⟨hm,hf⟩
structure aM(t:aB):Prop where
 chain:aI t.nodes 0 (t.ak.map (·.body)) t.nodes.length
 shape:∀k,k<t.nodes.length->Shape t.nodes (nth t.nodes k)/\(∀a∈(nth t.nodes k).l,0<=a/\a.toNat<k)/\∃lo,aI t.nodes lo (nth t.nodes k).l k
 body:∀f∈t.ak,bT t.nodes f.body=18
 fn:∀f∈t.ak,rq f/\f.params.length<=3
 many:t.nodes.length<=300
 ak:t.ak.length<=6
variable{s:UX}
def KK{a:Nat}(h:(oT s a).2.2=0):(oT s a).1.size<=12:=by
 unfold oT at h ⊢;simp only at h ⊢;split at h<;>rename_i h1
 ·rw[if_pos h1];split at h<;>rename_i h2
  ·cases h
  ·rw[if_neg h2];simp only[ByteArray.size_extract];omega
 ·cases h
def UG{a:Nat}(h:(gP s a).2.2=0)(hk:(gP s a).1.kind=2):(gP s a).1.text.size<=12:=by
 unfold gP at h hk ⊢;split at h<;>rename_i h1
 ·rw[if_pos h1]at hk ⊢;split at h<;>rename_i h2
  ·rw[if_pos h2]at hk;cases hk
  ·cases h
 rw[if_neg h1]at hk ⊢;split at h<;>rename_i h2
 ·rw[if_pos h2]at hk ⊢;split at h<;>rename_i h3
  ·rw[if_pos h3]at hk;cases hk
  ·rw[if_neg h3]at hk ⊢;split at h<;>rename_i h4
   ·cases h
   ·rw[if_neg h4]at hk;cases hk
 rw[if_neg h2]at hk ⊢;split at h<;>rename_i h3
 ·rw[if_pos h3]at hk ⊢;exact KK h
 ·rw[if_neg h3]at hk;split at h<;>rename_i h4
  ·cases h
  ·rw[if_neg h4]at hk;cases hk
theorem J3(s:UX):∀(n i:Nat) (out:List cd),(kP s n i out).2.2=0->(∀t∈out,t.kind=2->t.text.size<=12)->∀t∈(kP s n i out).1,t.kind=2->t.text.size<=12
 |0,i,out,he,ho=>by unfold kP;exact ho
 |n+1,i,out,he,ho=>by
  unfold kP at he ⊢;split at he<;>rename_i hi
  ·rw[if_pos hi];split at he<;>rename_i h3
   ·rw[if_pos h3];refine J3 s n _ _ he fun t ht=>?_
    rcases List.mem_append.1 ht with ht|ht
    ·exact ho t ht
    ·rw[List.mem_singleton.1 ht];exact UG h3
   ·exact(h3 he).elim
  ·rw[if_neg hi];intro t ht;rcases List.mem_append.1 ht with ht|ht
   ·exact ho t ht
   ·rw[List.mem_singleton.1 ht];intro h;cases h
def Lr(he:(ko s).2.2=0):lu (nN s).l:=by
 have:∀t∈(ko s).1,t.kind=2->t.text.size<=12:=by
  unfold ko at he ⊢;split at he<;>rename_i h
  ·cases he
  ·rw[if_neg h];exact J3 s _ _ _ he (fun t ht=>by simp at ht)
 intro k hk;exact this _ (cV hk)
def tp(h:(gu s).2.2=0):aM (gu s).1:=by
 unfold gu at h ⊢;split at h<;>rename_i h1
 ·exact(h1 h).elim
 rw[if_neg h1];split at h<;>rename_i h2
 ·exact(h2 h).elim
 rw[if_neg h2];split at h<;>rename_i h3
 ·cases h
 rw[if_neg h3];have he:(ko s).2.2=0:=jB;have hf:(oj s).1.e=0:=jB;obtain⟨a,b⟩:=Ez ((nN s).rem+1) (nN s) (nN s) [] (Ht he) (Lr he) (Made.nil _ _) (fun _ f hf=>by simp at hf);obtain⟨a1,a2⟩:=a hf;simp only[ua,Bool.or_eq_true,decide_eq_true_eq,not_or,List.any_eq_true,not_exists,not_and]at h3;refine⟨a1.chain,fun k hk=>a1.shape k (Nat.zero_le _) hk,fun f hf=>a2 _ (List.mem_map.2 ⟨f,hf,rfl⟩),fun f hff=>⟨b hf f hff,by have:=h3.2 f hff;omega⟩,by show(oj s).1.nodes.length<=300;omega,by show(oj s).2.length<=6;omega⟩
structure Ck where
 aa:aB
 types:List Int
 slots:List Int
 ak:List Int
 aJ:List Int
 fn:Int
 vars:List ba
 more:List ba
 size:Int
 e:Int
 at_:Int
 deriving Inhabited
def jx{α:Type}(f:α->UX)(name:UX):List α->Int->Int
 |[],_=>-1
 |v::l,i=>if f v=name then i else jx f name l (i+1)
def jT{α:Type}(f:α->UX)(name:UX):List α->Int->Int->Int
 |[],_,k=>k
 |v::l,i,k=>jT f name l (i+1) (if f v=name then i else k)
def my(sign:UX)(a b:Int):Int:=
 if a≠b then 0
 else if sign=(⟨#[124,124]⟩:UX)\/sign=(⟨#[38,38]⟩:UX)then(if a=2 then 2 else 0)
 else if sign=(⟨#[60]⟩:UX)\/sign=(⟨#[60,61]⟩:UX)then(if a=1 then 2 else 0)
 else if sign=(⟨#[61,61]⟩:UX)\/sign=(⟨#[33,61]⟩:UX)then(if a=1\/a=2\/a=3 then 2 else 0)
 else if sign=(⟨#[43]⟩:UX)then(if a=1\/a=3 then a else 0)
 else(if a=1 then 1 else 0)
namespace Ck
def node(c:Ck)(a:Int):bk:=nth c.aa.nodes a.toNat
def aC(c:Ck)(a:Int)(i:Nat):Int:=nth (c.node a).l i
def aA(c:Ck)(e a:Int):Ck:=if c.e=0 then{ c with e:=e,at_:=a }else c
def ao(c:Ck)(ok:Bool)(a:Int):Ck:=if ok=true then c else c.aA 42 a
def find(c:Ck)(name:UX):Int:=jx ba.name name c.vars 0
def slot(c:Ck)(a s:Int):Ck:={ c with slots:=c.slots.set a.toNat s }
def named(c:Ck)(a:Int):Ck×Int:=
 if c.find (c.node a).name<0 then(c.aA 40 a,0)
 else(c.slot a (nth c.vars (c.find (c.node a).name).toNat).slot,(nth c.vars (c.find (c.node a).name).toNat).ty)
def note(c:Ck)(a t:Int):Ck:={ c with types:=c.types.set a.toNat t,ak:=c.ak.set a.toNat c.fn }
def af(c:Ck)(a:Int):Ck:={ c with ak:=c.ak.set a.toNat c.fn }
end Ck
def gK(ex:Ck->Int->Ck×Int):Ck->UU->UU->Ck×UU
 |c,[],ts=>(c,ts)
 |c,a::l,ts=>if c.e=0 then gK ex (ex c a).1 l (ts++[(ex c a).2])else(c,ts)
def iO(a:Int):Ck->UU->List bp->Ck
 |c,t::ts,p::ps=>if c.e=0 then iO a (c.ao (decide (t=p.ty)) a) ts ps else c
 |c,_,_=>c
def fL(c:Ck)(a:Int):Int:=jT aV.name (c.node a).name c.aa.ak 0 (-1)
def jr(ex:Ck->Int->Ck×Int)(c:Ck)(a:Int):Ck×Int:=
 if fL c a<0 then(c.aA 40 a,0)
 else
  let f:=nth c.aa.ak (fL c a).toNat
  let p:=gK ex c (c.node a).l []
  let c1:=if(c.node a).l.length≠f.params.length then p.1.aA 43 a else p.1
  (iO a c1 p.2 f.params,f.ret)
def cf(ex:Ck->Int->Ck×Int)(c:Ck)(a:Int):Ck×Int:=
 let k:=(c.node a).kind
 if k=1\/k=19 then(c,1)
 else if k=2 then(c,2)
 else if k=3 then(c,3)
 else if k=4 then c.named a
 else if k=21 then jr ex c a
 else if k=5 then
  let p:=c.named a
  let x:=ex p.1 (c.aC a 0)
  (x.1.ao (decide (p.2=4) && decide (x.2=1)) a,1)
 else if k=9 then
  let x:=ex c (c.aC a 0)
  let y:=ex x.1 (c.aC a 1)
  let t:=my (c.node a).name x.2 y.2
  (y.1.ao (!decide (t=0)) a,t)
 else
  let x:=ex c (c.aC a 0)
  if k=6 then(x.1.ao (decide (x.2=3) || decide (x.2=4)) a,1)
  else if k=7 then(x.1.ao (decide (x.2=1)) a,1)
  else if k=8 then(x.1.ao (decide (x.2=2)) a,2)
  else(x.1.ao (decide (x.2=1)) a,4)
def ay:Nat->Ck->Int->Ck×Int
 |0,c,_=>(c,0)
 |n+1,c,a=>if c.e≠0 then(c,0)else((cf (ay n) c a).1.note a (cf (ay n) c a).2,(cf (ay n) c a).2)
def oz(ex:Ck->Int->Ck×Int)(c:Ck)(a:Int):Ck:=
 let x:=ex c (c.aC a 0)
 let c1:=x.1.ao (!decide (x.2=0)) a
 let c2:=if 0<=c1.find (c.node a).name then c1.aA 41 a else c1
 let c3:=if 24<=c2.size then c2.aA 4 a else c2
 { (c3.slot a c3.size)with vars:=c3.vars++[⟨(c.node a).name,x.2,c3.size⟩],more:=c3.more.drop 1,size:=c3.size+1 }
def j5(ex:Ck->Int->Ck×Int)(c:Ck)(a:Int):Ck:=
 let ret:=(nth c.aa.ak c.fn.toNat).ret
 let l:=(c.node a).l
 if decide (l.length=1)≠(!decide (ret=0))then c.aA 43 a
 else if l.length=1 then
  let x:=ex c (c.aC a 0)
  x.1.ao (decide (x.2=ret)) a
 else c
def dh(st:Ck->Int->Ck):Ck->UU->Ck
 |c,[]=>c
 |c,a::l=>if c.e=0 then dh st (st c a) l else c
def eH(st:Ck->Int->Ck)(c:Ck)(a:Int):Ck:=
 let c1:=dh st (c.af a) (c.node a).l
 { c1 with vars:=c1.vars.take (min c.vars.length c1.vars.length),more:=c1.vars.drop (min c.vars.length c1.vars.length)++c1.more }
def bF:Nat->Ck->Int->Ck
 |0,c,_=>c
 |n+1,c0,a=>
  let c:=c0.af a
  let k:=(c.node a).kind
  if k=10 then oz (ay n) c a
  else if k=11 then
   let p:=c.named a
   let x:=ay n p.1 (c.aC a 0)
   x.1.ao (decide (p.2=x.2)) a
  else if k=12 then
   let p:=c.named a
   let x:=ay n p.1 (c.aC a 0)
   let y:=ay n x.1 (c.aC a 1)
   y.1.ao (decide (p.2=4) && decide (x.2=1) && decide (y.2=1)) a
  else if k=13 then(ay n c (c.aC a 0)).1
  else if k=14 then
   let x:=ay n c (c.aC a 0)
   x.1.ao (!decide (x.2=4)) a
  else if k=17 then j5 (ay n) c a
  else
   let x:=ay n c (c.aC a 0)
   dh (eH (bF n)) (x.1.ao (decide (x.2=2)) a) ((c.node a).l.drop 1)
def eD(body:Int):Ck->List bp->Int->Ck
 |c,[],_=>c
 |c,p::ps,i=>
  let c1:=if 0<=c.find p.name then c.aA 41 body else c
  eD body { c1 with vars:=c1.vars++[⟨p.name,p.ty,i⟩],more:=c1.more.drop 1,size:=c1.size+1 } ps (i+1)
def gf(c:Ck)(k:Nat):Ck:=
 let f:=nth c.aa.ak k
 let c1:=eD f.body { c with fn:=k,vars:=[],more:=[],size:=0 } f.params 0
 let c2:=if c1.e=0 then eH (bF c.aa.nodes.length) c1 f.body else c1
 { c2 with aJ:=c2.aJ++[c2.size],vars:=[],more:=[] }
def kY(x:aV):Ck->List aV->Ck
 |c,[]=>c
 |c,f::l=>kY x (if f.name=x.name then c.aA 41 x.body else c) l
def ws(f:aV):Bool:=decide (f.name=(⟨#[109,97,105,110]⟩:UX)) && decide ((f.params.length:Int)=0) && decide (f.ret=0)
def j9(ak:List aV):Ck->Bool->Nat->Nat->Ck×Bool
 |c,m,_,0=>(c,m)
 |c,m,i,n+1=>j9 ak (kY (nth ak i) c (ak.take i)) (m || ws (nth ak i)) (i+1) n
def iV(c:Ck):Ck:=
 let p:=j9 c.aa.ak c false 0 c.aa.ak.length
 if p.2=true then p.1 else p.1.aA 44 0
def fS:Ck->Nat->Nat->Ck
 |c,_,0=>c
 |c,i,n+1=>if c.e=0 then fS (gf c i) (i+1) n else c
def jM(t:aB):Ck:=⟨t,t.nodes.map fun _=>0,t.nodes.map fun _=>-1,t.nodes.map fun _=>0,[],0,[],[],0,0,0⟩
def ik(t:aB):Ck:=fS (iV (jM t)) 0 t.ak.length
def lE:ah:=⟨⟨[],[]⟩,[],[],[],[]⟩
def Ck.prog(c:Ck):ah:=⟨c.aa,c.types,c.slots,c.ak,c.aJ⟩
def gm(t:aB):ah×Int×Int:=if(ik t).e≠0 then(lE,(ik t).at_,(ik t).e)else((ik t).prog,0,0)
def fI(s:UX):ah×Int×Int:=
 if(gu s).2.2≠0 then(lE,(gu s).2.1,(gu s).2.2)
 else
  let q:=gm (gu s).1
  if q.2.2=44 then(lE,0,44)
  else if q.2.2≠0 then(lE,(nth (gu s).1.nodes q.2.1.toNat).bA,q.2.2)
  else(q.1,0,0)
def dq(slots:List aj)(k t:Int):aj:=
 if k<0\/(slots.length:Int)<=k then vZ t
 else if lS (nth slots k.toNat)=true/\(nth slots k.toNat).ty=t then nth slots k.toNat else vZ t
end Go.Gd
namespace Go.Proofs.YtjpcgmjaipfgdaaGreatDoor
open Go Go.Gd Tryz
abbrev rI(n:Int):AV:=.raw (.int .i64 n)
abbrev rU(n:Int):AV:=.raw (.int .u8 n)
abbrev rS(s:UX):AV:=.raw (.string s)
abbrev rB(b:Bool):AV:=.raw (.bool b)
def xu(n:Int):aL prog 184 [rU n] (rB (km n)):=by
 refine dG func184 ntmps184 ?_
 (repeat' (first|refine au fun K hK=>?_|refine aq ?_|(refine hK _ _ ?_;clear hK K)|(refine ar ?_ ?_<;>intro hc<;>try exact jz)|refine av ?_|exact jI|(clear hK K)))
 (refine bL [.tmp 2] ?_ ?_<;>(try simp only[go_sem]))
 rfl
def B4(n:Int):aL prog 186 [rU n] (rB (yv n)):=by
 refine dG func186 ntmps186 ?_
 (repeat' (first|refine au fun K hK=>?_|refine aq ?_|(refine hK _ _ ?_;clear hK K)|(refine ar ?_ ?_<;>intro hc<;>try exact jz)|refine av ?_|exact jI|(clear hK K)))
 (refine bL [.tmp 2] ?_ ?_<;>(try simp only[go_sem]))
 rfl
def OF(s:UX):aL prog 185 [rS s] (rB (yb s)):=by
 refine dG func185 ntmps185 ?_
 (repeat' (first|refine au fun K hK=>?_|refine aq ?_|(refine hK _ _ ?_;clear hK K)|(refine ar ?_ ?_<;>intro hc<;>try exact jz)|refine av ?_|exact jI|(clear hK K)))
 (refine bL [.tmp 2] ?_ ?_<;>(try simp only[go_sem]))
 rfl
def O4(s:UX)(at_:Int)(hs:s.size<=1000000):aL prog 190 [rS s,rI at_] (rI (pS s (min s.size at_.toNat))):=by
 refine dG func190 ntmps190 ?_
 (repeat' (first|refine au fun K hK=>?_|refine aq ?_|(refine hK _ _ ?_;clear hK K)|(refine ar ?_ ?_<;>intro hc<;>try exact jz)|refine av ?_|exact jI|(clear hK K)))
 have U6:=hK;clear hK;refine dw (S:=Nat) [(5,19)] (fun k=>k<=s.size/\k<=at_.toNat) (fun k=>[(5,rI (pS s k)),(6,rI k)]) (fun _=>⟨[],[]⟩) (fun k=>s.size-k) 0 jB (dx rfl (by simp only[go_sem,kS,Nat.reduceAdd,AV.raw.injEq,Value.int.injEq,Value.slice.injEq,Value.pointer.injEq,AV.rs.injEq,pS];try omega)) ?_;rintro k ⟨Vs,Va⟩ Kr U8;have hb:=CT s k;refine S ?_
 (repeat' (first|refine au fun K hK=>?_|refine aq ?_|(refine hK _ _ ?_;clear hK K)|(refine ar ?_ ?_<;>intro hc<;>try exact jz)|refine U6 _ _ ?_|refine av ?_|exact jI|(clear hK K)))
 ·refine U8 _ _ (dO (k+1) jB jJ rfl (by simp only[pS,if_pos hc];exact bS))
 ·refine U8 _ _ (dO (k+1) jB jJ rfl (by simp only[pS,if_neg hc];exact bS))
 ·(refine bL [.tmp 4] ?_ ?_<;>(try simp only[go_sem]))
  rw[show min s.size at_.toNat=k from jB]
def Uu{s:UX}(h:∀j,j<fX.length->nth fX j≠s):vY s=false:=by unfold vY;rw[List.any_eq_false];intro x hm;obtain⟨j,hj,rfl⟩:=List.getElem_of_mem hm;have:=h j hj;rw[ee hj]at this;simp[this]
def Sy{s:UX}{k:Nat}(hk:k<fX.length)(h:nth fX k=s):vY s=true:=by unfold vY;rw[List.any_eq_true];exact⟨fX[k],List.getElem_mem hk,by rw[ee hk]at h;simp[h]⟩
def MP(s:UX):aL prog 187 [rS s] (rB (vY s)):=by
 refine dG func187 ntmps187 ?_
 (repeat' (first|refine au fun K hK=>?_|refine aq ?_|(refine hK _ _ ?_;clear hK K)|(refine ar ?_ ?_<;>intro hc<;>try exact jz)|refine av ?_|exact jI|(clear hK K)))
 have U6:=hK;clear hK;refine dw (S:=Nat) [(2,1),(4,1),(6,12)] (fun k=>k<=16/\∀j,j<k->nth fX j≠s) (fun k=>[(3,.sl true 1 (fX.map eS) []),(4,rI k)]) (fun _=>⟨[],[]⟩) (fun k=>16-k) 0 ⟨jB,fun j h=>jB⟩ (dx rfl (by(repeat' (first|exact jI|exact Or.inr rfl|exact Or.inl rfl|refine jA ?_ ?_)))) ?_;rintro k ⟨Vs,Va⟩ Kr U8;have hl:=LU;refine S ?_
 (repeat' (first|refine au fun K hK=>?_|refine aq ?_|(refine hK _ _ ?_;clear hK K)|(refine ar ?_ ?_<;>intro hc<;>try exact jz)|refine U6 _ _ ?_|refine av ?_|exact jI|(clear hK K)))
 ·(refine bL [.tmp 2] ?_ ?_<;>(try simp only[go_sem]))
  rw[Sy jB hc]
 ·refine U8 _ _ (dO (k+1) ⟨jB,fun j hj=>?_⟩ jJ rfl bS);by_cases e:j=k
  ·subst e;exact hc
  ·exact Va j jB
 ·(refine bL [.tmp 2] ?_ ?_<;>(try simp only[go_sem]))
  rw[Uu fun j hj=>Va j jB]
def Jc(s:UX)(i:Nat)(hs:s.size<=1000000)(hi:i<=s.size):aL prog 142 [rS s,rI i] (rI (oY s i:Nat)):=by
 refine dG func142 ntmps142 ?_
 (repeat' (first|refine au fun K hK=>?_|refine aq ?_|(refine hK _ _ ?_;clear hK K)|(refine ar ?_ ?_<;>intro hc<;>try exact jz)|refine av ?_|exact jI|(clear hK K)))
 have U6:=hK;clear hK;refine dw (S:=Nat) [(1,1),(4,54)] (fun k=>k<=s.size/\oY s k=oY s i) (fun k=>[(1,rI k)]) (fun _=>⟨[],[]⟩) (fun k=>s.size-k) i ⟨hi,rfl⟩ (dx rfl bS) ?_;rintro k ⟨Vs,Va⟩ Kr U8;refine S ?_
 (repeat' (first|refine au fun K hK=>?_|refine aq ?_|(refine hK _ _ ?_;clear hK K)|(refine ar ?_ ?_<;>intro hc<;>try exact jz)|refine U6 _ _ ?_|refine av ?_|exact jI|(clear hK K)))
 ·have O':mL s k=some (k+1):=by
   unfold mL;rw[jP,if_pos];simp[zJ];omega
  refine U8 _ _ (dO (k+1) ⟨jB,by rw[<-Va,GO O']⟩ jJ rfl bS)
 ·have O':mL s k=some (gJ tc s k):=by
   unfold mL;rw[jP,if_neg (by simp[zJ];omega),if_pos];simp[z6];exact⟨⟨hc.1.1,jB⟩,hc.2⟩
  have I':=yO O';have hKi:=hK;clear hK;refine dw (S:=Nat) [(1,1),(45,12)] (fun m=>k<=m/\m<=s.size/\∀j,k<=j->j<m->tc (dY s j)=true) (fun m=>[(1,rI m)]) (fun _=>⟨[],[]⟩) (fun m=>s.size-m) k ⟨jB,jB,fun j h1 h2=>jB⟩ (dx rfl bS) ?_;rintro m ⟨Xq,WR,Wg⟩ Kj hKj;refine S ?_
  (repeat' (first|refine au fun K hK=>?_|refine aq ?_|(refine hK _ _ ?_;clear hK K)|(refine ar ?_ ?_<;>intro hc<;>try exact jz)|refine hKi _ _ ?_|refine av ?_|exact jI|(clear hK K)))
  ·refine hKj _ _ (dO (m+1) ⟨jB,jB,fun j h1 h2=>?_⟩ jJ rfl bS);by_cases e:j=m
   ·subst e;simp only[tc,decide_eq_true_eq];exact hc.2
   ·exact Wg j h1 jB
  ·have e:gJ tc s k=m:=zY (by simp only[tc,decide_eq_true_eq];omega) Xq WR Wg;rw[e]at O' I';refine U8 _ _ (dO m ⟨jB,by rw[<-Va,GO O']⟩ jJ rfl bS)
 ·(refine bL [.tmp 4] ?_ ?_<;>(try simp only[go_sem]))
  rw[<-Va,HF];unfold mL;rw[jP,if_neg (by simp[zJ];omega),if_neg];simp[z6];omega
 ·(refine bL [.tmp 4] ?_ ?_<;>(try simp only[go_sem]))
  rw[<-Va,HF];unfold mL;rw[jN]
def Oq(s:UX)(a:Nat)(hs:s.size<=1000000)(ha:a<s.size):aL prog 188 [rS s,rI a] (.aY [rS (oT s a).1,rI (oT s a).2.1,rI (oT s a).2.2]):=by
 refine dG func188 ntmps188 ?_
 (repeat' (first|refine au fun K hK=>?_|refine aq ?_|(refine hK _ _ ?_;clear hK K)|(refine ar ?_ ?_<;>intro hc<;>try exact jz)|refine av ?_|exact jI|(clear hK K)))
 have U6:=hK;clear hK;refine dw (S:=Nat) [(7,1),(10,24)] (fun m=>a+1<=m/\m<=s.size/\∀j,a+1<=j->j<m->uY (dY s j)=true) (fun m=>[(7,rI m)]) (fun _=>⟨[],[]⟩) (fun m=>s.size-m) (a+1) ⟨jB,jB,fun j h1 h2=>jB⟩ (dx rfl bS) ?_;rintro m ⟨Xq,WR,Wg⟩ Kr U8;refine S ?_
 (repeat' (first|refine au fun K hK=>?_|refine aq ?_|(refine hK _ _ ?_;clear hK K)|(refine ar ?_ ?_<;>intro hc<;>try exact jz)|refine U6 _ _ ?_|refine av ?_|exact jI|(clear hK K)))
 ·refine U8 _ _ (dO (m+1) ⟨jB,jB,fun j h1 h2=>?_⟩ jJ rfl bS);by_cases e:j=m
  ·subst e;simp only[uY,Bool.and_eq_true,decide_eq_true_eq];exact⟨⟨hc.1.1.2,hc.1.2⟩,hc.2⟩
  ·exact Wg j h1 jB
 all_goals have e:gJ uY s (a+1)=m:=zY (by simp only[uY,Bool.and_eq_true,decide_eq_true_eq];omega) Xq WR Wg
 ·(refine bL [.tmp 4,.tmp 5,.tmp 6] ?_ ?_<;>(try simp only[go_sem]))
  simp only[oT,e];rw[jN]
 ·(refine bL [.tmp 4,.tmp 5,.tmp 6] ?_ ?_<;>(try simp only[go_sem]))
  simp only[oT,e];rw[jP,jP]
 ·(refine bL [.tmp 4,.tmp 5,.tmp 6] ?_ ?_<;>(try simp only[go_sem]))
  simp only[oT,e];rw[jP,jN]
def K9:jw.length=5:=rfl
def SR(s:UX)(hs:0<s.size)(hs2:s.size<=1000000):aL prog 189 [rS s] (rS (oC s)):=by
 refine dG func189 ntmps189 ?_
 (repeat' (first|refine au fun K hK=>?_|refine aq ?_|(refine hK _ _ ?_;clear hK K)|(refine ar ?_ ?_<;>intro hc<;>try exact jz)|refine av ?_|exact jI|(clear hK K)))
 have U6:=hK;clear hK;refine dw (S:=Nat) [(2,1),(4,1),(8,22)] (fun k=>k<=5/\∀j,j<k->qY s (nth jw j)=false) (fun k=>[(3,.sl true 1 (jw.map eS) []),(4,rI k)]) (fun _=>⟨[],[]⟩) (fun k=>5-k) 0 ⟨jB,fun j h=>jB⟩ (dx rfl (by(repeat' (first|exact jI|exact Or.inr rfl|exact Or.inl rfl|refine jA ?_ ?_)))) ?_;rintro k ⟨Vs,Va⟩ Kr U8;have hl:=K9;refine S ?_
 (repeat' (first|refine au fun K hK=>?_|refine aq ?_|(with_reducible refine gR 5 ?_);refine dE 5 (bf 0 12) mixed ?_|(refine hK _ _ ?_;clear hK K)|(refine ar ?_ ?_<;>intro hc<;>try exact jz)|refine U6 _ _ ?_|refine av ?_|exact jI|(clear hK K)))
 ·(refine bL [.tmp 2] ?_ ?_<;>(try simp only[go_sem]))
  have:jw.find? (qY s)=some (nth jw k):=y7 Va jB (by simp only[qY,Bool.and_eq_true,decide_eq_true_eq];exact hc);simp only[oC,this]
 ·refine U8 _ _ (dO (k+1) ⟨jB,fun j hj=>?_⟩ jJ rfl bS);by_cases e:j=k
  ·subst e;simp only[qY,Bool.and_eq_false_iff,decide_eq_false_iff_not,Int.not_le];exact hc
  ·exact Va j jB
 ·have h2:jw.find? (qY s)=none:=Bt fun j hj=>Va j jB
  have U6:=hK;clear hK;have hos:iG.size=16:=rfl;refine dw (S:=Nat) [(2,1),(6,1),(30,17)] (fun k=>k<=16/\∀j,j<k->decide (dY s 0=dY iG (nth (List.range 16) j:Nat))=false) (fun k=>[(5,rS iG),(6,rI k)]) (fun _=>⟨[],[]⟩) (fun k=>16-k) 0 ⟨jB,fun j h=>jB⟩ (dx rfl (by(repeat' (first|exact jI|exact Or.inr rfl|exact Or.inl rfl|refine jA ?_ ?_)))) ?_;rintro m ⟨Xq,WR⟩ Kj hKj;refine S ?_
  (repeat' (first|refine au fun K hK=>?_|refine aq ?_|(with_reducible refine gR 11 ?_);refine dE 11 (bf 0 6) mixed ?_|(refine hK _ _ ?_;clear hK K)|(refine ar ?_ ?_<;>intro hc<;>try exact jz)|refine U6 _ _ ?_|refine av ?_|exact jI|(clear hK K)))
  ·(refine bL [.tmp 2] ?_ ?_<;>(try simp only[go_sem]))
   have h3:(List.range 16).find? (fun k:Nat=>decide (dY s 0=dY iG (k:Nat)))=some (nth (List.range 16) m):=y7 WR jF (by rw[BS jB];simpa using hc);simp only[oC,h2,h3];rw[BS jB]
  ·refine hKj _ _ (dO (m+1) ⟨jB,fun j hj=>?_⟩ jJ rfl bS);by_cases e:j=m
   ·subst e;rw[BS jB];simpa using hc
   ·exact WR j jB
  ·(refine bL [.tmp 2] ?_ ?_<;>(try simp only[go_sem]))
   have h3:(List.range 16).find? (fun k:Nat=>decide (dY s 0=dY iG (k:Nat)))=none:=Bt fun j hj=>WR j (by simp at hj;omega)
   simp only[oC,h2,h3]
def qU(t:cd×Int×Int):AV:=.aY [.agg (mO t.1),rI t.2.1,rI t.2.2]
def Mq(s:UX)(a:Nat)(hs:s.size<=1000000)(ha:a<s.size):aL prog 143 [rS s,rI a] (qU (gP s a)):=by
 have hex:(s.extract a s.size).size=s.size-a:=by rw[ByteArray.size_extract];omega
 have Vb:=KN (s.extract a s.size);refine dG func143 ntmps143 ?_
 (repeat' (first|refine au fun K hK=>?_|refine aq ?_|(refine hK _ _ ?_;clear hK K)|(refine ar ?_ ?_<;>intro hc<;>try exact jz)|refine cp (xu _) ?_|refine cp (B4 _) ?_|refine cp (Oq s a hs ha) ?_|refine cp (SR _ jB jB) ?_|refine av ?_|exact jI|(clear hK K)))
 ·have U6:=hK;clear hK;refine dw (S:=Nat) [(8,1),(20,12)] (fun m=>a<=m/\m<=s.size/\∀j,a<=j->j<m->km (dY s j)=true) (fun m=>[(8,rI m)]) (fun _=>⟨[],[(0,.var 248 (mO wm))]⟩) (fun m=>s.size-m) a ⟨jB,jB,fun j h1 h2=>jB⟩ (dx rfl bS) ?_;rintro m ⟨Xq,WR,Wg⟩ Kr U8;refine S ?_
  (repeat' (first|refine au fun K hK=>?_|refine aq ?_|(refine hK _ _ ?_;clear hK K)|(refine ar ?_ ?_<;>intro hc<;>try exact jz)|(first|refine cg (xu _) ?_|refine pP (xu _) ?_)|refine U6 _ _ ?_|refine av ?_|exact jI|(clear hK K)))
  ·refine U8 _ _ (dO (m+1) ⟨jB,jB,fun j h1 h2=>?_⟩ jJ rfl bS);by_cases e:j=m
   ·subst e;exact hc.2
   ·exact Wg j h1 jB
  ·have hd:km (dY s a)=true:=by assumption
   have e:gJ km s a=m:=zY (by rintro⟨h1,h2⟩;rcases hc with h|h;omega;rw[h2]at h;cases h) Xq WR Wg
   (repeat' (first|refine au fun K hK=>?_|refine aq ?_|(refine hK _ _ ?_;clear hK K)|(refine ar ?_ ?_<;>intro hc<;>try exact jz)|refine cp (OF _) ?_|refine av ?_|exact jI|(clear hK K)))
   ·(refine bu [.cell 4 248,.tmp 5,.tmp 6] ?_;try simp only[go_sem])
    simp only[gP,hd,if_true,e,if_neg,hc,Bool.false_eq_true,if_false,qU,wm];rfl
   ·(refine bu [.cell 4 248,.tmp 5,.tmp 6] ?_;try simp only[go_sem])
    simp only[gP,hd,if_true,e,hc,qU];rfl
 ·have U6:=hK;clear hK;have Xe:km (dY s a)=false:=by assumption
  have Vj:yv (dY s a)=true:=by assumption
  refine dw (S:=Nat) [(8,1),(49,24)] (fun m=>a<=m/\m<=s.size/\∀j,a<=j->j<m->lL (dY s j)=true) (fun m=>[(8,rI m)]) (fun _=>⟨[],[(0,.var 248 (mO wm))]⟩) (fun m=>s.size-m) a ⟨jB,jB,fun j h1 h2=>jB⟩ (dx rfl bS) ?_;rintro m ⟨Xq,WR,Wg⟩ Kr U8;have hexm:(s.extract a m).size=m-a:=by rw[ByteArray.size_extract];omega
  refine S ?_
  (repeat' (first|refine au fun K hK=>?_|refine aq ?_|(refine hK _ _ ?_;clear hK K)|(refine ar ?_ ?_<;>intro hc<;>try exact jz)|(first|refine cg (xu _) ?_|refine pP (xu _) ?_)|(first|refine cg (B4 _) ?_|refine pP (B4 _) ?_)|refine cp (MP _) ?_|refine U6 _ _ ?_|refine av ?_|exact jI|(clear hK K)))
  ·refine U8 _ _ (dO (m+1) ⟨jB,jB,fun j h1 h2=>?_⟩ jJ rfl bS);by_cases e:j=m
   ·subst e;simp only[lL,Bool.or_eq_true,decide_eq_true_eq];exact hc.2
   ·exact Wg j h1 jB
  all_goals
   have Yk:(s.size:Int)<=m\/(yv (dY s m)=false/\km (dY s m)=false)/\¬dY s m=95:=by assumption
   have e:gJ lL s a=m:=zY (by
    simp only[lL,Bool.or_eq_true,decide_eq_true_eq];rintro⟨h1,h2⟩;rcases Yk with h|⟨⟨h3,h4⟩,h5⟩
    ·omega
    ·rcases h2 with(h|h)|h
     ·rw[h]at h3;exact Bool.noConfusion h3
     ·rw[h]at h4;exact Bool.noConfusion h4
     ·exact h5 h) Xq WR Wg
  ·(refine bu [.cell 4 248,.tmp 5,.tmp 6] ?_;try simp only[go_sem])
   simp only[gP,Xe,Vj,e,hc,Bool.false_eq_true,if_false,if_true,qU];rfl
  ·(refine bu [.cell 4 248,.tmp 5,.tmp 6] ?_;try simp only[go_sem])
   simp only[gP,Xe,Vj,e, *,Bool.false_eq_true,if_false,if_true,qU];rw[jP];rfl
  ·(refine bu [.cell 4 248,.tmp 5,.tmp 6] ?_;try simp only[go_sem])
   simp only[gP,Xe,Vj,e, *,Bool.false_eq_true,if_false,if_true,qU];rw[jN];rfl
 ·(refine bu [.cell 4 248,.tmp 5,.tmp 6] ?_;try simp only[go_sem])
  simp only[gP, *,Bool.false_eq_true,if_false,if_true,qU];rfl
 ·(refine bu [.cell 4 248,.tmp 5,.tmp 6] ?_;try simp only[go_sem])
  simp only[gP, *,Bool.false_eq_true,if_false,if_true,qU];rfl
 ·(refine bu [.cell 4 248,.tmp 5,.tmp 6] ?_;try simp only[go_sem])
  simp only[gP, *,Bool.false_eq_true,if_false,qU];rfl
attribute [go_sem] qU
def GF(s:UX)(hs:s.size<=1000000):aL prog 101 [rS s] (.aY [aO mO 3 (ko s).1,rI (ko s).2.1,rI (ko s).2.2]):=by
 refine dG func101 ntmps101 ?_
 (repeat' (first|refine au fun K hK=>?_|refine aq ?_|(refine hK _ _ ?_;clear hK K)|(refine ar ?_ ?_<;>intro hc<;>try exact jz)|refine cp (Jc s 0 hs (Nat.zero_le _)) ?_|refine av ?_|exact jI|(clear hK K)))
 ·refine iM [.tmp 2,.tmp 3,.tmp 4] ?_;simp only[ko,if_pos hc];refine cn.aY ?_;exact ie
 ·have U6:=hK;clear hK;have h0:=wc (s:=s) (i:=0) (Nat.zero_le _);refine dw (S:=Nat×List cd) [(2,8),(16,22)] (fun p=>p.1<=s.size/\p.2.length<=p.1/\wo s p.1 p.2=ko s) (fun p=>[(5,.rs 0 p.2.length 3 p.2.length),(6,rI p.1)]) (fun p=>⟨[],[(0,.aD 248 3 (p.2.map mO))]⟩) (fun p=>s.size-p.1) (oY s 0,[]) ⟨h0.2,Nat.zero_le _,by simp only[ko];rw[jN]⟩ (dx rfl bS) ?_;rintro⟨k,ts⟩ ⟨Vs,Va,Xo⟩ Kr U8;simp only at Vs Va Xo
  (refine S ?_;try exact jI)
  by_cases hk:k<s.size
  ·have Vg:=At (s:=s) (a:=k) hk
   (repeat' (first|refine au fun K hK=>?_|refine aq ?_|(refine hK _ _ ?_;clear hK K)|(refine ar ?_ ?_<;>intro hc<;>try exact jz)|refine cp (Mq s k hs hk) ?_|refine av ?_|exact jI|(clear hK K)))
   ·refine iM [.tmp 2,.tmp 3,.tmp 4] ?_;rw[<-Xo,Qe hk (by assumption)];refine cn.aY ?_;exact ie
   ·obtain⟨e,X6,ZQ,he3⟩:=Vg hc;have h4:=wc he3;rw[X6]
    (repeat' (first|refine au fun K hK=>?_|refine aq ?_|(refine hK _ _ ?_;clear hK K)|(refine ar ?_ ?_<;>intro hc<;>try exact jz)|refine cp (Jc s e hs he3) ?_|refine av ?_|exact jI|(clear hK K)))
    refine U8 _ _ (lc [1] (oY s e,ts++[(gP s k).1]) ⟨h4.2,by simp;omega,by rw[<-Xo,NT hk hc,X6];simp⟩ jJ rfl Sd Sd ie)
  ·(repeat' (first|refine au fun K hK=>?_|refine aq ?_|(refine hK _ _ ?_;clear hK K)|(refine ar ?_ ?_<;>intro hc<;>try exact jz)|refine U6 _ _ ?_|refine av ?_|exact jI|(clear hK K)))
   refine iM [.tmp 2,.tmp 3,.tmp 4] ?_;rw[<-Xo,Pp hk];simp only[go_sem];refine cn.aY ?_;refine jA ?_ (jA (.same _ rfl) (jA (.same _ rfl) trivial));refine dn.row (enc:=mO) (e:=248) (ts++[⟨0,⟨#[]⟩,s.size⟩]) ?_ ?_ ?_
   ·rfl
   ·(refine S ?_;try exact jI)
    rfl
   ·(refine S ?_;try exact jI)
def iz(r:Rd):US:=[rS r.src,aO mO 3 r.l,rI r.i,.rs 1 r.nodes.length 5 r.nodes.length,rI r.deep,rI r.e,rI r.at_]
def cv(r:Rd):UR:=[(0,.var 177 (iz r)),(1,.aD 116 5 (r.nodes.map eF))]
attribute [go_sem] cv iz
abbrev pR:AV:=.pt 0 0 0 0
structure pq(r:Rd):Prop where
 src:r.src.size<=1000
 pos:0<=r.i
 lt:r.i<r.l.length
 len:r.l.length<=2000
 pH:-1000<=r.deep
 qn:r.deep<=1000
 nodes:r.nodes.length<=100000
def bw{r:Rd}(h:r.Inv):pq r:=by have hp:=h.dK;unfold Rd.dK at hp;have:=h.lt;have:=h.pH;have:=h.qn;exact⟨h.src,h.pos,h.lt,h.len,jB,jB,by split at hp<;>omega⟩
def uC(r:Rd)(e:Int)(h:pq r):ab prog 191 [pR,rI e] (cv r) (fun v l=>v=.aY []/\l=cv (r.aA e)):=by
 obtain⟨h1,h2,h3,h4,h5,h6,h7⟩:=h;refine aK func191 ntmps191 ?_;simp only[cv,iz]
 (repeat' (first|refine au fun K hK=>?_|refine aq ?_|(with_reducible refine gR 2 ?_);refine dE 2 (bf 0 15) mixed ?_|(refine hK _ _ ?_;clear hK K)|(refine ar ?_ ?_<;>intro hc<;>try exact jz)|refine av ?_|exact jI|(clear hK K)))
 ·(refine bL [] ?_ ?_<;>(try simp only[go_sem]))
  simp only[Rd.aA,if_pos hc];rfl
 ·(refine bL [] ?_ ?_<;>(try simp only[go_sem]))
  simp only[Rd.aA,if_neg hc]
def gI(r:Rd)(t:UX)(h:pq r):ab prog 147 [pR,rS t] (cv r) (fun v l=>v=rB (r.is t)/\l=cv r):=by
 obtain⟨h1,h2,h3,h4,h5,h6,h7⟩:=h;refine aK func147 ntmps147 ?_;simp only[cv,iz]
 (repeat' (first|refine au fun K hK=>?_|refine aq ?_|(with_reducible refine gR 1 ?_);refine dE 1 (bf 0 12) mixed ?_|(refine hK _ _ ?_;clear hK K)|(refine ar ?_ ?_<;>intro hc<;>try exact jz)|refine av ?_|exact jI|(clear hK K)))
 (refine bu [.tmp 4] ?_;try simp only[go_sem])
 rfl
def xP(r:Rd)(k:Int)(h:pq r):ab prog 102 [pR,rI k] (cv r) (fun v l=>v=rB (r.kind k)/\l=cv r):=by
 obtain⟨h1,h2,h3,h4,h5,h6,h7⟩:=h;refine aK func102 ntmps102 ?_;simp only[cv,iz]
 (repeat' (first|refine au fun K hK=>?_|refine aq ?_|(with_reducible refine gR 1 ?_);refine dE 1 (bf 0 21) mixed ?_|(refine hK _ _ ?_;clear hK K)|(refine ar ?_ ?_<;>intro hc<;>try exact jz)|refine av ?_|exact jI|(clear hK K)))
 (refine bu [.tmp 4] ?_;try simp only[go_sem])
 rfl
def iX(r:Rd)(t:UX)(h:pq r):ab prog 145 [pR,rS t] (cv r) (fun v l=>v=.aY []/\l=cv (r.ao t)):=by
 have XI:=gI r t h;have hf:=uC r 20 h;obtain⟨h1,h2,h3,h4,h5,h6,h7⟩:=h;simp only[cv,iz]at XI hf;refine aK func145 ntmps145 ?_;simp only[cv,iz]
 (repeat' (first|refine au fun K hK=>?_|refine aq ?_|(refine hK _ _ ?_;clear hK K)|(refine ar ?_ ?_<;>intro hc<;>try exact jz)|refine cm (XI) ?_|refine cm (hf) ?_|refine av ?_|exact jI|(clear hK K)))
 ·(refine bL [] ?_ ?_<;>(try simp only[go_sem]))
  simp only[Rd.ao,hc,Bool.false_eq_true,if_false,go_sem]
 ·(refine bL [] ?_ ?_<;>(try simp only[go_sem]))
  simp only[Rd.ao,hc,if_true];rfl
def wu(r:Rd)(h:pq r):ab prog 146 [pR] (cv r) (fun v l=>v=rS r.name.2/\l=cv r.name.1):=by
 have XI:=xP r 3 h;have hf:=uC r 20 h;obtain⟨h1,h2,h3,h4,h5,h6,h7⟩:=h;simp only[cv,iz]at XI hf;refine aK func146 ntmps146 ?_;simp only[cv,iz]
 (repeat' (first|refine au fun K hK=>?_|refine aq ?_|(with_reducible refine gR 6 ?_);refine dE 6 (bf 0 13) mixed ?_|(refine hK _ _ ?_;clear hK K)|(refine ar ?_ ?_<;>intro hc<;>try exact jz)|refine cm (XI) ?_|refine cm (hf) ?_|refine av ?_|exact jI|(clear hK K)))
 ·(refine bL [.tmp 2] ?_ ?_<;>(try simp only[go_sem]))
  ·simp only[Rd.name,hc,Bool.false_eq_true,if_false]
  ·simp only[Rd.name,hc,Bool.false_eq_true,if_false,go_sem]
 ·(refine bL [.tmp 2] ?_ ?_<;>(try simp only[go_sem]))
  ·simp only[Rd.name,hc,if_true];rw[show r.i+1-1=r.i from jB];rfl
  ·simp only[Rd.name,hc,if_true];rfl
def iv(r:Rd)(h:pq r):ab prog 144 [pR] (cv r) (fun v l=>v=rI r.bA/\l=cv r):=by
 obtain⟨h1,h2,h3,h4,h5,h6,h7⟩:=h;refine aK func144 ntmps144 ?_;simp only[cv,iz]
 (repeat' (first|refine au fun K hK=>?_|refine aq ?_|(with_reducible refine gR 1 ?_);refine dE 1 (bf 0 17) mixed ?_|(refine hK _ _ ?_;clear hK K)|(refine ar ?_ ?_<;>intro hc<;>try exact jz)|refine cp (O4 _ _ jB) ?_|refine av ?_|exact jI|(clear hK K)))
 (refine bL [.tmp 2] ?_ ?_<;>(try simp only[go_sem]))
 rfl
def ye(r:Rd)(k ln n:Int)(nm:UX)(L:UU)(h:pq r):ab prog 196 [pR,rI k,rI ln,rI n,rS nm,aO eI 1 L] (cv r) (fun v l=>v=rI (r.put k ln n nm L).2/\l=cv (r.put k ln n nm L).1):=by
 obtain⟨h1,h2,h3,h4,h5,h6,h7⟩:=h;refine aK func196 ntmps196 ?_;simp only[cv,iz]
 (repeat' (first|refine au fun K hK=>?_|refine aq ?_|(refine hK _ _ ?_;clear hK K)|(refine ar ?_ ?_<;>intro hc<;>try exact jz)|refine av ?_|exact jI|(clear hK K)))
 (refine bL [.tmp 12] ?_ ?_<;>(try simp only[go_sem]))
 ·simp only[Rd.put];exact Mo jB
 ·simp only[Rd.put,Rd.node,List.map_append,List.length_append,List.length_cons,List.length_nil];rfl
def uJ(r:Rd)(h:pq r):ab prog 194 [pR] (cv r) (fun v l=>v=.aY []/\l=cv r.down):=by
 have hf:=uC r 21 h;obtain⟨h1,h2,h3,h4,h5,h6,h7⟩:=h;simp only[cv,iz]at hf;refine aK func194 ntmps194 ?_;simp only[cv,iz]
 (repeat' (first|refine au fun K hK=>?_|refine aq ?_|(refine hK _ _ ?_;clear hK K)|(refine ar ?_ ?_<;>intro hc<;>try exact jz)|refine cm (hf) ?_|refine av ?_|exact jI|(clear hK K)))
 ·(refine bL [] ?_ ?_<;>(try simp only[go_sem]))
  simp only[Rd.down,if_pos hc,go_sem]
 ·(refine bL [] ?_ ?_<;>(try simp only[go_sem]))
  simp only[Rd.down];rw[jN]
def rP(r:Rd)(h:pq r):ab prog 192 [pR] (cv r) (fun v l=>v=rS r.word/\l=cv r):=by
 have XI:=xP r 4 h;obtain⟨h1,h2,h3,h4,h5,h6,h7⟩:=h;simp only[cv,iz]at XI;refine aK func192 ntmps192 ?_;simp only[cv,iz]
 (repeat' (first|refine au fun K hK=>?_|refine aq ?_|(with_reducible refine gR 3 ?_);refine dE 3 (bf 0 12) mixed ?_|(refine hK _ _ ?_;clear hK K)|(refine ar ?_ ?_<;>intro hc<;>try exact jz)|refine cm (XI) ?_|refine av ?_|exact jI|(clear hK K)))
 ·(refine bL [.tmp 2] ?_ ?_<;>(try simp only[go_sem]))
  simp only[Rd.word,hc,if_true];rfl
 ·(refine bL [.tmp 2] ?_ ?_<;>(try simp only[go_sem]))
  simp only[Rd.word,hc,Bool.false_eq_true,if_false]
def O5(r:Rd)(h:pq r)(hn:r.kind 3=true->r.i+1<r.l.length):ab prog 254 [pR] (cv r) (fun v l=>v=rB r.calls/\l=cv r):=by
 have XI:=xP r 3 h;obtain⟨h1,h2,h3,h4,h5,h6,h7⟩:=h;simp only[cv,iz]at XI;refine aK func254 ntmps254 ?_;simp only[cv,iz]
 (repeat' (first|refine au fun K hK=>?_|refine aq ?_|(with_reducible refine gR 2 ?_);refine dE 2 (bf 0 32) mixed ?_|(refine hK _ _ ?_;clear hK K)|(refine ar ?_ ?_<;>intro hc<;>try exact jz)|refine cm (XI) ?_|refine av ?_|exact jI|(clear hK K)))
 refine⟨fun h=>⟨h,jB,hn h⟩,fun h=>⟨h,jB,hn (by simp only[Bool.and_eq_true]at h;exact h.1)⟩,?_⟩
 (repeat' (first|refine au fun K hK=>?_|refine aq ?_|(refine hK _ _ ?_;clear hK K)|(refine ar ?_ ?_<;>intro hc<;>try exact jz)|refine av ?_|exact jI|(clear hK K)))
 (refine bu [.tmp 2] ?_;try simp only[go_sem])
 rfl
def Tz(lv:Int):aL prog 277 [rI lv] (aO eS 1 (nK lv)):=by
 refine dG func277 ntmps277 ?_
 (repeat' (first|refine au fun K hK=>?_|refine aq ?_|(refine hK _ _ ?_;clear hK K)|(refine ar ?_ ?_<;>intro hc<;>try exact jz)|refine av ?_|exact jI|(clear hK K)))
 all_goals refine iM [.tmp 2] ?_
 all_goals simp only[nK, *,if_true,if_false,Int.reduceEq,if_pos,if_neg,not_false_eq_true]
 all_goals exact .lit _ _ _ _ _
def LV(lv:Int):(nK lv).length<=4/\∀s∈nK lv,s≠⟨#[]⟩:=by
 unfold nK;split
 ·decide
 ·split
  ·decide
  ·split
   ·decide
   ·split<;>decide
def E4(r:Rd)(lv:Int)(h:pq r):ab prog 270 [pR,rI lv] (cv r) (fun v l=>v=rS (r.next lv)/\l=cv r):=by
 have XI:=fun t=>gI r t h
 have hl:=LV lv;obtain⟨h1,h2,h3,h4,h5,h6,h7⟩:=h;simp only[cv,iz]at XI;refine aK func270 ntmps270 ?_;simp only[cv,iz]
 (repeat' (first|refine au fun K hK=>?_|refine aq ?_|(refine hK _ _ ?_;clear hK K)|(refine ar ?_ ?_<;>intro hc<;>try exact jz)|refine cp (Tz lv) ?_|refine av ?_|exact jI|(clear hK K)))
 have U6:=hK;clear hK;refine dw (S:=Nat) [(4,1),(6,2),(10,17)] (fun k=>k<=(nK lv).length/\∀j,j<k->r.is (nth (nK lv) j)=false) (fun k=>[(6,rI k)]) (fun _=>⟨[0,1],cv r⟩) (fun k=>(nK lv).length-k) 0 ⟨jB,fun j h=>jB⟩ (dx rfl bS) ?_;rintro k ⟨Vs,Va⟩ Kr U8;simp only[cv,iz];refine S ?_
 (repeat' (first|refine au fun K hK=>?_|refine aq ?_|(refine hK _ _ ?_;clear hK K)|(refine ar ?_ ?_<;>intro hc<;>try exact jz)|refine cm (XI _) ?_|refine U6 _ _ ?_|refine av ?_|exact jI|(clear hK K)))
 ·(refine bL [.tmp 4] ?_ ?_<;>(try simp only[go_sem]))
  have:(nK lv).find? (fun s=>r.is s)=some (nth (nK lv) k):=y7 Va jB hc;simp only[Rd.next,this]
 ·refine U8 _ _ (dO (k+1) ⟨jB,fun j hj=>?_⟩ jJ rfl bS);by_cases e:j=k
  ·subst e;exact hc
  ·exact Va j jB
 ·(refine bL [.tmp 4] ?_ ?_<;>(try simp only[go_sem]))
  have:(nK lv).find? (fun s=>r.is s)=none:=Bt fun j hj=>Va j jB
  simp only[Rd.next,this]
def O2{P:U3}{f:FuncId}{args args':US}{l:UR}{R:AV->List U5->Prop}(hl:qb args args')(h:ab P f args' l R):ab P f args l R:=fun w vs h1 h2=>by
 obtain⟨J',hg⟩:=hl.get;refine h w vs h1 ⟨J'.symm.trans h2.1,fun i a v ha hv=>?_⟩;have hi:i<args.length:=by rw[J'];exact(List.getElem?_eq_some_iff.1 ha).1
 exact hg i args[i] a (List.getElem?_eq_getElem hi) ha w v (h2.2 i _ v (List.getElem?_eq_getElem hi) hv)
def lp(r:Rd)(k ln n:Int)(nm:UX)(L:UU)(a:AV)(ha:gW a (aO eI 1 L))(h:pq r):ab prog 196 [pR,rI k,rI ln,rI n,rS nm,a] (cv r) (fun v l=>v=rI (r.put k ln n nm L).2/\l=cv (r.put k ln n nm L).1):=
 O2 (args':=[pR,rI k,rI ln,rI n,rS nm,aO eI 1 L]) ⟨gW.refl _,gW.refl _,gW.refl _,gW.refl _,gW.refl _,ha,trivial⟩ (ye r k ln n nm L h)
def Cv(n:Nat):Prop:=∀r:Rd,r.Inv->8*r.rem+1<=n->ab prog 276 [pR] (cv r) (fun v l=>v=rI (po n r).2/\l=cv (po n r).1)
def AH(n:Nat):Prop:=∀r:Rd,r.Inv->8*r.rem+2<=n->ab prog 269 [pR] (cv r) (fun v l=>v=rI (ig n r).2/\l=cv (ig n r).1)
def yK(n:Nat):Prop:=∀(lv:Nat) (r:Rd),lv<=5->r.Inv->8*r.rem+8-lv<=n->ab prog 256 [pR,rI lv] (cv r) (fun v l=>v=rI (dF n lv r).2/\l=cv (dF n lv r).1)
def N0(n:Nat)(ha:Cv n)(hf:AH n):AH (n+1):=by
 intro r h hn;have sg:∀t,r.is t=true->r.e=0/\r.down.Inv/\r.down.inc.Inv/\r.down.inc.rem+1<=r.rem:=fun t ht=>by
  obtain⟨he,hk⟩:=Rd.aT ht;obtain⟨h1,h2,h3,h4,_⟩:=Rd.bH h he;have Xb:r.down.tok=r.tok:=by unfold Rd.tok;rw[h3,h4]
  obtain⟨s1,e1⟩:=Rd.bq h1 (by rw[Xb];exact hk);have:=s1.inv h1;have hb:=Rd.behind h1 (by rw[Xb];exact hk);refine⟨he,h1,this,?_⟩;unfold Rd.rem;rw[if_pos he];have:r.down.inc.i=r.i+1:=by show r.down.i+1=_;rw[h3]
  have hl:r.down.inc.l=r.l:=h4;rw[this,hl];rw[h3,h4]at hb;split<;>omega
 by_cases hm:r.is (⟨#[45]⟩:UX)=true
 ·obtain⟨he,h1,h2,h3⟩:=sg _ hm;have s2:=(sI n).2.1 _ h2;have h4:=s2.inv h2;have h5:(ig n r.down.inc).1.up.Inv:=(Rd.fw h he ((Rd.bq h1 (by obtain⟨_,_,h3,h4,_⟩:=Rd.bH h he;unfold Rd.tok;rw[h3,h4];exact(Rd.aT hm).2)).1.trans s2)).inv h;have hd1:=h2.pH;have hd2:=h2.qn;have Xm:=h1.lt;have Zm:=h1.len;have hi3:=h1.pos;have hd3:=h4.pH;have hd4:=h4.qn;rw[ig,if_pos hm];refine aK func269 ntmps269 ?_;refine S ?_
  (have W:=hm;repeat' (first|refine au fun K hK=>?_|refine aq ?_|(refine hK _ _ ?_;clear hK K)|(refine ar ?_ ?_<;>intro hc<;>try exact jz)|refine cm (iv r (bw h)) ?_|refine cm (gI r _ (bw h)) ?_|refine cm (uJ r (bw h)) ?_|refine cm (hf r.down.inc h2 jB) ?_|refine cm (lp (ig n r.down.inc).1.up _ _ _ _ [(ig n r.down.inc).2] _ gW.sl (bw h5)) ?_|refine av ?_|exact jI|(clear hK K)))
  (refine bL [.tmp 2] ?_ ?_<;>(try simp only[go_sem]))
 ·have hmf:r.is (⟨#[45]⟩:UX)=false:=by simpa using hm
  by_cases hq:r.is (⟨#[33]⟩:UX)=true
  ·obtain⟨he,h1,h2,h3⟩:=sg _ hq;have s2:=(sI n).2.1 _ h2;have h4:=s2.inv h2;have h5:(ig n r.down.inc).1.up.Inv:=(Rd.fw h he ((Rd.bq h1 (by obtain⟨_,_,h3,h4,_⟩:=Rd.bH h he;unfold Rd.tok;rw[h3,h4];exact(Rd.aT hq).2)).1.trans s2)).inv h;have hd1:=h2.pH;have hd2:=h2.qn;have Xm:=h1.lt;have Zm:=h1.len;have hi3:=h1.pos;have hd3:=h4.pH;have hd4:=h4.qn;rw[ig,if_neg hm,if_pos hq];refine aK func269 ntmps269 ?_;refine S ?_
   (have W:=jA hmf hq;repeat' (first|refine au fun K hK=>?_|refine aq ?_|(refine hK _ _ ?_;clear hK K)|(refine ar ?_ ?_<;>intro hc<;>try exact jz)|refine cm (iv r (bw h)) ?_|refine cm (gI r _ (bw h)) ?_|refine cm (uJ r (bw h)) ?_|refine cm (hf r.down.inc h2 jB) ?_|refine cm (lp (ig n r.down.inc).1.up _ _ _ _ [(ig n r.down.inc).2] _ gW.sl (bw h5)) ?_|refine av ?_|exact jI|(clear hK K)))
   (refine bL [.tmp 2] ?_ ?_<;>(try simp only[go_sem]))
  ·have hqf:r.is (⟨#[33]⟩:UX)=false:=by simpa using hq
   rw[ig,if_neg hm,if_neg hq];refine aK func269 ntmps269 ?_;refine S ?_
   (have W:=jA hmf hqf;repeat' (first|refine au fun K hK=>?_|refine aq ?_|(refine hK _ _ ?_;clear hK K)|(refine ar ?_ ?_<;>intro hc<;>try exact jz)|refine cm (iv r (bw h)) ?_|refine cm (gI r _ (bw h)) ?_|refine cm (ha r h jB) ?_|refine av ?_|exact jI|(clear hK K)))
   (refine bL [.tmp 2] ?_ ?_<;>(try simp only[go_sem]))
def PX(n:Nat)(hf:AH n)(Yk:∀m,m<=n->yK m):yK (n+1):=by
 intro lv r hlv h hn;have T':∀(m:Nat) (q:Rd),m<=n->lv+1<=5->q.Inv->8*q.rem+7-lv<=m->ab prog 256 [pR,rI ((lv:Int)+1)] (cv q) (fun v l=>v=rI (dF m (lv+1) q).2/\l=cv (dF m (lv+1) q).1):=fun m q hm hl hq hr=>by have:=Yk m hm (lv+1) q hl hq jB;rw[show((lv+1:Nat):Int)=(lv:Int)+1 from jB]at this;exact this
 by_cases h5:lv=5
 ·subst h5;rw[dF,if_pos rfl];refine aK func256 ntmps256 ?_;refine S ?_
  (repeat' (first|refine au fun K hK=>?_|refine aq ?_|(refine hK _ _ ?_;clear hK K)|(refine ar ?_ ?_<;>intro hc<;>try exact jz)|refine cm (hf r h jB) ?_|refine av ?_|exact jI|(clear hK K)))
  (refine bL [.tmp 4] ?_ ?_<;>(try simp only[go_sem]))
 ·rw[dF,if_neg h5];have s1:=(sI n).2.2.1 (lv+1) r h;have h1:=s1.inv h;have W8:=s1.rem;refine aK func256 ntmps256 ?_;refine S ?_
  (repeat' (first|refine au fun K hK=>?_|refine aq ?_|(refine hK _ _ ?_;clear hK K)|(refine ar ?_ ?_<;>intro hc<;>try exact jz)|refine cm (iv r (bw h)) ?_|refine cm (T' n r jl jB h jB) ?_|refine av ?_|exact jI|(clear hK K)))
  refine dw (S:=Nat×Rd×Int) [(4,1),(6,3),(19,27)] (fun s=>s.2.1.Inv/\8*s.2.1.rem+7-lv<=s.1/\s.1<=n/\ny s.1 lv r.bA s.2=ny n lv r.bA (dF n (lv+1) r)) (fun s=>[(6,rI s.2.2)]) (fun s=>⟨[0,1],cv s.2.1⟩) (fun s=>s.1) (n,dF n (lv+1) r) ⟨h1,jJ,Nat.le_refl _,rfl⟩ (dx rfl bS) ?_;rintro⟨m,q,x⟩ ⟨hq,Xq,WR,Wg⟩ Kr U8;simp only at hq Xq WR Wg;rw[<-Wg];obtain⟨m,rfl⟩:∃k,m=k+1:=⟨m-1,jB⟩;have hql:=hq.lt;have hqp:=hq.pos;have hqn:=hq.len;by_cases hx:q.next lv=⟨#[]⟩
  ·rw[ny,if_pos hx];refine S ?_
   (have W:=hx;repeat' (first|refine au fun K hK=>?_|refine aq ?_|(refine hK _ _ ?_;clear hK K)|(refine ar ?_ ?_<;>intro hc<;>try exact jz)|refine cm (E4 q lv (bw hq)) ?_|refine av ?_|exact jI|(clear hK K)))
   (refine bL [.tmp 4] ?_ ?_<;>(try simp only[go_sem]))
  ·have hk:=Rd.aT (Rd.lV hx);obtain⟨t1,e1⟩:=Rd.bq hq hk.2;have hi:=t1.inv hq;have hri:=Rd.cW hq hk;have t2:=(sI m).2.2.1 (lv+1) _ hi;have hj:=t2.inv hi;have hrj:=t2.rem;have t3:=fun L=>Rd.cR (t1.trans t2) (by have:=t2.dK;omega) 9 r.bA 0 (q.next lv) L
   rw[ny,if_neg hx];refine S ?_
   (have W:=hx;repeat' (first|refine au fun K hK=>?_|refine aq ?_|(refine hK _ _ ?_;clear hK K)|(refine ar ?_ ?_<;>intro hc<;>try exact jz)|refine cm (E4 q lv (bw hq)) ?_|refine cm (T' m q.inc jB jB hi jB) ?_|refine cm (lp (dF m (lv+1) q.inc).1 _ _ _ _ [x,(dF m (lv+1) q.inc).2] _ gW.sl (bw hj)) ?_|refine av ?_|exact jI|(clear hK K)))
   ·have h2:lv=2:=jB
    (refine bL [.tmp 4] ?_ ?_<;>(try simp only[go_sem]))
    ·simp only[if_pos h2]
    ·simp only[if_pos h2]
   ·have h2:¬lv=2:=jB;refine U8 _ _ (dO (m,(dF m (lv+1) q.inc).1.put 9 r.bA 0 (q.next lv) [x,(dF m (lv+1) q.inc).2]) ⟨(t3 _).inv hq,?_,jJ,?_⟩ jJ rfl bS)
    ·have h6:∀L,((dF m (lv+1) q.inc).1.put 9 r.bA 0 (q.next lv) L).1.rem=(dF m (lv+1) q.inc).1.rem:=fun L=>rfl
     simp only[h6];omega
    ·rw[<-Wg,ny,if_neg hx,if_neg h2]
end Go.Proofs.YtjpcgmjaipfgdaaGreatDoor