/- Lemmas. No conditions. -/
import Derived.Test.YtfkgcobaheegbaaGreatDoorLxT
set_option linter.all false
namespace Go.Gd
open Go
theorem my{α:Type}[Inhabited α]{a b:List α}{i:Nat}(h:i<a.length):nth (a++b) i=nth a i:=by simp[nth,List.getD_eq_getElem?_getD,List.getElem?_append_left h]
theorem nM{α:Type}[Inhabited α](a:List α)(x:α):nth (a++[x]) a.length=x:=by simp[nth,List.getD_eq_getElem?_getD]
def bt(t:List bk)(i:Int):Int:=(nth t i.toNat).kind
def bQ(k:Int):Prop:=1<=k/\k<=9
def dW(k:Int):Prop:=bQ k\/k=19\/k=20\/k=21
def dL(k:Int):Prop:=10<=k/\k<=17
def tI:List ByteArray:=[(⟨#[124,124]⟩:ByteArray),(⟨#[38,38]⟩:ByteArray),(⟨#[60]⟩:ByteArray),(⟨#[60,61]⟩:ByteArray),(⟨#[61,61]⟩:ByteArray),(⟨#[33,61]⟩:ByteArray),(⟨#[43]⟩:ByteArray),(⟨#[45]⟩:ByteArray),(⟨#[42]⟩:ByteArray),(⟨#[47]⟩:ByteArray),(⟨#[37]⟩:ByteArray)]
structure Shape(t:List bk)(n:bk):Prop where
 any:1<=n.kind/\n.kind<=21
 zero:n.kind=1\/n.kind=2\/n.kind=3\/n.kind=4\/n.kind=19->n.l=[]
 one:n.kind=5\/n.kind=6\/n.kind=7\/n.kind=8\/n.kind=14\/n.kind=20->∃a,n.l=[a]/\bQ (bt t a)
 two:n.kind=9\/n.kind=12->∃a b,n.l=[a,b]/\bQ (bt t a)/\bQ (bt t b)
 right:n.kind=10\/n.kind=11->∃a,n.l=[a]/\dW (bt t a)
 nL:n.kind=13->∃a,n.l=[a]/\bt t a=21
 kz:n.kind=15->∃a b,bQ (bt t a)/\bt t b=18/\(n.l=[a,b]\/∃d,n.l=[a,b,d]/\bt t d=18)
 dS:n.kind=16->∃a b,n.l=[a,b]/\bQ (bt t a)/\bt t b=18
 ret:n.kind=17->n.l=[]\/∃a,n.l=[a]/\bQ (bt t a)
 block:n.kind=18->∀a∈n.l,dL (bt t a)
 call:n.kind=21->∀a∈n.l,bQ (bt t a)
 num:n.kind=1->∃s,qu s/\n.n=pj s
 bool:n.kind=2->n.n=0\/n.n=1
 text:n.kind=3->n.name.size<=12
 sign:n.kind=9->n.name∈tI
inductive aG(t:List bk):Nat->List Int->Nat->Prop
 |nil (k:Nat):aG t k [] k
 |cons {lo c hi:Nat} {L:List Int} (hc:c<t.length) (h1:aG t lo (nth t c).l c) (h2:aG t (c+1) L hi):aG t lo ((c:Int)::L) hi
variable{t:List bk}{lo hi:Nat}{L:List Int}
theorem aG.le(h:aG t lo L hi):lo<=hi:=by
 induction h with
 |nil=>exact Nat.le_refl _
 |cons _ _ _ i1 i2=>omega
theorem aG.mem(h:aG t lo L hi):∀a∈L,0<=a/\lo<=a.toNat/\a.toNat<hi/\a.toNat<t.length:=by
 induction h with
 |nil=>intro a ha;simp at ha
 |@cons lo c hi L hc h1 h2 i1 i2=>
  intro a ha;have l1:=h1.le;have l2:=h2.le;rcases List.mem_cons.1 ha with rfl|ha
  ·exact⟨jB,by simpa using l1,by simp;omega,by simpa using hc⟩
  ·have:=i2 a ha;omega
variable{u:List bk}
theorem aG.mono(h:aG t lo L hi):aG (t++u) lo L hi:=by
 induction h with
 |nil k=>exact .nil k
 |cons hc _ _ i1 i2=>exact .cons jF (by rw[my hc];exact i1) i2
variable{M:List Int}
theorem aG.append{eZ:Nat}(h:aG t lo L eZ):aG t eZ M hi->aG t lo (L++M) hi:=by
 induction h with
 |nil=>intro k;exact k
 |cons hc h1 _ _ i2=>intro k;exact .cons hc h1 (i2 k)
theorem aG.one{c:Nat}(hc:c<t.length)(h:aG t lo (nth t c).l c):aG t lo [(c:Int)] (c+1):=.cons hc h (.nil _)
theorem mF{a:Int}(h:a.toNat<t.length):bt (t++u) a=bt t a:=by unfold bt;rw[my h]
theorem Shape.mono{n:bk}(h:Shape t n)(hl:∀a∈n.l,a.toNat<t.length):Shape (t++u) n where
 any:=h.any
 zero:=h.zero
 one:=fun e=>by obtain⟨a,h1,h2⟩:=h.one e;exact⟨a,h1,by rw[mF (hl a (by rw[h1];simp))];exact h2⟩
 two:=fun e=>by obtain⟨a,b,h1,h2,h3⟩:=h.two e;exact⟨a,b,h1,by rw[mF (hl a (by rw[h1];simp))];exact h2,by rw[mF (hl b (by rw[h1];simp))];exact h3⟩
 right:=fun e=>by obtain⟨a,h1,h2⟩:=h.right e;exact⟨a,h1,by rw[mF (hl a (by rw[h1];simp))];exact h2⟩
 nL:=fun e=>by obtain⟨a,h1,h2⟩:=h.nL e;exact⟨a,h1,by rw[mF (hl a (by rw[h1];simp))];exact h2⟩
 kz:=fun e=>by
  obtain⟨a,b,h1,h2,h3⟩:=h.kz e;rcases h3 with h3|⟨d,h3,h4⟩
  ·exact⟨a,b,by rw[mF (hl a (by rw[h3];simp))];exact h1,by rw[mF (hl b (by rw[h3];simp))];exact h2,.inl h3⟩
  ·exact⟨a,b,by rw[mF (hl a (by rw[h3];simp))];exact h1,by rw[mF (hl b (by rw[h3];simp))];exact h2,.inr ⟨d,h3,by rw[mF (hl d (by rw[h3];simp))];exact h4⟩⟩
 dS:=fun e=>by obtain⟨a,b,h1,h2,h3⟩:=h.dS e;exact⟨a,b,h1,by rw[mF (hl a (by rw[h1];simp))];exact h2,by rw[mF (hl b (by rw[h1];simp))];exact h3⟩
 ret:=fun e=>by
  rcases h.ret e with h1|⟨a,h1,h2⟩
  ·exact .inl h1
  ·exact .inr ⟨a,h1,by rw[mF (hl a (by rw[h1];simp))];exact h2⟩
 block:=fun e a ha=>by rw[mF (hl a ha)];exact h.block e a ha
 call:=fun e a ha=>by rw[mF (hl a ha)];exact h.call e a ha
 num:=h.num
 bool:=h.bool
 text:=h.text
 sign:=h.sign
theorem aG.len(h:aG t lo L hi):L.length+lo<=hi:=by
 induction h with
 |nil=>simp
 |@cons lo c hi L hc h1 h2 i1 i2=> have:=h1.le;simp only[List.length_cons];omega
structure Mk(t t':List bk)(L:List Int):Prop where
 pre:∃u,t'=t++u
 chain:aG t' t.length L t'.length
 shape:∀k,t.length<=k->k<t'.length->Shape t' (nth t' k)/\(∀a∈(nth t' k).l,0<=a/\a.toNat<k)/\∃lo,aG t' lo (nth t' k).l k
theorem Mk.refl(t:List bk):Mk t t []:=⟨⟨[],jE⟩,.nil _,fun k h1 h2=>jB⟩
variable{a b:List bk}
theorem Mk.trans{c:List bk}(h:Mk a b L)(k:Mk b c M):Mk a c (L++M):=by
 obtain⟨⟨u,rfl⟩,h2,h3⟩:=h;obtain⟨⟨v,rfl⟩,k2,k3⟩:=k;refine⟨⟨u++v,jE⟩,h2.mono.append k2,fun i h4 h5=>?_⟩;by_cases hi:i<(a++u).length
 ·obtain⟨g1,g2,lo,g3⟩:=h3 i h4 hi;rw[my hi];exact⟨g1.mono fun x hx=>by have:=g2 x hx;omega,g2,lo,g3.mono⟩
 ·exact k3 i jB h5
theorem Mk.put(h:Mk a b L)(n:bk)(hn:n.l=L)(hs:Shape b n):Mk a (b++[n]) [(b.length:Int)]:=by
 obtain⟨⟨u,rfl⟩,h2,h3⟩:=h;have hm:∀x∈n.l,0<=x/\x.toNat<(a++u).length:=fun x hx=>by rw[hn]at hx;exact⟨(h2.mem x hx).1,(h2.mem x hx).2.2.1⟩
 refine⟨⟨u++[n],jE⟩,?_,fun i h4 h5=>?_⟩
 ·have e:((a++u)++[n]).length=(a++u).length+1:=by simp only[List.length_append,List.length_cons,List.length_nil]
  rw[e];refine aG.one jE ?_;rw[nM,hn];exact h2.mono
 ·by_cases hi:i<(a++u).length
  ·obtain⟨g1,g2,lo,g3⟩:=h3 i h4 hi;rw[my hi];exact⟨g1.mono fun x hx=>by have:=g2 x hx;omega,g2,lo,g3.mono⟩
  ·have:i=(a++u).length:=by simp at h5 hi ⊢;omega
   subst this;rw[nM];exact⟨hs.mono fun x hx=>(hm x hx).2,hm,a.length,by rw[hn];exact h2.mono⟩
theorem Mk.kind{c:List bk}(h:Mk a b L)(k:Mk b c M){x:Int}(hx:x∈L):bt c x=bt b x:=by obtain⟨⟨v,rfl⟩,_,_⟩:=k;exact mF (h.chain.mem x hx).2.2.2
theorem QT(t:List bk)(n:bk):bt (t++[n]) (t.length:Int)=n.kind:=by unfold bt;rw[Int.toNat_natCast,nM]
def kV(l:List ce):Prop:=∀k,k<l.length->(nth l k).kind=2->(nth l k).text.size<=12
def Made(r r':Rd)(L:List Int)(C:Int->Prop):Prop:=r'.e=0->Mk r.nodes r'.nodes L/\∀a∈L,C (bt r'.nodes a)
structure Still(r r':Rd):Prop where
 nodes:r'.nodes=r.nodes
 err:r'.e=0->r.e=0
 l:r'.l=r.l
theorem Still.refl(r:Rd):Still r r:=⟨rfl,id,rfl⟩
theorem Still.trans{a b c:Rd}(h:Still a b)(k:Still b c):Still a c:=⟨k.nodes.trans h.nodes,fun e=>h.err (k.err e),k.l.trans h.l⟩
theorem ym(r:Rd){e:Int}(he:e≠0):Still r (r.aF e):=⟨Rd.dG _ _,fun h=>(Rd.gA he h).elim,Rd.gz _ _⟩
theorem mS(r:Rd):Still r r.inc:=⟨rfl,id,rfl⟩
theorem xY(r:Rd):Still r r.up:=⟨rfl,id,rfl⟩
theorem ji(r:Rd)(t:ByteArray):Still r (r.ap t):=by
 unfold Rd.ap;split
 ·exact mS r
 ·exact ym r jC
theorem uG(r:Rd):Still r r.name.1:=by
 unfold Rd.name;split
 ·exact mS r
 ·exact ym r jC
theorem zb(r:Rd):Still r r.down:=by
 unfold Rd.down;split
 ·have:=ym r (e:=21) jC;exact⟨this.nodes,this.err,this.l⟩
 ·exact⟨rfl,id,rfl⟩
variable{r a b:Rd}{C:Int->Prop}
theorem Made.pre(s:Still r a)(h:Made a b L C):Made r b L C:=fun e=>by have:=h e;rwa [s.nodes]at this
theorem Made.post(h:Made r a L C)(s:Still a b):Made r b L C:=fun e=>by have:=h (s.err e);rwa [s.nodes]
theorem Made.nil(r:Rd)(C:Int->Prop):Made r r [] C:=fun _=>⟨Mk.refl _,fun a ha=>by simp at ha⟩
theorem Made.nj{D:Int->Prop}(h:Made r a L C)(hc:∀k,C k->D k):Made r a L D:=fun e=>⟨(h e).1,fun a ha=>hc _ ((h e).2 a ha)⟩
theorem Made.seq{c:Rd}{D:Int->Prop}(h:Made a b L C)(k:Made b c M D)(he:c.e=0->b.e=0):c.e=0->Mk a.nodes c.nodes (L++M)/\(∀x∈L,C (bt c.nodes x))/\∀x∈M,D (bt c.nodes x):=fun e=>by obtain⟨h1,h2⟩:=h (he e);obtain⟨k1,k2⟩:=k e;exact⟨h1.trans k1,fun x hx=>by rw[h1.kind k1 hx];exact h2 x hx,k2⟩
theorem Made.both{c:Rd}(h:Made a b L C)(k:Made b c M C)(he:c.e=0->b.e=0):Made a c (L++M) C:=fun e=>by obtain⟨h1,h2,h3⟩:=h.seq k he e;exact⟨h1,fun x hx=>(List.mem_append.1 hx).elim (h2 x) (h3 x)⟩
theorem jw(k ln n:Int)(nm:ByteArray)(h:a.e=0->Mk r.nodes a.nodes L/\Shape a.nodes ⟨k,ln,n,nm,L⟩/\C k):Made r (a.put k ln n nm L).1 [(a.put k ln n nm L).2] C:=fun e=>by obtain⟨h1,h2,h3⟩:=h e;refine⟨h1.put _ rfl h2,fun x hx=>?_⟩;rw[List.mem_singleton.1 hx];show C (bt (a.nodes++[_]) (a.nodes.length:Int));rw[QT];exact h3
variable{k ln n:Int}{nm:ByteArray}
theorem tF(hk:k=1\/k=2\/k=3\/k=4\/k=17\/k=19)(h1:k=1->∃s,qu s/\n=pj s)(h2:k=2->n=0\/n=1)(h3:k=3->nm.size<=12):Shape t ⟨k,ln,n,nm,[]⟩:=by constructor<;>(try simp only)<;>intros<;>first|(clear h1 h2 h3;omega)|(clear h1 h2 h3;exfalso;omega)|trivial|rfl|(exact .inl rfl)|(exact .inl trivial)|(refine h1 ?_;assumption)|(refine h2 ?_;assumption)|(refine h3 ?_;assumption)|fail
variable{a:Int}
theorem uq(hk:k=5\/k=6\/k=7\/k=8\/k=14\/k=17\/k=20)(h:bQ (bt t a)):Shape t ⟨k,ln,n,nm,[a]⟩:=by constructor<;>(try simp only)<;>intros<;>first|omega|omega|trivial|(exact⟨a,rfl,h⟩)|(exact .inr ⟨a,rfl,h⟩)
theorem HA(hk:k=10\/k=11)(h:dW (bt t a)):Shape t ⟨k,ln,n,nm,[a]⟩:=by constructor<;>(try simp only)<;>intros<;>first|omega|omega|trivial|(exact⟨a,rfl,h⟩)
theorem Km(h:bt t a=21):Shape t ⟨13,ln,n,nm,[a]⟩:=by constructor<;>(try simp only)<;>intros<;>first|omega|omega|trivial|(exact⟨a,rfl,h⟩)
variable{b:Int}
theorem C8(hk:k=12\/k=9/\nm∈tI)(h:bQ (bt t a))(h':bQ (bt t b)):Shape t ⟨k,ln,n,nm,[a,b]⟩:=by constructor<;>(try simp only)<;>intros<;>first|omega|omega|trivial|(exact⟨a,b,rfl,h,h'⟩)|(rcases hk with hk|hk;omega;exact hk.2)|fail
theorem Mp(h:bQ (bt t a))(h':bt t b=18):Shape t ⟨16,ln,n,nm,[a,b]⟩:=by constructor<;>(try simp only)<;>intros<;>first|omega|omega|trivial|(exact⟨a,b,rfl,h,h'⟩)
theorem NK(h:bQ (bt t a))(h':bt t b=18):Shape t ⟨15,ln,n,nm,[a,b]⟩:=by constructor<;>(try simp only)<;>intros<;>first|omega|omega|trivial|(exact⟨a,b,h,h',.inl rfl⟩)
theorem LZ{d:Int}(h:bQ (bt t a))(h':bt t b=18)(h'':bt t d=18):Shape t ⟨15,ln,n,nm,[a,b,d]⟩:=by constructor<;>(try simp only)<;>intros<;>first|omega|omega|trivial|(exact⟨a,b,h,h',.inr ⟨d,rfl,h''⟩⟩)
theorem NZ(h:∀a∈L,dL (bt t a)):Shape t ⟨18,ln,n,nm,L⟩:=by constructor<;>(try simp only)<;>intros<;>first|omega|omega|trivial|(refine h _ ?_;assumption)|fail
theorem OC(h:∀a∈L,bQ (bt t a)):Shape t ⟨21,ln,n,nm,L⟩:=by constructor<;>(try simp only)<;>intros<;>first|omega|omega|trivial|(refine h _ ?_;assumption)|fail
theorem Jb{lv:Int}(h:r.next lv≠⟨#[]⟩):r.next lv∈tI:=by
 unfold Rd.next at h ⊢;cases e:(ni lv).find? (fun s=>r.is s)with
 |none=>rw[e]at h;exact(h rfl).elim
 |some s=>
  have:=List.mem_of_find?_eq_some e;unfold ni at this;simp only;unfold tI;split at this
  ·simp at this ⊢;simp[this]
  split at this
  ·simp at this ⊢;simp[this]
  split at this
  ·simp at this ⊢;rcases this with h|h|h|h<;>simp[h]
  split at this
  ·simp at this ⊢;rcases this with h|h<;>simp[h]
  ·simp at this ⊢;rcases this with h|h|h<;>simp[h]
theorem pe{r':Rd}(s:Rd.St r r'):r'.e=0->r.e=0:=fun h=>Classical.byContradiction fun e=>s.err e h
theorem Du{e:Int}(he:e≠0):Made r (r.aF e) L C:=fun h=>(Rd.gA he h).elim
theorem EF:∀n,(∀r:Rd,r.Inv->kV r.l->8*r.rem+1<=n->Made r (qm n r).1 [(qm n r).2] bQ)/\(∀r:Rd,r.Inv->kV r.l->8*r.rem+2<=n->Made r (iq n r).1 [(iq n r).2] bQ)/\
  (∀lv (r:Rd),r.Inv->kV r.l->lv<=5->8*r.rem+8<=n+lv->Made r (dV n lv r).1 [(dV n lv r).2] bQ)/\
  (∀lv ln (r:Rd) (p:Rd×Int),p.1.Inv->kV p.1.l->lv<=4->8*p.1.rem+7<=n+lv->Made r p.1 [p.2] bQ->Made r (oo n lv ln p).1 [(oo n lv ln p).2] bQ)
 |0=>⟨fun r h ht hn=>by omega,fun r h ht hn=>by omega,fun lv r h ht h5 hn=>by omega,fun lv ln r p h ht h5 hn hp=>by omega⟩
 |n+1=>by
  obtain⟨ia,kz,ic,il⟩:=EF n;have ist:=rG n;have bs:∀(r:Rd) (t u:ByteArray),r.Inv->kV r.l->r.e=0->8*r.rem+1<=n+1->(r.is t=true\/8*r.rem+8<=n)->Made r ((dV n 0 (r.down.ap t)).1.ap u).up [(dV n 0 (r.down.ap t)).2] bQ:=fun r t u h ht he hn hx=>by
   have h1:=(Rd.bK h he).1;have s1:=Rd.aM h1 t;have hr:8*(r.down.ap t).rem+8<=n+0:=by
    rcases hx with hx|hx
    ·have:=(Rd.gy h hx).1;omega
    ·have:=s1.rem;have hdr:r.down.rem<=r.rem:=by
      unfold Rd.rem;obtain⟨_,_,h3,h4,_⟩:=Rd.bK h he;rw[h3,h4,if_pos he];split<;>omega
     omega
   have st:=(zb r).trans (ji r.down t);have:=ic 0 (r.down.ap t) (s1.inv h1) (by rw[st.l];exact ht) jB hr;exact((this.pre st).post (ji _ _)).post (xY _)
  refine⟨fun r h ht hn=>?_,fun r h ht hn=>?_,fun lv r h ht h5 hn=>?_,fun lv ln r p h ht h5 hn hp=>?_⟩
  ·unfold qm;split
   ·rename_i he;exact fun h=>(he h).elim
   rename_i he;have he:r.e=0:=jB;have htk:r.i.toNat<r.l.length:=by have:=h.lt;have:=h.pos;omega
   split
   ·rename_i hk;exact jw _ _ _ _ fun _=>⟨Mk.refl _,tF jB (fun _=>⟨_,h.num _ htk hk,rfl⟩) jH jH,by unfold bQ;omega⟩
   split
   ·rename_i hk;exact jw _ _ _ _ fun _=>⟨Mk.refl _,tF jB jH jH (fun _=>ht _ htk hk),by unfold bQ;omega⟩
   split
   ·rename_i hk;have hki:r.e=0/\r.tok.kind≠0:=⟨he,jB⟩;split
    ·have hi:=(Rd.bn h hki.2).1.inv h;have hr:=Rd.cX h hki;have hm:=bs r.inc (⟨#[91]⟩:ByteArray) (⟨#[93]⟩:ByteArray) hi ht he jB (.inl (by assumption));exact jw _ _ _ _ fun e=>⟨(hm e).1,uq jB ((hm e).2 _ jE),by unfold bQ;omega⟩
    ·exact jw _ _ _ _ fun _=>⟨Mk.refl _,tF jB jH jH jH,by unfold bQ;omega⟩
   split
   ·exact jw _ _ _ _ fun _=>⟨Mk.refl _,tF jB jH (fun _=>.inr rfl) jH,by unfold bQ;omega⟩
   split
   ·exact jw _ _ _ _ fun _=>⟨Mk.refl _,tF jB jH (fun _=>.inl rfl) jH,by unfold bQ;omega⟩
   split
   ·rename_i hs;have hki:=Rd.aU hs;split
    ·have hi:=(Rd.bn h hki.2).1.inv h;have hr:=Rd.cX h hki;have hm:=bs r.inc (⟨#[40]⟩:ByteArray) (⟨#[41]⟩:ByteArray) hi ht he jB (.inl (by assumption));exact jw _ _ _ _ fun e=>⟨(hm e).1,uq jB ((hm e).2 _ jE),by unfold bQ;omega⟩
    ·exact fun e=>(Rd.gA jC e).elim
   split
   ·exact bs r (⟨#[40]⟩:ByteArray) (⟨#[41]⟩:ByteArray) h ht he hn (.inl (by assumption))
   ·exact Du jC
  ·unfold iq;have sg:∀t,r.is t=true->∀k ln nm,(k=7\/k=8)->Made r (((iq n r.down.inc).1.up).put k ln 0 nm [(iq n r.down.inc).2]).1 [(((iq n r.down.inc).1.up).put k ln 0 nm [(iq n r.down.inc).2]).2] bQ:=fun t ht' k ln nm hk=>by
    obtain⟨he,hkk⟩:=Rd.aU ht';obtain⟨h1,h2,h3,h4,h5,h6⟩:=Rd.bK h he;have htk:r.down.tok=r.tok:=by unfold Rd.tok;rw[h3,h4]
    have s1:=(Rd.bn h1 (by rw[htk];exact hkk)).1;have st:=(zb r).trans (mS r.down);have hr:8*r.down.inc.rem+2<=n:=by
     have hb:=Rd.behind h hkk;unfold Rd.rem at hn ⊢;rw[if_pos he]at hn;have e1:r.down.inc.i=r.i+1:=by show r.down.i+1=_;rw[h3]
     have e2:r.down.inc.l=r.l:=h4;rw[e1,e2];have:=h.pos;split<;>omega
    have hm:=((kz r.down.inc (s1.inv h1) (by rw[st.l];exact ht) hr).pre st).post (xY _);exact jw _ _ _ _ fun e=>⟨(hm e).1,uq jB ((hm e).2 _ jE),by unfold bQ;omega⟩
   split
   ·rename_i ht';exact sg _ ht' _ _ _ (.inl rfl)
   split
   ·rename_i ht';exact sg _ ht' _ _ _ (.inr rfl)
   ·exact ia r h ht jB
  ·unfold dV;split
   ·exact kz r h ht jB
   ·have s1:=ist.2.2.1 (lv+1) r h;exact il lv _ r _ (s1.inv h) (by rw[s1.l];exact ht) jB (by have:=s1.rem;omega) (ic (lv+1) r h ht jB jB)
  ·unfold oo;split
   ·exact hp
   rename_i hnx;have hki:=Rd.aU (Rd.lE hnx);have s1:=(Rd.bn h hki.2).1;have hr:=Rd.cX h hki;have s2:=ist.2.2.1 (lv+1) _ (s1.inv h);have hm:=ic (lv+1) p.1.inc (s1.inv h) (by rw[s1.l];exact ht) jB jB;have h12:=(hp.post (mS _)).seq hm (pe s2);have hput:Made r ((dV n (lv+1) p.1.inc).1.put 9 ln 0 (p.1.next lv) [p.2,(dV n (lv+1) p.1.inc).2]).1 [((dV n (lv+1) p.1.inc).1.put 9 ln 0 (p.1.next lv) [p.2,(dV n (lv+1) p.1.inc).2]).2] bQ:=
    jw _ _ _ _ fun e=>⟨(h12 e).1,C8 (.inr ⟨rfl,Jb hnx⟩) ((h12 e).2.1 _ jE) ((h12 e).2.2 _ jE),by unfold bQ;omega⟩
   split
   ·exact hput
   ·have s3:=Rd.cS (s1.trans s2) (by have:=s2.dM;have:=(Rd.bn h hki.2).2;omega) 9 ln 0 (p.1.next lv) [p.2,(dV n (lv+1) p.1.inc).2];exact il lv ln r _ (s3.inv h) (by rw[s3.l];exact ht) h5 (by have e:((dV n (lv+1) p.1.inc).1.put 9 ln 0 (p.1.next lv) [p.2,(dV n (lv+1) p.1.inc).2]).1.rem=(dV n (lv+1) p.1.inc).1.rem:=rfl;show 8*((dV n (lv+1) p.1.inc).1.put 9 ln 0 (p.1.next lv) [p.2,(dV n (lv+1) p.1.inc).2]).1.rem+7<=_;rw[e];have:=s2.rem;omega) hput
theorem rj(h:r.Inv)(ht:kV r.l):Made r (cW r).1 [(cW r).2] bQ:=(EF _).2.2.1 0 r h ht jB jB
theorem St.jx{r':Rd}(s:Rd.St r r')(h:kV r.l):kV r'.l:=by rw[s.l];exact h
theorem Dp:∀(n:Nat) (b:Bool) (r0 r:Rd) (L:List Int),r.Inv->kV r.l->Made r0 r L bQ->Made r0 (mM n b r L).1 (mM n b r L).2 bQ
 |0,_,r0,r,L,h,ht,hm=>by unfold mM;exact hm
 |n+1,false,r0,r,L,h,ht,hm=>by unfold mM;exact hm
 |n+1,true,r0,r,L,h,ht,hm=>by
  have s1:=jM h;have h1:=s1.inv h;have m1:=hm.both (rj h ht) (pe s1);unfold mM;split
  ·rename_i hs;have s2:=(Rd.bn h1 (Rd.aU hs).2).1;exact Dp n _ r0 _ _ (s2.inv h1) (St.jx s2 (St.jx s1 ht)) (m1.post (mS _))
  ·exact m1
theorem Gj(h:r.Inv)(ht:kV r.l):Made r (mv r).1 [(mv r).2] (fun k=>k=21):=by have hs:=yy h;have st:=(uG r).trans (ji r.name.1 (⟨#[40]⟩:ByteArray));have hm:Made r (nI r).1 (nI r).2 bQ:=Dp _ _ r _ _ (hs.inv h) (St.jx hs ht) ((Made.nil _ _).pre st);have hm:=hm.post (ji (nI r).1 (⟨#[41]⟩:ByteArray));exact jw _ _ _ _ fun e=>⟨(hm e).1,OC (hm e).2,rfl⟩
theorem Io(h:r.Inv)(ht:kV r.l):Made r (lr r).1 [(lr r).2] dW:=by
 unfold lr;split
 ·exact jw _ _ _ _ fun _=>⟨Mk.refl _,tF jB jH jH jH,by unfold dW;omega⟩
 split
 ·rename_i hs;have s1:=(Rd.bn h (Rd.aU hs).2).1;have s2:=s1.trans (Rd.aM (s1.inv h) (⟨#[40]⟩:ByteArray));have hm:=((rj (s2.inv h) (St.jx s2 ht)).pre ((mS r).trans (ji _ _))).post (ji _ (⟨#[41]⟩:ByteArray));exact jw _ _ _ _ fun e=>⟨(hm e).1,uq jB ((hm e).2 _ jE),by unfold dW;omega⟩
 split
 ·exact(Gj h ht).nj fun k hk=>by unfold dW;omega
 ·exact(rj h ht).nj fun k hk=>.inl hk
theorem PC(h:r.Inv)(ht:kV r.l)(he:r.e=0):Made r (oE r).1 [(oE r).2] bQ:=by have h1:=(Rd.bK h he).1;have s1:=Rd.aM h1 (⟨#[91]⟩:ByteArray);have st:=(zb r).trans (ji r.down (⟨#[91]⟩:ByteArray));exact(rj (s1.inv h1) (by rw[st.l];exact ht)).pre st
theorem O3(h:r.Inv)(ht:kV r.l)(he:r.e=0)(ln:Int):Made r (pP r ln).1 [(pP r ln).2] dL:=by
 unfold pP;split
 ·have hm:=(Gj h ht).post (ji _ (⟨#[59]⟩:ByteArray));exact jw _ _ _ _ fun e=>⟨(hm e).1,Km ((hm e).2 _ jE),by unfold dL;omega⟩
 have s0:=Rd.df h;have h0:=s0.inv h;split
 ·rename_i hs;have he0:=(Rd.aU hs).1;have m1:=PC h0 (St.jx s0 ht) he0;obtain⟨t1,t2⟩:=xU h0 hs;have sB:Rd.St r.name.1 ((oE r.name.1).1.ap (⟨#[93]⟩:ByteArray)).up:=(AK h0 hs).2;have stl:Still (oE r.name.1).1 (((oE r.name.1).1.ap (⟨#[93]⟩:ByteArray)).up.ap (⟨#[61]⟩:ByteArray)):=((ji _ _).trans (xY _)).trans (ji _ _);have m2:Made (((oE r.name.1).1.ap (⟨#[93]⟩:ByteArray)).up.ap (⟨#[61]⟩:ByteArray)) (uP r.name.1).1 [(uP r.name.1).2] bQ:=rj (t1.inv h0) (St.jx t1 (St.jx s0 ht));have hm:=((m1.post stl).both m2 (pe (jM (t1.inv h0)))).post (ji _ (⟨#[59]⟩:ByteArray));have hm:=hm.pre (uG r);exact jw _ _ _ _ fun e=>⟨(hm e).1,C8 (.inl rfl) ((hm e).2 _ jE) ((hm e).2 _ jE),by unfold dL;omega⟩
 ·have s1:=s0.trans (Rd.aM h0 (⟨#[61]⟩:ByteArray));have hm:=((Io (s1.inv h) (St.jx s1 ht)).pre ((uG r).trans (ji _ _))).post (ji _ (⟨#[59]⟩:ByteArray));exact jw _ _ _ _ fun e=>⟨(hm e).1,HA (.inr rfl) ((hm e).2 _ jE),by unfold dL;omega⟩
theorem E2:∀n,(∀r:Rd,r.Inv->kV r.l->4*r.rem+1<=n->Made r (fU n r).1 [(fU n r).2] (fun k=>k=18))/\
  (∀(r0 r:Rd) L,r.Inv->kV r.l->4*r.rem+3<=n->Made r0 r L dL->Made r0 (mn n r L).1 (mn n r L).2 dL)/\
  (∀r:Rd,r.Inv->kV r.l->r.e=0->4*r.rem+2<=n->Made r (nC n r).1 [(nC n r).2] dL)
 |0=>⟨fun r h ht hn=>by omega,fun r0 r L h ht hn hm=>by omega,fun r h ht he hn=>by omega⟩
 |n+1=>by
  obtain⟨ib,il,is_⟩:=E2 n;have ist:=rL n;refine⟨fun r h ht hn=>?_,fun r0 r L h ht hn hm=>?_,fun r h ht he hn=>?_⟩
  ·unfold fU;split
   ·rename_i hx;have he:=(Rd.aU hx).1;have hd:=(Rd.bK h he).1;have s1:=Rd.aM hd (⟨#[123]⟩:ByteArray);have st:=(zb r).trans (ji r.down (⟨#[123]⟩:ByteArray));have hr:=(Rd.gy h hx).1;have hm:=il r (r.down.ap (⟨#[123]⟩:ByteArray)) [] (s1.inv hd) (by rw[st.l];exact ht) jB ((Made.nil _ _).pre st);have hm:=(hm.post (ji _ (⟨#[125]⟩:ByteArray))).post (xY _);exact jw _ _ _ _ fun e=>⟨(hm e).1,NZ (hm e).2,rfl⟩
   ·exact Du jC
  ·unfold mn;split
   ·rename_i hc;have hn0:0<n:=jB;obtain⟨s1,s2⟩:=ist.2.2 r h hc.1 hn0;have hm2:=hm.both (is_ r h ht hc.1 jB) (pe s1);exact il r0 _ _ (s1.inv h) (St.jx s1 ht) jB hm2
   ·exact hm
  ·unfold nC;have word:∀w:ByteArray,w≠⟨#[]⟩->r.word=w->r.inc.Inv/\r.inc.rem+1<=r.rem/\Rd.St r r.inc:=fun w h0 hw=>by
    have hk:=Rd.dJ (Rd.gC hw h0) jC;exact⟨(Rd.bn h hk.2).1.inv h,Rd.cX h hk,(Rd.bn h hk.2).1⟩
   split
   ·rename_i hw;obtain⟨h1,h2,s1⟩:=word _ jC hw;have s2:=Rd.df h1;have s3:=s2.trans (Rd.aM (s2.inv h1) (⟨#[61]⟩:ByteArray));have hm:=((Io (s3.inv h1) (St.jx s3 ht)).pre ((mS r).trans ((uG r.inc).trans (ji _ _)))).post (ji _ (⟨#[59]⟩:ByteArray));exact jw _ _ _ _ fun e=>⟨(hm e).1,HA (.inl rfl) ((hm e).2 _ jE),by unfold dL;omega⟩
   split
   ·rename_i hw;obtain⟨h1,h2,s1⟩:=word _ jC hw;have hm:=((rj h1 (St.jx s1 ht)).pre (mS r)).post (ji _ (⟨#[59]⟩:ByteArray));exact jw _ _ _ _ fun e=>⟨(hm e).1,uq jB ((hm e).2 _ jE),by unfold dL;omega⟩
   split
   ·rename_i hw;obtain⟨h1,h2,s1⟩:=word _ jC hw;have s2:=jM h1;have s3:=ist.1 _ (s2.inv h1);have hm:=((rj h1 (St.jx s1 ht)).pre (mS r)).seq (ib (cW r.inc).1 (s2.inv h1) (St.jx s2 (St.jx s1 ht)) (by have:=s2.rem;omega)) (pe s3);exact jw _ _ _ _ fun e=>⟨(hm e).1,Mp ((hm e).2.1 _ jE) ((hm e).2.2 _ jE),by unfold dL;omega⟩
   split
   ·rename_i hw;obtain⟨h1,h2,s1⟩:=word _ jC hw;have s2:=jM h1;have h3:=s2.inv h1;have s3:=ist.1 _ h3;have h4:=s3.inv h3;have hm:=((rj h1 (St.jx s1 ht)).pre (mS r)).seq (ib (cW r.inc).1 h3 (St.jx s2 (St.jx s1 ht)) (by have:=s2.rem;omega)) (pe s3);split
    ·rename_i hx;have hk:=Rd.aU hx;have s5:=(Rd.bn h4 hk.2).1;have hr5:=Rd.cX h4 hk;have h5:=s5.inv h4;have s6:=ist.1 _ h5;have m3:=(ib (fU n (cW r.inc).1).1.inc h5 (St.jx s5 (St.jx s3 (St.jx s2 (St.jx s1 ht)))) (by have:=s2.rem;have:=s3.rem;omega)).pre (mS _);have he5:=fun e=>pe s5 (pe s6 e)
     exact jw _ _ _ _ fun e=>by obtain⟨a1,a2,a3⟩:=hm (he5 e);obtain⟨b1,b2⟩:=m3 e;exact⟨a1.trans b1,LZ (by rw[a1.kind b1 jE];exact a2 _ jE) (by rw[a1.kind b1 jE];exact a3 _ jE) (b2 _ jE),by unfold dL;omega⟩
    ·exact jw _ _ _ _ fun e=>⟨(hm e).1,NK ((hm e).2.1 _ jE) ((hm e).2.2 _ jE),by unfold dL;omega⟩
   split
   ·rename_i hw;obtain⟨h1,h2,s1⟩:=word _ jC hw;split
    ·have hm:=((Made.nil r.inc bQ).pre (mS r)).post (ji _ (⟨#[59]⟩:ByteArray));exact jw _ _ _ _ fun e=>⟨(hm e).1,tF jB jH jH jH,by unfold dL;omega⟩
    ·have hm:=((rj h1 (St.jx s1 ht)).pre (mS r)).post (ji _ (⟨#[59]⟩:ByteArray));exact jw _ _ _ _ fun e=>⟨(hm e).1,uq jB ((hm e).2 _ jE),by unfold dL;omega⟩
   ·exact O3 h ht he _
theorem M8(h:r.Inv)(ht:kV r.l):Made r (ov r).1 [(ov r).2] (fun k=>k=18):=(E2 _).1 r h ht jB
-- functions
structure qV(f:aX):Prop where
 ps:∀p∈f.params,1<=p.ty/\p.ty<=4
 ret:0<=f.ret/\f.ret<=4
theorem Lq(w:ByteArray):0<=rz w/\rz w<=4:=by
 unfold rz;repeat' split
 all_goals omega
theorem EQ(r:Rd):Still r (iP r).1:=by
 unfold iP;split
 ·exact ym r jC
 ·exact mS r
theorem D4(he:(iP r).1.e=0):1<=(iP r).2/\(iP r).2<=4:=by
 unfold iP at he ⊢;split
 ·rename_i h;rw[if_pos h]at he;exact(Rd.gA jC he).elim
 ·have:=Lq r.word;simp only;omega
theorem Gl:∀(n:Nat) (b:Bool) (r:Rd) (L:List bE),Still r (mB n b r L).1/\((mB n b r L).1.e=0->(∀p∈L,1<=p.ty/\p.ty<=4)->∀p∈(mB n b r L).2,1<=p.ty/\p.ty<=4)
 |0,_,r,L=>by unfold mB;exact⟨.refl r,fun _ h=>h⟩
 |n+1,false,r,L=>by unfold mB;exact⟨.refl r,fun _ h=>h⟩
 |n+1,true,r,L=>by
  have st:Still r (pu r):=(uG r).trans (EQ _);have hL:(pu r).e=0->(∀p∈L,1<=p.ty/\p.ty<=4)->∀p∈L++[⟨r.name.2,(iP r.name.1).2⟩],1<=p.ty/\p.ty<=4:=fun e h p hp=>by
   rcases List.mem_append.1 hp with hp|hp
   ·exact h p hp
   ·rw[List.mem_singleton.1 hp];exact D4 e
  unfold mB;split
  ·obtain⟨a,b⟩:=Gl n true (pu r).inc (L++[⟨r.name.2,(iP r.name.1).2⟩]);exact⟨st.trans ((mS _).trans a),fun e h=>b e (hL (a.err e) h)⟩
  ·exact⟨st,hL⟩
theorem Kl(h:r.Inv)(ht:kV r.l):Made r (mw r).1 [(mw r).2.body] (fun k=>k=18)/\((mw r).1.e=0->qV (mw r).2):=by
 have h1:=(qa h).1.inv h;have h2:=(zy h).inv h1;obtain⟨a,b⟩:=Gl ((mK r).rem+2) (more (mK r)) (mK r) [];have stA:Still r (mK r):=((ji r (⟨#[102,110]⟩:ByteArray)).trans (uG _)).trans (ji _ _);have vP:Still r (lC r):=(stA.trans a).trans (ji _ _);have stD:Still (lC r) (l5 r).1:=by
  unfold l5;split
  ·exact .refl _
  ·exact EQ _
 have hb:=M8 h2 (by rw[(vP.trans stD).l];exact ht);refine⟨hb.pre (vP.trans stD),fun e=>?_⟩;have e2:(l5 r).1.e=0:=pe (Bt h2) e;have e1:(lC r).e=0:=stD.err e2;have e0:(se r).1.e=0:=(ji _ _).err e1;refine⟨b e0 (fun p hp=>by simp at hp),?_⟩;show 0<=(l5 r).2/\(l5 r).2<=4;unfold l5 at e2 ⊢;split
 ·simp
 ·rename_i hc;rw[if_neg hc]at e2;have:=D4 e2;omega
theorem IF:∀(n:Nat) (r0 r:Rd) (L:List aX),r.Inv->kV r.l->Made r0 r (L.map (·.body)) (fun k=>k=18)->(r.e=0->∀f∈L,qV f)->
  Made r0 (p7 n r L).1 ((p7 n r L).2.map (·.body)) (fun k=>k=18)/\((p7 n r L).1.e=0->∀f∈(p7 n r L).2,qV f)
 |0,r0,r,L,h,ht,hm,hf=>by unfold p7;exact⟨hm,hf⟩
 |n+1,r0,r,L,h,ht,hm,hf=>by
  unfold p7;split
  ·have s1:=(Hb h).1;obtain⟨a,b⟩:=Kl h ht;refine IF n r0 _ _ (s1.inv h) (St.jx s1 ht) ?_ fun e f hf'=>?_
   ·rw[List.map_append];exact hm.both a (pe s1)
   ·rcases List.mem_append.1 hf' with h'|h'
    ·exact hf (pe s1 e) f h'
    ·rw[List.mem_singleton.1 h'];exact b e
  ·exact⟨hm,hf⟩
structure aH(t:az):Prop where
 chain:aG t.nodes 0 (t.ao.map (·.body)) t.nodes.length
 shape:∀k,k<t.nodes.length->Shape t.nodes (nth t.nodes k)/\(∀a∈(nth t.nodes k).l,0<=a/\a.toNat<k)/\∃lo,aG t.nodes lo (nth t.nodes k).l k
 body:∀f∈t.ao,bt t.nodes f.body=18
 fn:∀f∈t.ao,qV f/\f.params.length<=3
 many:t.nodes.length<=300
 ao:t.ao.length<=6
variable{s:ByteArray}
theorem Mn{a:Nat}(h:(oh s a).2.2=0):(oh s a).1.size<=12:=by
 unfold oh at h ⊢;simp only at h ⊢;split at h<;>rename_i h1
 ·rw[if_pos h1];split at h<;>rename_i h2
  ·cases h
  ·rw[if_neg h2];simp only[ByteArray.size_extract];omega
 ·cases h
theorem PS{a:Nat}(h:(gS s a).2.2=0)(hk:(gS s a).1.kind=2):(gS s a).1.text.size<=12:=by
 unfold gS at h hk ⊢;split at h<;>rename_i h1
 ·rw[if_pos h1]at hk ⊢;split at h<;>rename_i h2
  ·rw[if_pos h2]at hk;cases hk
  ·cases h
 rw[if_neg h1]at hk ⊢;split at h<;>rename_i h2
 ·rw[if_pos h2]at hk ⊢;split at h<;>rename_i h3
  ·rw[if_pos h3]at hk;cases hk
  ·rw[if_neg h3]at hk ⊢;split at h<;>rename_i h4
   ·cases h
   ·rw[if_neg h4]at hk;cases hk
 rw[if_neg h2]at hk ⊢;split at h<;>rename_i h3
 ·rw[if_pos h3]at hk ⊢;exact Mn h
 ·rw[if_neg h3]at hk;split at h<;>rename_i h4
  ·cases h
  ·rw[if_neg h4]at hk;cases hk
theorem FV(s:ByteArray):∀(n i:Nat) (out:List ce),(lp s n i out).2.2=0->(∀t∈out,t.kind=2->t.text.size<=12)->∀t∈(lp s n i out).1,t.kind=2->t.text.size<=12
 |0,i,out,he,ho=>by unfold lp;exact ho
 |n+1,i,out,he,ho=>by
  unfold lp at he ⊢;split at he<;>rename_i hi
  ·rw[if_pos hi];split at he<;>rename_i h3
   ·rw[if_pos h3];refine FV s n _ _ he fun t ht=>?_
    rcases List.mem_append.1 ht with ht|ht
    ·exact ho t ht
    ·rw[List.mem_singleton.1 ht];exact PS h3
   ·exact(h3 he).elim
  ·rw[if_neg hi];intro t ht;rcases List.mem_append.1 ht with ht|ht
   ·exact ho t ht
   ·rw[List.mem_singleton.1 ht];intro h;cases h
theorem Mo(he:(kF s).2.2=0):kV (nY s).l:=by
 have:∀t∈(kF s).1,t.kind=2->t.text.size<=12:=by
  unfold kF at he ⊢;split at he<;>rename_i h
  ·cases he
  ·rw[if_neg h];exact FV s _ _ _ he (fun t ht=>by simp at ht)
 intro k hk;exact this _ (dT hk)
theorem xv(h:(gH s).2.2=0):aH (gH s).1:=by
 unfold gH at h ⊢;split at h<;>rename_i h1
 ·exact(h1 h).elim
 rw[if_neg h1];split at h<;>rename_i h2
 ·exact(h2 h).elim
 rw[if_neg h2];split at h<;>rename_i h3
 ·cases h
 rw[if_neg h3];have he:(kF s).2.2=0:=jB;have hf:(nS s).1.e=0:=jB;obtain⟨a,b⟩:=IF ((nY s).rem+1) (nY s) (nY s) [] (G5 he) (Mo he) (Made.nil _ _) (fun _ f hf=>by simp at hf);obtain⟨a1,a2⟩:=a hf;simp only[s8,Bool.or_eq_true,decide_eq_true_eq,not_or,List.any_eq_true,not_exists,not_and]at h3;refine⟨a1.chain,fun k hk=>a1.shape k (Nat.zero_le _) hk,fun f hf=>a2 _ (List.mem_map.2 ⟨f,hf,rfl⟩),fun f hff=>⟨b hf f hff,by have:=h3.2 f hff;omega⟩,by show(nS s).1.nodes.length<=300;omega,by show(nS s).2.length<=6;omega⟩
structure Ck where
 aa:az
 types:List Int
 slots:List Int
 ao:List Int
 aP:List Int
 fn:Int
 vars:List bC
 more:List bC
 size:Int
 e:Int
 at_:Int
 deriving Inhabited
def gj{α:Type}(f:α->ByteArray)(name:ByteArray):List α->Int->Int
 |[],_=>-1
 |v::l,i=>if f v=name then i else gj f name l (i+1)
def iZ{α:Type}(f:α->ByteArray)(name:ByteArray):List α->Int->Int->Int
 |[],_,k=>k
 |v::l,i,k=>iZ f name l (i+1) (if f v=name then i else k)
def gY(sign:ByteArray)(a b:Int):Int:=
 if a≠b then 0
 else if sign=(⟨#[124,124]⟩:ByteArray)\/sign=(⟨#[38,38]⟩:ByteArray)then(if a=2 then 2 else 0)
 else if sign=(⟨#[60]⟩:ByteArray)\/sign=(⟨#[60,61]⟩:ByteArray)then(if a=1 then 2 else 0)
 else if sign=(⟨#[61,61]⟩:ByteArray)\/sign=(⟨#[33,61]⟩:ByteArray)then(if a=1\/a=2\/a=3 then 2 else 0)
 else if sign=(⟨#[43]⟩:ByteArray)then(if a=1\/a=3 then a else 0)
 else(if a=1 then 1 else 0)
namespace Ck
def node(c:Ck)(a:Int):bk:=nth c.aa.nodes a.toNat
def ay(c:Ck)(a:Int)(i:Nat):Int:=nth (c.node a).l i
def aF(c:Ck)(e a:Int):Ck:=if c.e=0 then{ c with e:=e,at_:=a }else c
def ap(c:Ck)(ok:Bool)(a:Int):Ck:=if ok=true then c else c.aF 42 a
def find(c:Ck)(name:ByteArray):Int:=gj bC.name name c.vars 0
def slot(c:Ck)(a s:Int):Ck:={ c with slots:=c.slots.set a.toNat s }
def named(c:Ck)(a:Int):Ck×Int:=
 if c.find (c.node a).name<0 then(c.aF 40 a,0)
 else(c.slot a (nth c.vars (c.find (c.node a).name).toNat).slot,(nth c.vars (c.find (c.node a).name).toNat).ty)
def note(c:Ck)(a t:Int):Ck:={ c with types:=c.types.set a.toNat t,ao:=c.ao.set a.toNat c.fn }
def ac(c:Ck)(a:Int):Ck:={ c with ao:=c.ao.set a.toNat c.fn }
end Ck
def fO(ex:Ck->Int->Ck×Int):Ck->List Int->List Int->Ck×List Int
 |c,[],ts=>(c,ts)
 |c,a::l,ts=>if c.e=0 then fO ex (ex c a).1 l (ts++[(ex c a).2])else(c,ts)
def gL(a:Int):Ck->List Int->List bE->Ck
 |c,t::ts,p::ps=>if c.e=0 then gL a (c.ap (decide (t=p.ty)) a) ts ps else c
 |c,_,_=>c
def fz(c:Ck)(a:Int):Int:=iZ aX.name (c.node a).name c.aa.ao 0 (-1)
def gq(ex:Ck->Int->Ck×Int)(c:Ck)(a:Int):Ck×Int:=
 if fz c a<0 then(c.aF 40 a,0)
 else
  let f:=nth c.aa.ao (fz c a).toNat
  let p:=fO ex c (c.node a).l []
  let c1:=if(c.node a).l.length≠f.params.length then p.1.aF 43 a else p.1
  (gL a c1 p.2 f.params,f.ret)
def bV(ex:Ck->Int->Ck×Int)(c:Ck)(a:Int):Ck×Int:=
 let k:=(c.node a).kind
 if k=1\/k=19 then(c,1)
 else if k=2 then(c,2)
 else if k=3 then(c,3)
 else if k=4 then c.named a
 else if k=21 then gq ex c a
 else if k=5 then
  let p:=c.named a
  let x:=ex p.1 (c.ay a 0)
  (x.1.ap (decide (p.2=4) && decide (x.2=1)) a,1)
 else if k=9 then
  let x:=ex c (c.ay a 0)
  let y:=ex x.1 (c.ay a 1)
  let t:=gY (c.node a).name x.2 y.2
  (y.1.ap (!decide (t=0)) a,t)
 else
  let x:=ex c (c.ay a 0)
  if k=6 then(x.1.ap (decide (x.2=3) || decide (x.2=4)) a,1)
  else if k=7 then(x.1.ap (decide (x.2=1)) a,1)
  else if k=8 then(x.1.ap (decide (x.2=2)) a,2)
  else(x.1.ap (decide (x.2=1)) a,4)
def ar:Nat->Ck->Int->Ck×Int
 |0,c,_=>(c,0)
 |n+1,c,a=>if c.e≠0 then(c,0)else((bV (ar n) c a).1.note a (bV (ar n) c a).2,(bV (ar n) c a).2)
def oB(ex:Ck->Int->Ck×Int)(c:Ck)(a:Int):Ck:=
 let x:=ex c (c.ay a 0)
 let c1:=x.1.ap (!decide (x.2=0)) a
 let c2:=if 0<=c1.find (c.node a).name then c1.aF 41 a else c1
 let c3:=if 24<=c2.size then c2.aF 4 a else c2
 { (c3.slot a c3.size)with vars:=c3.vars++[⟨(c.node a).name,x.2,c3.size⟩],more:=c3.more.drop 1,size:=c3.size+1 }
def jZ(ex:Ck->Int->Ck×Int)(c:Ck)(a:Int):Ck:=
 let ret:=(nth c.aa.ao c.fn.toNat).ret
 let l:=(c.node a).l
 if decide (l.length=1)≠(!decide (ret=0))then c.aF 43 a
 else if l.length=1 then
  let x:=ex c (c.ay a 0)
  x.1.ap (decide (x.2=ret)) a
 else c
def de(st:Ck->Int->Ck):Ck->List Int->Ck
 |c,[]=>c
 |c,a::l=>if c.e=0 then de st (st c a) l else c
def dZ(st:Ck->Int->Ck)(c:Ck)(a:Int):Ck:=
 let c1:=de st (c.ac a) (c.node a).l
 { c1 with vars:=c1.vars.take (min c.vars.length c1.vars.length),more:=c1.vars.drop (min c.vars.length c1.vars.length)++c1.more }
def bv:Nat->Ck->Int->Ck
 |0,c,_=>c
 |n+1,c0,a=>
  let c:=c0.ac a
  let k:=(c.node a).kind
  if k=10 then oB (ar n) c a
  else if k=11 then
   let p:=c.named a
   let x:=ar n p.1 (c.ay a 0)
   x.1.ap (decide (p.2=x.2)) a
  else if k=12 then
   let p:=c.named a
   let x:=ar n p.1 (c.ay a 0)
   let y:=ar n x.1 (c.ay a 1)
   y.1.ap (decide (p.2=4) && decide (x.2=1) && decide (y.2=1)) a
  else if k=13 then(ar n c (c.ay a 0)).1
  else if k=14 then
   let x:=ar n c (c.ay a 0)
   x.1.ap (!decide (x.2=4)) a
  else if k=17 then jZ (ar n) c a
  else
   let x:=ar n c (c.ay a 0)
   de (dZ (bv n)) (x.1.ap (decide (x.2=2)) a) ((c.node a).l.drop 1)
def dU(body:Int):Ck->List bE->Int->Ck
 |c,[],_=>c
 |c,p::ps,i=>
  let c1:=if 0<=c.find p.name then c.aF 41 body else c
  dU body { c1 with vars:=c1.vars++[⟨p.name,p.ty,i⟩],more:=c1.more.drop 1,size:=c1.size+1 } ps (i+1)
def fA(c:Ck)(k:Nat):Ck:=
 let f:=nth c.aa.ao k
 let c1:=dU f.body { c with fn:=k,vars:=[],more:=[],size:=0 } f.params 0
 let c2:=if c1.e=0 then dZ (bv c.aa.nodes.length) c1 f.body else c1
 { c2 with aP:=c2.aP++[c2.size],vars:=[],more:=[] }
def lP(x:aX):Ck->List aX->Ck
 |c,[]=>c
 |c,f::l=>lP x (if f.name=x.name then c.aF 41 x.body else c) l
def u6(f:aX):Bool:=decide (f.name=(⟨#[109,97,105,110]⟩:ByteArray)) && decide ((f.params.length:Int)=0) && decide (f.ret=0)
def kT(ao:List aX):Ck->Bool->Nat->Nat->Ck×Bool
 |c,m,_,0=>(c,m)
 |c,m,i,n+1=>kT ao (lP (nth ao i) c (ao.take i)) (m || u6 (nth ao i)) (i+1) n
def iY(c:Ck):Ck:=
 let p:=kT c.aa.ao c false 0 c.aa.ao.length
 if p.2=true then p.1 else p.1.aF 44 0
def fE:Ck->Nat->Nat->Ck
 |c,_,0=>c
 |c,i,n+1=>if c.e=0 then fE (fA c i) (i+1) n else c
def jq(t:az):Ck:=⟨t,t.nodes.map fun _=>0,t.nodes.map fun _=>-1,t.nodes.map fun _=>0,[],0,[],[],0,0,0⟩
def iv(t:az):Ck:=fE (iY (jq t)) 0 t.ao.length
def kR:ab:=⟨⟨[],[]⟩,[],[],[],[]⟩
def Ck.prog(c:Ck):ab:=⟨c.aa,c.types,c.slots,c.ao,c.aP⟩
def gP(t:az):ab×Int×Int:=if(iv t).e≠0 then(kR,(iv t).at_,(iv t).e)else((iv t).prog,0,0)
def gf(s:ByteArray):ab×Int×Int:=
 if(gH s).2.2≠0 then(kR,(gH s).2.1,(gH s).2.2)
 else
  let q:=gP (gH s).1
  if q.2.2=44 then(kR,0,44)
  else if q.2.2≠0 then(kR,(nth (gH s).1.nodes q.2.1.toNat).cz,q.2.2)
  else(q.1,0,0)
def dp(slots:List ak)(k t:Int):ak:=
 if k<0\/(slots.length:Int)<=k then vZ t
 else if j9 (nth slots k.toNat)=true/\(nth slots k.toNat).ty=t then nth slots k.toNat else vZ t
def lz(heap:List (List Int))(v:ak):List Int:=if v.ty≠4\/v.n<1\/(heap.length:Int)<v.n then[]else nth heap (v.n-1).toNat
def eN(p:ab)(slots:List ak)(heap:List (List Int)):Nat->Int->ak×Int
 |0,_=>(v0,0)
 |n+1,a=>
  let nd:=nth p.aa.nodes a.toNat
  let x:=eN p slots heap n (nth nd.l 0)
  let y:=eN p slots heap n (nth nd.l 1)
  if nd.kind=1 then(vI nd.n,0)
  else if nd.kind=2 then(vB (decide (nd.n=1)),0)
  else if nd.kind=3 then(vT nd.name,0)
  else if nd.kind=4 then(dp slots (nth p.slots a.toNat) (nth p.types a.toNat),0)
  else if x.2≠0 then(v0,x.2)
  else if nd.kind=5 then
   (if x.1.n<0\/((lz heap (dp slots (nth p.slots a.toNat) 4)).length:Int)<=x.1.n then(v0,2)else(vI (nth (lz heap (dp slots (nth p.slots a.toNat) 4)) x.1.n.toNat),0))
  else if nd.kind=9 then
   (if(nd.name=(⟨#[124,124]⟩:ByteArray)/\x.1.n=1)\/(nd.name=(⟨#[38,38]⟩:ByteArray)/\x.1.n=0)then(x.1,0)
   else if y.2≠0 then(v0,y.2)else kN nd.name x.1 y.1)
  else if nd.kind=6 then(if x.1.ty=3 then(vI x.1.s.size,0)else(vI (lz heap x.1).length,0))
  else if nd.kind=7 then(kQ (⟨#[45]⟩:ByteArray) x.1,0)
  else(kQ (⟨#[33]⟩:ByteArray) x.1,0)
end Go.Gd
