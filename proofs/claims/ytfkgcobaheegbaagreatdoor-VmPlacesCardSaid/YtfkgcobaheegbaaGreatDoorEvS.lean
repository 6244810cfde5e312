/- Lemmas. No conditions. -/
import Derived.Test.YtfkgcobaheegbaaGreatDoorLxT
set_option linter.all false
namespace Go.Gd
open Go
theorem mS{α:Type}[Inhabited α]{a b:List α}{i:Nat}(h:i<a.length):nth (a++b) i=nth a i:=by
 simp[nth,List.getD_eq_getElem?_getD,List.getElem?_append_left h]
theorem ng{α:Type}[Inhabited α](a:List α)(x:α):nth (a++[x]) a.length=x:=by
 simp[nth,List.getD_eq_getElem?_getD]
def bs(t:List bh)(i:Int):Int:=(nth t i.toNat).kind
def bO(k:Int):Prop:=1<=k/\k<=9
def dM(k:Int):Prop:=bO k\/k=19\/k=20\/k=21
def dv(k:Int):Prop:=10<=k/\k<=17
def tp:List ByteArray:=[(⟨#[124,124]⟩:ByteArray),(⟨#[38,38]⟩:ByteArray),(⟨#[60]⟩:ByteArray),(⟨#[60,61]⟩:ByteArray),(⟨#[61,61]⟩:ByteArray),(⟨#[33,61]⟩:ByteArray),(⟨#[43]⟩:ByteArray),(⟨#[45]⟩:ByteArray),(⟨#[42]⟩:ByteArray),(⟨#[47]⟩:ByteArray),(⟨#[37]⟩:ByteArray)]
structure Shape(t:List bh)(n:bh):Prop where
 any:1<=n.kind/\n.kind<=21
 zero:n.kind=1\/n.kind=2\/n.kind=3\/n.kind=4\/n.kind=19->n.l=[]
 one:n.kind=5\/n.kind=6\/n.kind=7\/n.kind=8\/n.kind=14\/n.kind=20->∃a,n.l=[a]/\bO (bs t a)
 two:n.kind=9\/n.kind=12->∃a b,n.l=[a,b]/\bO (bs t a)/\bO (bs t b)
 right:n.kind=10\/n.kind=11->∃a,n.l=[a]/\dM (bs t a)
 mR:n.kind=13->∃a,n.l=[a]/\bs t a=21
 kg:n.kind=15->∃a b,bO (bs t a)/\bs t b=18/\(n.l=[a,b]\/∃d,n.l=[a,b,d]/\bs t d=18)
 dK:n.kind=16->∃a b,n.l=[a,b]/\bO (bs t a)/\bs t b=18
 ret:n.kind=17->n.l=[]\/∃a,n.l=[a]/\bO (bs t a)
 block:n.kind=18->∀a∈n.l,dv (bs t a)
 call:n.kind=21->∀a∈n.l,bO (bs t a)
 num:n.kind=1->∃s,qs s/\n.n=pq s
 bool:n.kind=2->n.n=0\/n.n=1
 text:n.kind=3->n.name.size<=12
 sign:n.kind=9->n.name∈tp
inductive aG(t:List bh):Nat->List Int->Nat->Prop
 |nil (k:Nat):aG t k [] k
 |cons {lo c hi:Nat} {L:List Int} (hc:c<t.length) (h1:aG t lo (nth t c).l c) (h2:aG t (c+1) L hi):aG t lo ((c:Int)::L) hi
variable{t:List bh}{lo hi:Nat}{L:List Int}
theorem aG.le(h:aG t lo L hi):lo<=hi:=by
 induction h with
 |nil=>exact Nat.le_refl _
 |cons _ _ _ i1 i2=>omega
theorem aG.mem(h:aG t lo L hi):∀a∈L,0<=a/\lo<=a.toNat/\a.toNat<hi/\a.toNat<t.length:=by
 induction h with
 |nil=>intro a ha;simp at ha
 |@cons lo c hi L hc h1 h2 i1 i2=>
  intro a ha;have l1:=h1.le;have l2:=h2.le;rcases List.mem_cons.1 ha with rfl|ha
  ·exact⟨jB,by simpa using l1,by simp;omega,by simpa using hc⟩
  ·have:=i2 a ha;omega
variable{u:List bh}
theorem aG.mono(h:aG t lo L hi):aG (t++u) lo L hi:=by
 induction h with
 |nil k=>exact .nil k
 |cons hc _ _ i1 i2=>exact .cons jF (by rw[mS hc];exact i1) i2
variable{M:List Int}
theorem aG.append{eT:Nat}(h:aG t lo L eT):aG t eT M hi->aG t lo (L++M) hi:=by
 induction h with
 |nil=>intro k;exact k
 |cons hc h1 _ _ i2=>intro k;exact .cons hc h1 (i2 k)
theorem aG.one{c:Nat}(hc:c<t.length)(h:aG t lo (nth t c).l c):aG t lo [(c:Int)] (c+1):=.cons hc h (.nil _)
variable{a:Int}
theorem mm(h:a.toNat<t.length):bs (t++u) a=bs t a:=by unfold bs;rw[mS h]
theorem Shape.mono{n:bh}(h:Shape t n)(hl:∀a∈n.l,a.toNat<t.length):Shape (t++u) n where
 any:=h.any
 zero:=h.zero
 one:=fun e=>by
  obtain⟨a,h1,h2⟩:=h.one e;exact⟨a,h1,by rw[mm (hl a (by rw[h1];simp))];exact h2⟩
 two:=fun e=>by
  obtain⟨a,b,h1,h2,h3⟩:=h.two e;exact⟨a,b,h1,by rw[mm (hl a (by rw[h1];simp))];exact h2,by rw[mm (hl b (by rw[h1];simp))];exact h3⟩
 right:=fun e=>by
  obtain⟨a,h1,h2⟩:=h.right e;exact⟨a,h1,by rw[mm (hl a (by rw[h1];simp))];exact h2⟩
 mR:=fun e=>by
  obtain⟨a,h1,h2⟩:=h.mR e;exact⟨a,h1,by rw[mm (hl a (by rw[h1];simp))];exact h2⟩
 kg:=fun e=>by
  obtain⟨a,b,h1,h2,h3⟩:=h.kg e;rcases h3 with h3|⟨d,h3,h4⟩
  ·exact⟨a,b,by rw[mm (hl a (by rw[h3];simp))];exact h1,by rw[mm (hl b (by rw[h3];simp))];exact h2,.inl h3⟩
  ·exact⟨a,b,by rw[mm (hl a (by rw[h3];simp))];exact h1,by rw[mm (hl b (by rw[h3];simp))];exact h2,.inr ⟨d,h3,by rw[mm (hl d (by rw[h3];simp))];exact h4⟩⟩
 dK:=fun e=>by
  obtain⟨a,b,h1,h2,h3⟩:=h.dK e;exact⟨a,b,h1,by rw[mm (hl a (by rw[h1];simp))];exact h2,by rw[mm (hl b (by rw[h1];simp))];exact h3⟩
 ret:=fun e=>by
  rcases h.ret e with h1|⟨a,h1,h2⟩
  ·exact .inl h1
  ·exact .inr ⟨a,h1,by rw[mm (hl a (by rw[h1];simp))];exact h2⟩
 block:=fun e a ha=>by rw[mm (hl a ha)];exact h.block e a ha
 call:=fun e a ha=>by rw[mm (hl a ha)];exact h.call e a ha
 num:=h.num
 bool:=h.bool
 text:=h.text
 sign:=h.sign
theorem aG.len(h:aG t lo L hi):L.length+lo<=hi:=by
 induction h with
 |nil=>simp
 |@cons lo c hi L hc h1 h2 i1 i2=>
  have:=h1.le;simp only[List.length_cons];omega
structure Mk(t t':List bh)(L:List Int):Prop where
 pre:∃u,t'=t++u
 chain:aG t' t.length L t'.length
 shape:∀k,t.length<=k->k<t'.length->Shape t' (nth t' k)/\(∀a∈(nth t' k).l,0<=a/\a.toNat<k)/\∃lo,aG t' lo (nth t' k).l k
theorem Mk.refl(t:List bh):Mk t t []:=⟨⟨[],jE⟩,.nil _,fun k h1 h2=>jB⟩
variable{b:List bh}
theorem Mk.trans{a c:List bh}(h:Mk a b L)(k:Mk b c M):Mk a c (L++M):=by
 obtain⟨⟨u,rfl⟩,h2,h3⟩:=h;obtain⟨⟨v,rfl⟩,k2,k3⟩:=k;refine⟨⟨u++v,jE⟩,h2.mono.append k2,fun i h4 h5=>?_⟩;by_cases hi:i<(a++u).length
 ·obtain⟨g1,g2,lo,g3⟩:=h3 i h4 hi
  rw[mS hi];exact⟨g1.mono fun x hx=>by have:=g2 x hx;omega,g2,lo,g3.mono⟩
 ·exact k3 i jB h5
theorem Mk.put{a:List bh}(h:Mk a b L)(n:bh)(hn:n.l=L)(hs:Shape b n):Mk a (b++[n]) [(b.length:Int)]:=by
 obtain⟨⟨u,rfl⟩,h2,h3⟩:=h;have hm:∀x∈n.l,0<=x/\x.toNat<(a++u).length:=fun x hx=>by rw[hn]at hx;exact⟨(h2.mem x hx).1,(h2.mem x hx).2.2.1⟩
 refine⟨⟨u++[n],jE⟩,?_,fun i h4 h5=>?_⟩
 ·have e:((a++u)++[n]).length=(a++u).length+1:=by simp only[List.length_append,List.length_cons,List.length_nil]
  rw[e];refine aG.one jE ?_;rw[ng,hn];exact h2.mono
 ·by_cases hi:i<(a++u).length
  ·obtain⟨g1,g2,lo,g3⟩:=h3 i h4 hi
   rw[mS hi];exact⟨g1.mono fun x hx=>by have:=g2 x hx;omega,g2,lo,g3.mono⟩
  ·have:i=(a++u).length:=by simp at h5 hi ⊢;omega
   subst this;rw[ng];exact⟨hs.mono fun x hx=>(hm x hx).2,hm,a.length,by rw[hn];exact h2.mono⟩
theorem Mk.kind{a c:List bh}(h:Mk a b L)(k:Mk b c M){x:Int}(hx:x∈L):bs c x=bs b x:=by
 obtain⟨⟨v,rfl⟩,_,_⟩:=k;exact mm (h.chain.mem x hx).2.2.2
theorem KY(t:List bh)(n:bh):bs (t++[n]) (t.length:Int)=n.kind:=by unfold bs;rw[Int.toNat_natCast,ng]
def kn(l:List cd):Prop:=∀k,k<l.length->(nth l k).kind=2->(nth l k).text.size<=12
def Made(r r':Rd)(L:List Int)(C:Int->Prop):Prop:=r'.e=0->Mk r.nodes r'.nodes L/\∀a∈L,C (bs r'.nodes a)
structure Still(r r':Rd):Prop where
 nodes:r'.nodes=r.nodes
 err:r'.e=0->r.e=0
 l:r'.l=r.l
theorem Still.refl(r:Rd):Still r r:=⟨rfl,id,rfl⟩
theorem Still.trans{a b c:Rd}(h:Still a b)(k:Still b c):Still a c:=⟨k.nodes.trans h.nodes,fun e=>h.err (k.err e),k.l.trans h.l⟩
theorem xy(r:Rd){e:Int}(he:e≠0):Still r (r.aE e):=⟨Rd.dt _ _,fun h=>(Rd.gm he h).elim,Rd.gk _ _⟩
theorem mO(r:Rd):Still r r.inc:=⟨rfl,id,rfl⟩
theorem yU(r:Rd):Still r r.up:=⟨rfl,id,rfl⟩
theorem iX(r:Rd)(t:ByteArray):Still r (r.aq t):=by
 unfold Rd.aq;split
 ·exact mO r
 ·exact xy r jC
theorem uC(r:Rd):Still r r.name.1:=by
 unfold Rd.name;split
 ·exact mO r
 ·exact xy r jC
theorem yT(r:Rd):Still r r.down:=by
 unfold Rd.down;split
 ·have:=xy r (e:=21) jC
  exact⟨this.nodes,this.err,this.l⟩
 ·exact⟨rfl,id,rfl⟩
variable{r:Rd}{C:Int->Prop}
theorem Made.pre{a b:Rd}(s:Still r a)(h:Made a b L C):Made r b L C:=fun e=>by have:=h e;rwa [s.nodes]at this
theorem Made.post{a b:Rd}(h:Made r a L C)(s:Still a b):Made r b L C:=fun e=>by have:=h (s.err e);rwa [s.nodes]
theorem Made.nil(r:Rd)(C:Int->Prop):Made r r [] C:=fun _=>⟨Mk.refl _,fun a ha=>by simp at ha⟩
variable{D:Int->Prop}
theorem Made.pn{a:Rd}(h:Made r a L C)(hc:∀k,C k->D k):Made r a L D:=fun e=>⟨(h e).1,fun a ha=>hc _ ((h e).2 a ha)⟩
theorem Made.seq{a b c:Rd}(h:Made a b L C)(k:Made b c M D)(he:c.e=0->b.e=0):c.e=0->Mk a.nodes c.nodes (L++M)/\(∀x∈L,C (bs c.nodes x))/\∀x∈M,D (bs c.nodes x):=fun e=>by
 obtain⟨h1,h2⟩:=h (he e);obtain⟨k1,k2⟩:=k e;exact⟨h1.trans k1,fun x hx=>by rw[h1.kind k1 hx];exact h2 x hx,k2⟩
theorem Made.both{a b c:Rd}(h:Made a b L C)(k:Made b c M C)(he:c.e=0->b.e=0):Made a c (L++M) C:=fun e=>by
 obtain⟨h1,h2,h3⟩:=h.seq k he e;exact⟨h1,fun x hx=>(List.mem_append.1 hx).elim (h2 x) (h3 x)⟩
theorem jq{a:Rd}(k ln n:Int)(nm:ByteArray)(h:a.e=0->Mk r.nodes a.nodes L/\Shape a.nodes ⟨k,ln,n,nm,L⟩/\C k):Made r (a.put k ln n nm L).1 [(a.put k ln n nm L).2] C:=fun e=>by
 obtain⟨h1,h2,h3⟩:=h e;refine⟨h1.put _ rfl h2,fun x hx=>?_⟩;rw[List.mem_singleton.1 hx];show C (bs (a.nodes++[_]) (a.nodes.length:Int));rw[KY];exact h3
variable{k ln n:Int}{nm:ByteArray}
theorem tH(hk:k=1\/k=2\/k=3\/k=4\/k=17\/k=19)(h1:k=1->∃s,qs s/\n=pq s)(h2:k=2->n=0\/n=1)(h3:k=3->nm.size<=12):Shape t ⟨k,ln,n,nm,[]⟩:=by
 constructor<;>(try simp only)<;>intros<;>first|(clear h1 h2 h3;omega)|(clear h1 h2 h3;exfalso;omega)|trivial|rfl|(exact .inl rfl)|(exact .inl trivial)|(refine h1 ?_;assumption)|(refine h2 ?_;assumption)|(refine h3 ?_;assumption)|fail
theorem uE(hk:k=5\/k=6\/k=7\/k=8\/k=14\/k=17\/k=20)(h:bO (bs t a)):Shape t ⟨k,ln,n,nm,[a]⟩:=by
 constructor<;>(try simp only)<;>intros<;>first|omega|omega|trivial|(exact⟨a,rfl,h⟩)|(exact .inr ⟨a,rfl,h⟩)
theorem Gm(hk:k=10\/k=11)(h:dM (bs t a)):Shape t ⟨k,ln,n,nm,[a]⟩:=by
 constructor<;>(try simp only)<;>intros<;>first|omega|omega|trivial|(exact⟨a,rfl,h⟩)
theorem Iq(h:bs t a=21):Shape t ⟨13,ln,n,nm,[a]⟩:=by
 constructor<;>(try simp only)<;>intros<;>first|omega|omega|trivial|(exact⟨a,rfl,h⟩)
theorem Fq{b:Int}(hk:k=12\/k=9/\nm∈tp)(h:bO (bs t a))(h':bO (bs t b)):Shape t ⟨k,ln,n,nm,[a,b]⟩:=by
 constructor<;>(try simp only)<;>intros<;>first|omega|omega|trivial|(exact⟨a,b,rfl,h,h'⟩)|(rcases hk with hk|hk;omega;exact hk.2)|fail
theorem NJ{b:Int}(h:bO (bs t a))(h':bs t b=18):Shape t ⟨16,ln,n,nm,[a,b]⟩:=by
 constructor<;>(try simp only)<;>intros<;>first|omega|omega|trivial|(exact⟨a,b,rfl,h,h'⟩)
theorem NU{b:Int}(h:bO (bs t a))(h':bs t b=18):Shape t ⟨15,ln,n,nm,[a,b]⟩:=by
 constructor<;>(try simp only)<;>intros<;>first|omega|omega|trivial|(exact⟨a,b,h,h',.inl rfl⟩)
theorem LU{b d:Int}(h:bO (bs t a))(h':bs t b=18)(h'':bs t d=18):Shape t ⟨15,ln,n,nm,[a,b,d]⟩:=by
 constructor<;>(try simp only)<;>intros<;>first|omega|omega|trivial|(exact⟨a,b,h,h',.inr ⟨d,rfl,h''⟩⟩)
theorem JG(h:∀a∈L,dv (bs t a)):Shape t ⟨18,ln,n,nm,L⟩:=by
 constructor<;>(try simp only)<;>intros<;>first|omega|omega|trivial|(refine h _ ?_;assumption)|fail
theorem H7(h:∀a∈L,bO (bs t a)):Shape t ⟨21,ln,n,nm,L⟩:=by
 constructor<;>(try simp only)<;>intros<;>first|omega|omega|trivial|(refine h _ ?_;assumption)|fail
theorem Ji{lv:Int}(h:r.next lv≠⟨#[]⟩):r.next lv∈tp:=by
 unfold Rd.next at h ⊢;cases e:(mA lv).find? (fun s=>r.is s)with
 |none=>rw[e]at h;exact(h rfl).elim
 |some s=>
  have:=List.mem_of_find?_eq_some e;unfold mA at this;simp only;unfold tp;split at this
  ·simp at this ⊢;simp[this]
  split at this
  ·simp at this ⊢;simp[this]
  split at this
  ·simp at this ⊢;rcases this with h|h|h|h<;>simp[h]
  split at this
  ·simp at this ⊢;rcases this with h|h<;>simp[h]
  ·simp at this ⊢;rcases this with h|h|h<;>simp[h]
theorem oV{r':Rd}(s:Rd.St r r'):r'.e=0->r.e=0:=fun h=>Classical.byContradiction fun e=>s.err e h
theorem Dl{e:Int}(he:e≠0):Made r (r.aE e) L C:=fun h=>(Rd.gm he h).elim
theorem CZ:∀n,(∀r:Rd,r.Inv->kn r.l->8*r.rem+1<=n->Made r (p8 n r).1 [(p8 n r).2] bO)/\(∀r:Rd,r.Inv->kn r.l->8*r.rem+2<=n->Made r (gW n r).1 [(gW n r).2] bO)/\
  (∀lv (r:Rd),r.Inv->kn r.l->lv<=5->8*r.rem+8<=n+lv->Made r (dJ n lv r).1 [(dJ n lv r).2] bO)/\
  (∀lv ln (r:Rd) (p:Rd×Int),p.1.Inv->kn p.1.l->lv<=4->8*p.1.rem+7<=n+lv->Made r p.1 [p.2] bO->Made r (nX n lv ln p).1 [(nX n lv ln p).2] bO)
 |0=>⟨fun r h ht hn=>by omega,fun r h ht hn=>by omega,fun lv r h ht h5 hn=>by omega,fun lv ln r p h ht h5 hn hp=>by omega⟩
 |n+1=>by
  obtain⟨ia,kg,ic,il⟩:=CZ n;have ist:=ry n;have bq:∀(r:Rd) (t u:ByteArray),r.Inv->kn r.l->r.e=0->8*r.rem+1<=n+1->(r.is t=true\/8*r.rem+8<=n)->Made r ((dJ n 0 (r.down.aq t)).1.aq u).up [(dJ n 0 (r.down.aq t)).2] bO:=fun r t u h ht he hn hx=>by
   have h1:=(Rd.bF h he).1;have s1:=Rd.aL h1 t;have hr:8*(r.down.aq t).rem+8<=n+0:=by
    rcases hx with hx|hx
    ·have:=(Rd.gf h hx).1;omega
    ·have:=s1.rem
     have hdr:r.down.rem<=r.rem:=by
      unfold Rd.rem;obtain⟨_,_,h3,h4,_⟩:=Rd.bF h he;rw[h3,h4,if_pos he];split<;>omega
     omega
   have st:=(yT r).trans (iX r.down t);have:=ic 0 (r.down.aq t) (s1.inv h1) (by rw[st.l];exact ht) jB hr;exact((this.pre st).post (iX _ _)).post (yU _)
  refine⟨fun r h ht hn=>?_,fun r h ht hn=>?_,fun lv r h ht h5 hn=>?_,fun lv ln r p h ht h5 hn hp=>?_⟩
  ·unfold p8
   split
   ·rename_i he;exact fun h=>(he h).elim
   rename_i he;have he:r.e=0:=jB
   have htk:r.i.toNat<r.l.length:=by have:=h.lt;have:=h.pos;omega
   split
   ·rename_i hk
    exact jq _ _ _ _ fun _=>⟨Mk.refl _,tH jB (fun _=>⟨_,h.num _ htk hk,rfl⟩) jH jH,by unfold bO;omega⟩
   split
   ·rename_i hk
    exact jq _ _ _ _ fun _=>⟨Mk.refl _,tH jB jH jH (fun _=>ht _ htk hk),by unfold bO;omega⟩
   split
   ·rename_i hk
    have hki:r.e=0/\r.tok.kind≠0:=⟨he,jB⟩;split
    ·have hi:=(Rd.bj h hki.2).1.inv h
     have hr:=Rd.cO h hki;have hm:=bq r.inc (⟨#[91]⟩:ByteArray) (⟨#[93]⟩:ByteArray) hi ht he jB (.inl (by assumption));exact jq _ _ _ _ fun e=>⟨(hm e).1,uE jB ((hm e).2 _ jE),by unfold bO;omega⟩
    ·exact jq _ _ _ _ fun _=>⟨Mk.refl _,tH jB jH jH jH,by unfold bO;omega⟩
   split
   ·exact jq _ _ _ _ fun _=>⟨Mk.refl _,tH jB jH (fun _=>.inr rfl) jH,by unfold bO;omega⟩
   split
   ·exact jq _ _ _ _ fun _=>⟨Mk.refl _,tH jB jH (fun _=>.inl rfl) jH,by unfold bO;omega⟩
   split
   ·rename_i hs
    have hki:=Rd.aT hs;split
    ·have hi:=(Rd.bj h hki.2).1.inv h
     have hr:=Rd.cO h hki;have hm:=bq r.inc (⟨#[40]⟩:ByteArray) (⟨#[41]⟩:ByteArray) hi ht he jB (.inl (by assumption));exact jq _ _ _ _ fun e=>⟨(hm e).1,uE jB ((hm e).2 _ jE),by unfold bO;omega⟩
    ·exact fun e=>(Rd.gm jC e).elim
   split
   ·exact bq r (⟨#[40]⟩:ByteArray) (⟨#[41]⟩:ByteArray) h ht he hn (.inl (by assumption))
   ·exact Dl jC
  ·unfold gW
   have sg:∀t,r.is t=true->∀k ln nm,(k=7\/k=8)->Made r (((gW n r.down.inc).1.up).put k ln 0 nm [(gW n r.down.inc).2]).1 [(((gW n r.down.inc).1.up).put k ln 0 nm [(gW n r.down.inc).2]).2] bO:=fun t ht' k ln nm hk=>by
    obtain⟨he,hkk⟩:=Rd.aT ht';obtain⟨h1,h2,h3,h4,h5,h6⟩:=Rd.bF h he;have htk:r.down.tok=r.tok:=by unfold Rd.tok;rw[h3,h4]
    have s1:=(Rd.bj h1 (by rw[htk];exact hkk)).1;have st:=(yT r).trans (mO r.down);have hr:8*r.down.inc.rem+2<=n:=by
     have hb:=Rd.behind h hkk;unfold Rd.rem at hn ⊢;rw[if_pos he]at hn;have e1:r.down.inc.i=r.i+1:=by show r.down.i+1=_;rw[h3]
     have e2:r.down.inc.l=r.l:=h4;rw[e1,e2];have:=h.pos;split<;>omega
    have hm:=((kg r.down.inc (s1.inv h1) (by rw[st.l];exact ht) hr).pre st).post (yU _);exact jq _ _ _ _ fun e=>⟨(hm e).1,uE jB ((hm e).2 _ jE),by unfold bO;omega⟩
   split
   ·rename_i ht';exact sg _ ht' _ _ _ (.inl rfl)
   split
   ·rename_i ht';exact sg _ ht' _ _ _ (.inr rfl)
   ·exact ia r h ht jB
  ·unfold dJ
   split
   ·exact kg r h ht jB
   ·have s1:=ist.2.2.1 (lv+1) r h
    exact il lv _ r _ (s1.inv h) (by rw[s1.l];exact ht) jB (by have:=s1.rem;omega) (ic (lv+1) r h ht jB jB)
  ·unfold nX
   split
   ·exact hp
   rename_i hnx;have hki:=Rd.aT (Rd.lj hnx);have s1:=(Rd.bj h hki.2).1;have hr:=Rd.cO h hki;have s2:=ist.2.2.1 (lv+1) _ (s1.inv h);have hm:=ic (lv+1) p.1.inc (s1.inv h) (by rw[s1.l];exact ht) jB jB;have h12:=(hp.post (mO _)).seq hm (oV s2);have hput:Made r ((dJ n (lv+1) p.1.inc).1.put 9 ln 0 (p.1.next lv) [p.2,(dJ n (lv+1) p.1.inc).2]).1 [((dJ n (lv+1) p.1.inc).1.put 9 ln 0 (p.1.next lv) [p.2,(dJ n (lv+1) p.1.inc).2]).2] bO:=
    jq _ _ _ _ fun e=>⟨(h12 e).1,Fq (.inr ⟨rfl,Ji hnx⟩) ((h12 e).2.1 _ jE) ((h12 e).2.2 _ jE),by unfold bO;omega⟩
   split
   ·exact hput
   ·have s3:=Rd.cJ (s1.trans s2) (by have:=s2.dw;have:=(Rd.bj h hki.2).2;omega) 9 ln 0 (p.1.next lv) [p.2,(dJ n (lv+1) p.1.inc).2]
    exact il lv ln r _ (s3.inv h) (by rw[s3.l];exact ht) h5 (by
     have e:((dJ n (lv+1) p.1.inc).1.put 9 ln 0 (p.1.next lv) [p.2,(dJ n (lv+1) p.1.inc).2]).1.rem=(dJ n (lv+1) p.1.inc).1.rem:=rfl;show 8*((dJ n (lv+1) p.1.inc).1.put 9 ln 0 (p.1.next lv) [p.2,(dJ n (lv+1) p.1.inc).2]).1.rem+7<=_;rw[e];have:=s2.rem;omega) hput
theorem qO(h:r.Inv)(ht:kn r.l):Made r (cL r).1 [(cL r).2] bO:=(CZ _).2.2.1 0 r h ht jB jB
theorem St.jg{r':Rd}(s:Rd.St r r')(h:kn r.l):kn r'.l:=by rw[s.l];exact h
theorem Fp:∀(n:Nat) (b:Bool) (r0 r:Rd) (L:List Int),r.Inv->kn r.l->Made r0 r L bO->Made r0 (mF n b r L).1 (mF n b r L).2 bO
 |0,_,r0,r,L,h,ht,hm=>by unfold mF;exact hm
 |n+1,false,r0,r,L,h,ht,hm=>by unfold mF;exact hm
 |n+1,true,r0,r,L,h,ht,hm=>by
  have s1:=ju h;have h1:=s1.inv h;have m1:=hm.both (qO h ht) (oV s1);unfold mF;split
  ·rename_i hs
   have s2:=(Rd.bj h1 (Rd.aT hs).2).1;exact Fp n _ r0 _ _ (s2.inv h1) (St.jg s2 (St.jg s1 ht)) (m1.post (mO _))
  ·exact m1
theorem Cu(h:r.Inv)(ht:kn r.l):Made r (mi r).1 [(mi r).2] (fun k=>k=21):=by
 have hs:=zb h;have st:=(uC r).trans (iX r.name.1 (⟨#[40]⟩:ByteArray));have hm:Made r (ns r).1 (ns r).2 bO:=Fp _ _ r _ _ (hs.inv h) (St.jg hs ht) ((Made.nil _ _).pre st);have hm:=hm.post (iX (ns r).1 (⟨#[41]⟩:ByteArray));exact jq _ _ _ _ fun e=>⟨(hm e).1,H7 (hm e).2,rfl⟩
theorem FA(h:r.Inv)(ht:kn r.l):Made r (ld r).1 [(ld r).2] dM:=by
 unfold ld;split
 ·exact jq _ _ _ _ fun _=>⟨Mk.refl _,tH jB jH jH jH,by unfold dM;omega⟩
 split
 ·rename_i hs
  have s1:=(Rd.bj h (Rd.aT hs).2).1;have s2:=s1.trans (Rd.aL (s1.inv h) (⟨#[40]⟩:ByteArray));have hm:=((qO (s2.inv h) (St.jg s2 ht)).pre ((mO r).trans (iX _ _))).post (iX _ (⟨#[41]⟩:ByteArray));exact jq _ _ _ _ fun e=>⟨(hm e).1,uE jB ((hm e).2 _ jE),by unfold dM;omega⟩
 split
 ·exact(Cu h ht).pn fun k hk=>by unfold dM;omega
 ·exact(qO h ht).pn fun k hk=>.inl hk
theorem J4(h:r.Inv)(ht:kn r.l)(he:r.e=0):Made r (oB r).1 [(oB r).2] bO:=by
 have h1:=(Rd.bF h he).1;have s1:=Rd.aL h1 (⟨#[91]⟩:ByteArray);have st:=(yT r).trans (iX r.down (⟨#[91]⟩:ByteArray));exact(qO (s1.inv h1) (by rw[st.l];exact ht)).pre st
theorem PB(h:r.Inv)(ht:kn r.l)(he:r.e=0)(ln:Int):Made r (py r ln).1 [(py r ln).2] dv:=by
 unfold py;split
 ·have hm:=(Cu h ht).post (iX _ (⟨#[59]⟩:ByteArray))
  exact jq _ _ _ _ fun e=>⟨(hm e).1,Iq ((hm e).2 _ jE),by unfold dv;omega⟩
 have s0:=Rd.cZ h;have h0:=s0.inv h;split
 ·rename_i hs
  have he0:=(Rd.aT hs).1;have m1:=J4 h0 (St.jg s0 ht) he0;obtain⟨t1,t2⟩:=xr h0 hs;have sB:Rd.St r.name.1 ((oB r.name.1).1.aq (⟨#[93]⟩:ByteArray)).up:=(BD h0 hs).2;have stl:Still (oB r.name.1).1 (((oB r.name.1).1.aq (⟨#[93]⟩:ByteArray)).up.aq (⟨#[61]⟩:ByteArray)):=((iX _ _).trans (yU _)).trans (iX _ _);have m2:Made (((oB r.name.1).1.aq (⟨#[93]⟩:ByteArray)).up.aq (⟨#[61]⟩:ByteArray)) (uX r.name.1).1 [(uX r.name.1).2] bO:=qO (t1.inv h0) (St.jg t1 (St.jg s0 ht));have hm:=((m1.post stl).both m2 (oV (ju (t1.inv h0)))).post (iX _ (⟨#[59]⟩:ByteArray));have hm:=hm.pre (uC r);exact jq _ _ _ _ fun e=>⟨(hm e).1,Fq (.inl rfl) ((hm e).2 _ jE) ((hm e).2 _ jE),by unfold dv;omega⟩
 ·have s1:=s0.trans (Rd.aL h0 (⟨#[61]⟩:ByteArray))
  have hm:=((FA (s1.inv h) (St.jg s1 ht)).pre ((uC r).trans (iX _ _))).post (iX _ (⟨#[59]⟩:ByteArray));exact jq _ _ _ _ fun e=>⟨(hm e).1,Gm (.inr rfl) ((hm e).2 _ jE),by unfold dv;omega⟩
theorem Ed:∀n,(∀r:Rd,r.Inv->kn r.l->4*r.rem+1<=n->Made r (fO n r).1 [(fO n r).2] (fun k=>k=18))/\
  (∀(r0 r:Rd) L,r.Inv->kn r.l->4*r.rem+3<=n->Made r0 r L dv->Made r0 (l9 n r L).1 (l9 n r L).2 dv)/\
  (∀r:Rd,r.Inv->kn r.l->r.e=0->4*r.rem+2<=n->Made r (nH n r).1 [(nH n r).2] dv)
 |0=>⟨fun r h ht hn=>by omega,fun r0 r L h ht hn hm=>by omega,fun r h ht he hn=>by omega⟩
 |n+1=>by
  obtain⟨ib,il,is_⟩:=Ed n;have ist:=sq n;refine⟨fun r h ht hn=>?_,fun r0 r L h ht hn hm=>?_,fun r h ht he hn=>?_⟩
  ·unfold fO
   split
   ·rename_i hx
    have he:=(Rd.aT hx).1;have hd:=(Rd.bF h he).1;have s1:=Rd.aL hd (⟨#[123]⟩:ByteArray);have st:=(yT r).trans (iX r.down (⟨#[123]⟩:ByteArray));have hr:=(Rd.gf h hx).1;have hm:=il r (r.down.aq (⟨#[123]⟩:ByteArray)) [] (s1.inv hd) (by rw[st.l];exact ht) jB ((Made.nil _ _).pre st);have hm:=(hm.post (iX _ (⟨#[125]⟩:ByteArray))).post (yU _);exact jq _ _ _ _ fun e=>⟨(hm e).1,JG (hm e).2,rfl⟩
   ·exact Dl jC
  ·unfold l9
   split
   ·rename_i hc
    have hn0:0<n:=jB
    obtain⟨s1,s2⟩:=ist.2.2 r h hc.1 hn0;have hm2:=hm.both (is_ r h ht hc.1 jB) (oV s1);exact il r0 _ _ (s1.inv h) (St.jg s1 ht) jB hm2
   ·exact hm
  ·unfold nH
   have word:∀w:ByteArray,w≠⟨#[]⟩->r.word=w->r.inc.Inv/\r.inc.rem+1<=r.rem/\Rd.St r r.inc:=fun w h0 hw=>by
    have hk:=Rd.du (Rd.gl hw h0) jC;exact⟨(Rd.bj h hk.2).1.inv h,Rd.cO h hk,(Rd.bj h hk.2).1⟩
   split
   ·rename_i hw
    obtain⟨h1,h2,s1⟩:=word _ jC hw;have s2:=Rd.cZ h1;have s3:=s2.trans (Rd.aL (s2.inv h1) (⟨#[61]⟩:ByteArray));have hm:=((FA (s3.inv h1) (St.jg s3 ht)).pre ((mO r).trans ((uC r.inc).trans (iX _ _)))).post (iX _ (⟨#[59]⟩:ByteArray));exact jq _ _ _ _ fun e=>⟨(hm e).1,Gm (.inl rfl) ((hm e).2 _ jE),by unfold dv;omega⟩
   split
   ·rename_i hw
    obtain⟨h1,h2,s1⟩:=word _ jC hw;have hm:=((qO h1 (St.jg s1 ht)).pre (mO r)).post (iX _ (⟨#[59]⟩:ByteArray));exact jq _ _ _ _ fun e=>⟨(hm e).1,uE jB ((hm e).2 _ jE),by unfold dv;omega⟩
   split
   ·rename_i hw
    obtain⟨h1,h2,s1⟩:=word _ jC hw;have s2:=ju h1;have s3:=ist.1 _ (s2.inv h1);have hm:=((qO h1 (St.jg s1 ht)).pre (mO r)).seq (ib (cL r.inc).1 (s2.inv h1) (St.jg s2 (St.jg s1 ht)) (by have:=s2.rem;omega)) (oV s3);exact jq _ _ _ _ fun e=>⟨(hm e).1,NJ ((hm e).2.1 _ jE) ((hm e).2.2 _ jE),by unfold dv;omega⟩
   split
   ·rename_i hw
    obtain⟨h1,h2,s1⟩:=word _ jC hw;have s2:=ju h1;have h3:=s2.inv h1;have s3:=ist.1 _ h3;have h4:=s3.inv h3;have hm:=((qO h1 (St.jg s1 ht)).pre (mO r)).seq (ib (cL r.inc).1 h3 (St.jg s2 (St.jg s1 ht)) (by have:=s2.rem;omega)) (oV s3);split
    ·rename_i hx
     have hk:=Rd.aT hx;have s5:=(Rd.bj h4 hk.2).1;have hr5:=Rd.cO h4 hk;have h5:=s5.inv h4;have s6:=ist.1 _ h5;have m3:=(ib (fO n (cL r.inc).1).1.inc h5 (St.jg s5 (St.jg s3 (St.jg s2 (St.jg s1 ht)))) (by have:=s2.rem;have:=s3.rem;omega)).pre (mO _);have he5:=fun e=>oV s5 (oV s6 e)
     exact jq _ _ _ _ fun e=>by
      obtain⟨a1,a2,a3⟩:=hm (he5 e);obtain⟨b1,b2⟩:=m3 e;exact⟨a1.trans b1,LU (by rw[a1.kind b1 jE];exact a2 _ jE) (by rw[a1.kind b1 jE];exact a3 _ jE) (b2 _ jE),by unfold dv;omega⟩
    ·exact jq _ _ _ _ fun e=>⟨(hm e).1,NU ((hm e).2.1 _ jE) ((hm e).2.2 _ jE),by unfold dv;omega⟩
   split
   ·rename_i hw
    obtain⟨h1,h2,s1⟩:=word _ jC hw;split
    ·have hm:=((Made.nil r.inc bO).pre (mO r)).post (iX _ (⟨#[59]⟩:ByteArray))
     exact jq _ _ _ _ fun e=>⟨(hm e).1,tH jB jH jH jH,by unfold dv;omega⟩
    ·have hm:=((qO h1 (St.jg s1 ht)).pre (mO r)).post (iX _ (⟨#[59]⟩:ByteArray))
     exact jq _ _ _ _ fun e=>⟨(hm e).1,uE jB ((hm e).2 _ jE),by unfold dv;omega⟩
   ·exact PB h ht he _
theorem OB(h:r.Inv)(ht:kn r.l):Made r (n6 r).1 [(n6 r).2] (fun k=>k=18):=(Ed _).1 r h ht jB
-- functions
structure qM(f:aW):Prop where
 ps:∀p∈f.params,1<=p.ty/\p.ty<=4
 ret:0<=f.ret/\f.ret<=4
theorem Ke(w:ByteArray):0<=rR w/\rR w<=4:=by
 unfold rR;repeat' split
 all_goals omega
theorem Gk(r:Rd):Still r (iu r).1:=by
 unfold iu;split
 ·exact xy r jC
 ·exact mO r
theorem EA(he:(iu r).1.e=0):1<=(iu r).2/\(iu r).2<=4:=by
 unfold iu at he ⊢;split
 ·rename_i h
  rw[if_pos h]at he;exact(Rd.gm jC he).elim
 ·have:=Ke r.word
  simp only;omega
theorem Eh:∀(n:Nat) (b:Bool) (r:Rd) (L:List bD),Still r (ma n b r L).1/\((ma n b r L).1.e=0->(∀p∈L,1<=p.ty/\p.ty<=4)->∀p∈(ma n b r L).2,1<=p.ty/\p.ty<=4)
 |0,_,r,L=>by unfold ma;exact⟨.refl r,fun _ h=>h⟩
 |n+1,false,r,L=>by unfold ma;exact⟨.refl r,fun _ h=>h⟩
 |n+1,true,r,L=>by
  have st:Still r (pC r):=(uC r).trans (Gk _);have hL:(pC r).e=0->(∀p∈L,1<=p.ty/\p.ty<=4)->∀p∈L++[⟨r.name.2,(iu r.name.1).2⟩],1<=p.ty/\p.ty<=4:=fun e h p hp=>by
   rcases List.mem_append.1 hp with hp|hp
   ·exact h p hp
   ·rw[List.mem_singleton.1 hp];exact EA e
  unfold ma;split
  ·obtain⟨a,b⟩:=Eh n true (pC r).inc (L++[⟨r.name.2,(iu r.name.1).2⟩])
   exact⟨st.trans ((mO _).trans a),fun e h=>b e (hL (a.err e) h)⟩
  ·exact⟨st,hL⟩
theorem HD(h:r.Inv)(ht:kn r.l):Made r (mc r).1 [(mc r).2.body] (fun k=>k=18)/\((mc r).1.e=0->qM (mc r).2):=by
 have h1:=(pV h).1.inv h;have h2:=(xL h).inv h1;obtain⟨a,b⟩:=Eh ((mo r).rem+2) (more (mo r)) (mo r) [];have stA:Still r (mo r):=((iX r (⟨#[102,110]⟩:ByteArray)).trans (uC _)).trans (iX _ _);have vR:Still r (kW r):=(stA.trans a).trans (iX _ _);have stD:Still (kW r) (lT r).1:=by
  unfold lT;split
  ·exact .refl _
  ·exact Gk _
 have hb:=OB h2 (by rw[(vR.trans stD).l];exact ht);refine⟨hb.pre (vR.trans stD),fun e=>?_⟩;have e2:(lT r).1.e=0:=oV (zv h2) e;have e1:(kW r).e=0:=stD.err e2;have e0:(su r).1.e=0:=(iX _ _).err e1;refine⟨b e0 (fun p hp=>by simp at hp),?_⟩;show 0<=(lT r).2/\(lT r).2<=4;unfold lT at e2 ⊢;split
 ·simp
 ·rename_i hc
  rw[if_neg hc]at e2;have:=EA e2;omega
theorem GV:∀(n:Nat) (r0 r:Rd) (L:List aW),r.Inv->kn r.l->Made r0 r (L.map (·.body)) (fun k=>k=18)->(r.e=0->∀f∈L,qM f)->
  Made r0 (p7 n r L).1 ((p7 n r L).2.map (·.body)) (fun k=>k=18)/\((p7 n r L).1.e=0->∀f∈(p7 n r L).2,qM f)
 |0,r0,r,L,h,ht,hm,hf=>by unfold p7;exact⟨hm,hf⟩
 |n+1,r0,r,L,h,ht,hm,hf=>by
  unfold p7;split
  ·have s1:=(Gx h).1
   obtain⟨a,b⟩:=HD h ht;refine GV n r0 _ _ (s1.inv h) (St.jg s1 ht) ?_ fun e f hf'=>?_
   ·rw[List.map_append]
    exact hm.both a (oV s1)
   ·rcases List.mem_append.1 hf' with h'|h'
    ·exact hf (oV s1 e) f h'
    ·rw[List.mem_singleton.1 h'];exact b e
  ·exact⟨hm,hf⟩
structure aH(t:ax):Prop where
 chain:aG t.nodes 0 (t.ap.map (·.body)) t.nodes.length
 shape:∀k,k<t.nodes.length->Shape t.nodes (nth t.nodes k)/\(∀a∈(nth t.nodes k).l,0<=a/\a.toNat<k)/\∃lo,aG t.nodes lo (nth t.nodes k).l k
 body:∀f∈t.ap,bs t.nodes f.body=18
 fn:∀f∈t.ap,qM f/\f.params.length<=3
 many:t.nodes.length<=300
 ap:t.ap.length<=6
variable{s:ByteArray}
theorem Qd{a:Nat}(h:(nR s a).2.2=0):(nR s a).1.size<=12:=by
 unfold nR at h ⊢;simp only at h ⊢;split at h<;>rename_i h1
 ·rw[if_pos h1]
  split at h<;>rename_i h2
  ·cases h
  ·rw[if_neg h2]
   simp only[ByteArray.size_extract];omega
 ·cases h
theorem KB{a:Nat}(h:(gB s a).2.2=0)(hk:(gB s a).1.kind=2):(gB s a).1.text.size<=12:=by
 unfold gB at h hk ⊢;split at h<;>rename_i h1
 ·rw[if_pos h1]at hk ⊢
  split at h<;>rename_i h2
  ·rw[if_pos h2]at hk;cases hk
  ·cases h
 rw[if_neg h1]at hk ⊢;split at h<;>rename_i h2
 ·rw[if_pos h2]at hk ⊢
  split at h<;>rename_i h3
  ·rw[if_pos h3]at hk;cases hk
  ·rw[if_neg h3]at hk ⊢
   split at h<;>rename_i h4
   ·cases h
   ·rw[if_neg h4]at hk;cases hk
 rw[if_neg h2]at hk ⊢;split at h<;>rename_i h3
 ·rw[if_pos h3]at hk ⊢
  exact Qd h
 ·rw[if_neg h3]at hk
  split at h<;>rename_i h4
  ·cases h
  ·rw[if_neg h4]at hk;cases hk
theorem Cp(s:ByteArray):∀(n i:Nat) (out:List cd),(lf s n i out).2.2=0->(∀t∈out,t.kind=2->t.text.size<=12)->∀t∈(lf s n i out).1,t.kind=2->t.text.size<=12
 |0,i,out,he,ho=>by unfold lf;exact ho
 |n+1,i,out,he,ho=>by
  unfold lf at he ⊢;split at he<;>rename_i hi
  ·rw[if_pos hi]
   split at he<;>rename_i h3
   ·rw[if_pos h3]
    refine Cp s n _ _ he fun t ht=>?_
    rcases List.mem_append.1 ht with ht|ht
    ·exact ho t ht
    ·rw[List.mem_singleton.1 ht];exact KB h3
   ·exact(h3 he).elim
  ·rw[if_neg hi]
   intro t ht;rcases List.mem_append.1 ht with ht|ht
   ·exact ho t ht
   ·rw[List.mem_singleton.1 ht];intro h;cases h
theorem Oo(he:(j4 s).2.2=0):kn (oh s).l:=by
 have:∀t∈(j4 s).1,t.kind=2->t.text.size<=12:=by
  unfold j4 at he ⊢;split at he<;>rename_i h
  ·cases he
  ·rw[if_neg h]
   exact Cp s _ _ _ he (fun t ht=>by simp at ht)
 intro k hk;exact this _ (dx hk)
theorem vE(h:(gu s).2.2=0):aH (gu s).1:=by
 unfold gu at h ⊢;split at h<;>rename_i h1
 ·exact(h1 h).elim
 rw[if_neg h1];split at h<;>rename_i h2
 ·exact(h2 h).elim
 rw[if_neg h2];split at h<;>rename_i h3
 ·cases h
 rw[if_neg h3];have he:(j4 s).2.2=0:=jB
 have hf:(nC s).1.e=0:=jB
 obtain⟨a,b⟩:=GV ((oh s).rem+1) (oh s) (oh s) [] (CL he) (Oo he) (Made.nil _ _) (fun _ f hf=>by simp at hf);obtain⟨a1,a2⟩:=a hf;simp only[tv,Bool.or_eq_true,decide_eq_true_eq,not_or,List.any_eq_true,not_exists,not_and]at h3;refine⟨a1.chain,fun k hk=>a1.shape k (Nat.zero_le _) hk,fun f hf=>a2 _ (List.mem_map.2 ⟨f,hf,rfl⟩),fun f hff=>⟨b hf f hff,by have:=h3.2 f hff;omega⟩,by show(nC s).1.nodes.length<=300;omega,by show(nC s).2.length<=6;omega⟩
structure Ck where
 aa:ax
 types:List Int
 slots:List Int
 ap:List Int
 aM:List Int
 fn:Int
 vars:List bC
 more:List bC
 size:Int
 e:Int
 at_:Int
 deriving Inhabited
def fX{α:Type}(f:α->ByteArray)(name:ByteArray):List α->Int->Int
 |[],_=>-1
 |v::l,i=>if f v=name then i else fX f name l (i+1)
def iF{α:Type}(f:α->ByteArray)(name:ByteArray):List α->Int->Int->Int
 |[],_,k=>k
 |v::l,i,k=>iF f name l (i+1) (if f v=name then i else k)
def gJ(sign:ByteArray)(a b:Int):Int:=
 if a≠b then 0
 else if sign=(⟨#[124,124]⟩:ByteArray)\/sign=(⟨#[38,38]⟩:ByteArray)then(if a=2 then 2 else 0)
 else if sign=(⟨#[60]⟩:ByteArray)\/sign=(⟨#[60,61]⟩:ByteArray)then(if a=1 then 2 else 0)
 else if sign=(⟨#[61,61]⟩:ByteArray)\/sign=(⟨#[33,61]⟩:ByteArray)then(if a=1\/a=2\/a=3 then 2 else 0)
 else if sign=(⟨#[43]⟩:ByteArray)then(if a=1\/a=3 then a else 0)
 else(if a=1 then 1 else 0)
namespace Ck
def node(c:Ck)(a:Int):bh:=nth c.aa.nodes a.toNat
def aw(c:Ck)(a:Int)(i:Nat):Int:=nth (c.node a).l i
def aE(c:Ck)(e a:Int):Ck:=if c.e=0 then{ c with e:=e,at_:=a }else c
def aq(c:Ck)(ok:Bool)(a:Int):Ck:=if ok=true then c else c.aE 42 a
def find(c:Ck)(name:ByteArray):Int:=fX bC.name name c.vars 0
def slot(c:Ck)(a s:Int):Ck:={ c with slots:=c.slots.set a.toNat s }
def named(c:Ck)(a:Int):Ck×Int:=
 if c.find (c.node a).name<0 then(c.aE 40 a,0)
 else(c.slot a (nth c.vars (c.find (c.node a).name).toNat).slot,(nth c.vars (c.find (c.node a).name).toNat).ty)
def note(c:Ck)(a t:Int):Ck:={ c with types:=c.types.set a.toNat t,ap:=c.ap.set a.toNat c.fn }
def ac(c:Ck)(a:Int):Ck:={ c with ap:=c.ap.set a.toNat c.fn }
end Ck
def fA(ex:Ck->Int->Ck×Int):Ck->List Int->List Int->Ck×List Int
 |c,[],ts=>(c,ts)
 |c,a::l,ts=>if c.e=0 then fA ex (ex c a).1 l (ts++[(ex c a).2])else(c,ts)
def gx(a:Int):Ck->List Int->List bD->Ck
 |c,t::ts,p::ps=>if c.e=0 then gx a (c.aq (decide (t=p.ty)) a) ts ps else c
 |c,_,_=>c
def fb(c:Ck)(a:Int):Int:=iF aW.name (c.node a).name c.aa.ap 0 (-1)
def gh(ex:Ck->Int->Ck×Int)(c:Ck)(a:Int):Ck×Int:=
 if fb c a<0 then(c.aE 40 a,0)
 else
  let f:=nth c.aa.ap (fb c a).toNat
  let p:=fA ex c (c.node a).l []
  let c1:=if(c.node a).l.length≠f.params.length then p.1.aE 43 a else p.1
  (gx a c1 p.2 f.params,f.ret)
def bU(ex:Ck->Int->Ck×Int)(c:Ck)(a:Int):Ck×Int:=
 let k:=(c.node a).kind
 if k=1\/k=19 then(c,1)
 else if k=2 then(c,2)
 else if k=3 then(c,3)
 else if k=4 then c.named a
 else if k=21 then gh ex c a
 else if k=5 then
  let p:=c.named a
  let x:=ex p.1 (c.aw a 0)
  (x.1.aq (decide (p.2=4) && decide (x.2=1)) a,1)
 else if k=9 then
  let x:=ex c (c.aw a 0)
  let y:=ex x.1 (c.aw a 1)
  let t:=gJ (c.node a).name x.2 y.2
  (y.1.aq (!decide (t=0)) a,t)
 else
  let x:=ex c (c.aw a 0)
  if k=6 then(x.1.aq (decide (x.2=3) || decide (x.2=4)) a,1)
  else if k=7 then(x.1.aq (decide (x.2=1)) a,1)
  else if k=8 then(x.1.aq (decide (x.2=2)) a,2)
  else(x.1.aq (decide (x.2=1)) a,4)
def ar:Nat->Ck->Int->Ck×Int
 |0,c,_=>(c,0)
 |n+1,c,a=>if c.e≠0 then(c,0)else((bU (ar n) c a).1.note a (bU (ar n) c a).2,(bU (ar n) c a).2)
def oj(ex:Ck->Int->Ck×Int)(c:Ck)(a:Int):Ck:=
 let x:=ex c (c.aw a 0)
 let c1:=x.1.aq (!decide (x.2=0)) a
 let c2:=if 0<=c1.find (c.node a).name then c1.aE 41 a else c1
 let c3:=if 24<=c2.size then c2.aE 4 a else c2
 { (c3.slot a c3.size)with vars:=c3.vars++[⟨(c.node a).name,x.2,c3.size⟩],more:=c3.more.drop 1,size:=c3.size+1 }
def jw(ex:Ck->Int->Ck×Int)(c:Ck)(a:Int):Ck:=
 let ret:=(nth c.aa.ap c.fn.toNat).ret
 let l:=(c.node a).l
 if decide (l.length=1)≠(!decide (ret=0))then c.aE 43 a
 else if l.length=1 then
  let x:=ex c (c.aw a 0)
  x.1.aq (decide (x.2=ret)) a
 else c
def cY(st:Ck->Int->Ck):Ck->List Int->Ck
 |c,[]=>c
 |c,a::l=>if c.e=0 then cY st (st c a) l else c
def dR(st:Ck->Int->Ck)(c:Ck)(a:Int):Ck:=
 let c1:=cY st (c.ac a) (c.node a).l
 { c1 with vars:=c1.vars.take (min c.vars.length c1.vars.length),more:=c1.vars.drop (min c.vars.length c1.vars.length)++c1.more }
def bu:Nat->Ck->Int->Ck
 |0,c,_=>c
 |n+1,c0,a=>
  let c:=c0.ac a
  let k:=(c.node a).kind
  if k=10 then oj (ar n) c a
  else if k=11 then
   let p:=c.named a
   let x:=ar n p.1 (c.aw a 0)
   x.1.aq (decide (p.2=x.2)) a
  else if k=12 then
   let p:=c.named a
   let x:=ar n p.1 (c.aw a 0)
   let y:=ar n x.1 (c.aw a 1)
   y.1.aq (decide (p.2=4) && decide (x.2=1) && decide (y.2=1)) a
  else if k=13 then(ar n c (c.aw a 0)).1
  else if k=14 then
   let x:=ar n c (c.aw a 0)
   x.1.aq (!decide (x.2=4)) a
  else if k=17 then jw (ar n) c a
  else
   let x:=ar n c (c.aw a 0)
   cY (dR (bu n)) (x.1.aq (decide (x.2=2)) a) ((c.node a).l.drop 1)
def dD(body:Int):Ck->List bD->Int->Ck
 |c,[],_=>c
 |c,p::ps,i=>
  let c1:=if 0<=c.find p.name then c.aE 41 body else c
  dD body { c1 with vars:=c1.vars++[⟨p.name,p.ty,i⟩],more:=c1.more.drop 1,size:=c1.size+1 } ps (i+1)
def ff(c:Ck)(k:Nat):Ck:=
 let f:=nth c.aa.ap k
 let c1:=dD f.body { c with fn:=k,vars:=[],more:=[],size:=0 } f.params 0
 let c2:=if c1.e=0 then dR (bu c.aa.nodes.length) c1 f.body else c1
 { c2 with aM:=c2.aM++[c2.size],vars:=[],more:=[] }
def lD(x:aW):Ck->List aW->Ck
 |c,[]=>c
 |c,f::l=>lD x (if f.name=x.name then c.aE 41 x.body else c) l
def uf(f:aW):Bool:=decide (f.name=(⟨#[109,97,105,110]⟩:ByteArray)) && decide ((f.params.length:Int)=0) && decide (f.ret=0)
def kF(ap:List aW):Ck->Bool->Nat->Nat->Ck×Bool
 |c,m,_,0=>(c,m)
 |c,m,i,n+1=>kF ap (lD (nth ap i) c (ap.take i)) (m || uf (nth ap i)) (i+1) n
def iN(c:Ck):Ck:=
 let p:=kF c.aa.ap c false 0 c.aa.ap.length
 if p.2=true then p.1 else p.1.aE 44 0
def fj:Ck->Nat->Nat->Ck
 |c,_,0=>c
 |c,i,n+1=>if c.e=0 then fj (ff c i) (i+1) n else c
def iY(t:ax):Ck:=⟨t,t.nodes.map fun _=>0,t.nodes.map fun _=>-1,t.nodes.map fun _=>0,[],0,[],[],0,0,0⟩
def gU(t:ax):Ck:=fj (iN (iY t)) 0 t.ap.length
def kR:ab:=⟨⟨[],[]⟩,[],[],[],[]⟩
def Ck.prog(c:Ck):ab:=⟨c.aa,c.types,c.slots,c.ap,c.aM⟩
def gC(t:ax):ab×Int×Int:=if(gU t).e≠0 then(kR,(gU t).at_,(gU t).e)else((gU t).prog,0,0)
def ga(s:ByteArray):ab×Int×Int:=
 if(gu s).2.2≠0 then(kR,(gu s).2.1,(gu s).2.2)
 else
  let q:=gC (gu s).1
  if q.2.2=44 then(kR,0,44)
  else if q.2.2≠0 then(kR,(nth (gu s).1.nodes q.2.1.toNat).cu,q.2.2)
  else(q.1,0,0)
def df(slots:List ak)(k t:Int):ak:=
 if k<0\/(slots.length:Int)<=k then vZ t
 else if jU (nth slots k.toNat)=true/\(nth slots k.toNat).ty=t then nth slots k.toNat else vZ t
def lg(heap:List (List Int))(v:ak):List Int:=if v.ty≠4\/v.n<1\/(heap.length:Int)<v.n then[]else nth heap (v.n-1).toNat
def dZ(p:ab)(slots:List ak)(heap:List (List Int)):Nat->Int->ak×Int
 |0,_=>(v0,0)
 |n+1,a=>
  let nd:=nth p.aa.nodes a.toNat
  let x:=dZ p slots heap n (nth nd.l 0)
  let y:=dZ p slots heap n (nth nd.l 1)
  if nd.kind=1 then(vI nd.n,0)
  else if nd.kind=2 then(vB (decide (nd.n=1)),0)
  else if nd.kind=3 then(vT nd.name,0)
  else if nd.kind=4 then(df slots (nth p.slots a.toNat) (nth p.types a.toNat),0)
  else if x.2≠0 then(v0,x.2)
  else if nd.kind=5 then
   (if x.1.n<0\/((lg heap (df slots (nth p.slots a.toNat) 4)).length:Int)<=x.1.n then(v0,2)else(vI (nth (lg heap (df slots (nth p.slots a.toNat) 4)) x.1.n.toNat),0))
  else if nd.kind=9 then
   (if(nd.name=(⟨#[124,124]⟩:ByteArray)/\x.1.n=1)\/(nd.name=(⟨#[38,38]⟩:ByteArray)/\x.1.n=0)then(x.1,0)
   else if y.2≠0 then(v0,y.2)else ki nd.name x.1 y.1)
  else if nd.kind=6 then(if x.1.ty=3 then(vI x.1.s.size,0)else(vI (lg heap x.1).length,0))
  else if nd.kind=7 then(kI (⟨#[45]⟩:ByteArray) x.1,0)
  else(kI (⟨#[33]⟩:ByteArray) x.1,0)
end Go.Gd
