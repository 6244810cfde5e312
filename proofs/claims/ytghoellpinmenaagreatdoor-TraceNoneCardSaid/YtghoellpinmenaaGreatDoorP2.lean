/- Lemmas. No conditions. -/
import Derived.Test.YtghoellpinmenaaGreatDoorLxT
set_option linter.all false
set_option maxHeartbeats 4000000
set_option maxRecDepth 10000
namespace Go.Gd
open Go
def lB{α:Type}[Inhabited α]{a b:List α}{i:Nat}(h:i<a.length):nth (a++b) i=nth a i:=by simp[nth,List.getD_eq_getElem?_getD,List.getElem?_append_left h]
def oE{α:Type}[Inhabited α](a:List α)(x:α):nth (a++[x]) a.length=x:=by simp[nth,List.getD_eq_getElem?_getD]
def bJ(t:List bl)(i:Int):Int:=(nth t i.toNat).kind
def cr(k:Int):Prop:=1<=k/\k<=9
def ff(k:Int):Prop:=cr k\/k=19\/k=20\/k=21
def fB(k:Int):Prop:=10<=k/\k<=17
def sV:List P0:=[(⟨#[124,124]⟩:P0),(⟨#[38,38]⟩:P0),(⟨#[60]⟩:P0),(⟨#[60,61]⟩:P0),(⟨#[61,61]⟩:P0),(⟨#[33,61]⟩:P0),(⟨#[43]⟩:P0),(⟨#[45]⟩:P0),(⟨#[42]⟩:P0),(⟨#[47]⟩:P0),(⟨#[37]⟩:P0)]
structure Shape(t:List bl)(n:bl):Prop where
 any:1<=n.kind/\n.kind<=21
 zero:n.kind=1\/n.kind=2\/n.kind=3\/n.kind=4\/n.kind=19->n.l=[]
 one:n.kind=5\/n.kind=6\/n.kind=7\/n.kind=8\/n.kind=14\/n.kind=20->∃a,n.l=[a]/\cr (bJ t a)
 two:n.kind=9\/n.kind=12->∃a b,n.l=[a,b]/\cr (bJ t a)/\cr (bJ t b)
 right:n.kind=10\/n.kind=11->∃a,n.l=[a]/\ff (bJ t a)
 oN:n.kind=13->∃a,n.l=[a]/\bJ t a=21
 jM:n.kind=15->∃a b,cr (bJ t a)/\bJ t b=18/\(n.l=[a,b]\/∃d,n.l=[a,b,d]/\bJ t d=18)
 dH:n.kind=16->∃a b,n.l=[a,b]/\cr (bJ t a)/\bJ t b=18
 ret:n.kind=17->n.l=[]\/∃a,n.l=[a]/\cr (bJ t a)
 block:n.kind=18->∀a∈n.l,fB (bJ t a)
 call:n.kind=21->∀a∈n.l,cr (bJ t a)
 num:n.kind=1->∃s,pd s/\n.n=nB s
 bool:n.kind=2->n.n=0\/n.n=1
 text:n.kind=3->n.name.size<=12
 sign:n.kind=9->n.name∈sV
inductive aR(t:List bl):Nat->List Int->Nat->Prop
 |nil (k:Nat):aR t k [] k
 |cons {lo c hi:Nat} {L:List Int} (hc:c<t.length) (h1:aR t lo (nth t c).l c) (h2:aR t (c+1) L hi):aR t lo ((c:Int)::L) hi
variable{t:List bl}{lo hi:Nat}{L:PY}
def aR.le(h:aR t lo L hi):lo<=hi:=by
 induction h with
 |nil=>exact Nat.le_refl _
 |cons _ _ _ i1 i2=>omega
def aR.mem(h:aR t lo L hi):∀a∈L,0<=a/\lo<=a.toNat/\a.toNat<hi/\a.toNat<t.length:=by
 induction h with
 |nil=>intro a ha;simp at ha
 |@cons lo c hi L hc h1 h2 i1 i2=>
  intro a ha;have l1:=h1.le;have l2:=h2.le;rcases List.mem_cons.1 ha with rfl|ha
  ·exact⟨jB,by simpa using l1,by simp;omega,by simpa using hc⟩
  ·have:=i2 a ha;omega
variable{u:List bl}
def aR.mono(h:aR t lo L hi):aR (t++u) lo L hi:=by
 induction h with
 |nil k=>exact .nil k
 |cons hc _ _ i1 i2=>exact .cons jF (by rw[lB hc];exact i1) i2
variable{M:PY}
def aR.append{mid:Nat}(h:aR t lo L mid):aR t mid M hi->aR t lo (L++M) hi:=by
 induction h with
 |nil=>intro k;exact k
 |cons hc h1 _ _ i2=>intro k;exact .cons hc h1 (i2 k)
def aR.one{c:Nat}(hc:c<t.length)(h:aR t lo (nth t c).l c):aR t lo [(c:Int)] (c+1):=.cons hc h (.nil _)
def lr{a:Int}(h:a.toNat<t.length):bJ (t++u) a=bJ t a:=by unfold bJ;rw[lB h]
def Shape.mono{n:bl}(h:Shape t n)(hl:∀a∈n.l,a.toNat<t.length):Shape (t++u) n where
 any:=h.any
 zero:=h.zero
 one:=fun e=>by obtain⟨a,h1,h2⟩:=h.one e;exact⟨a,h1,by rw[lr (hl a (by rw[h1];simp))];exact h2⟩
 two:=fun e=>by obtain⟨a,b,h1,h2,h3⟩:=h.two e;exact⟨a,b,h1,by rw[lr (hl a (by rw[h1];simp))];exact h2,by rw[lr (hl b (by rw[h1];simp))];exact h3⟩
 right:=fun e=>by obtain⟨a,h1,h2⟩:=h.right e;exact⟨a,h1,by rw[lr (hl a (by rw[h1];simp))];exact h2⟩
 oN:=fun e=>by obtain⟨a,h1,h2⟩:=h.oN e;exact⟨a,h1,by rw[lr (hl a (by rw[h1];simp))];exact h2⟩
 jM:=fun e=>by
  obtain⟨a,b,h1,h2,h3⟩:=h.jM e;rcases h3 with h3|⟨d,h3,h4⟩
  ·exact⟨a,b,by rw[lr (hl a (by rw[h3];simp))];exact h1,by rw[lr (hl b (by rw[h3];simp))];exact h2,.inl h3⟩
  ·exact⟨a,b,by rw[lr (hl a (by rw[h3];simp))];exact h1,by rw[lr (hl b (by rw[h3];simp))];exact h2,.inr ⟨d,h3,by rw[lr (hl d (by rw[h3];simp))];exact h4⟩⟩
 dH:=fun e=>by obtain⟨a,b,h1,h2,h3⟩:=h.dH e;exact⟨a,b,h1,by rw[lr (hl a (by rw[h1];simp))];exact h2,by rw[lr (hl b (by rw[h1];simp))];exact h3⟩
 ret:=fun e=>by
  rcases h.ret e with h1|⟨a,h1,h2⟩
  ·exact .inl h1
  ·exact .inr ⟨a,h1,by rw[lr (hl a (by rw[h1];simp))];exact h2⟩
 block:=fun e a ha=>by rw[lr (hl a ha)];exact h.block e a ha
 call:=fun e a ha=>by rw[lr (hl a ha)];exact h.call e a ha
 num:=h.num
 bool:=h.bool
 text:=h.text
 sign:=h.sign
def aR.len(h:aR t lo L hi):L.length+lo<=hi:=by
 induction h with
 |nil=>simp
 |@cons lo c hi L hc h1 h2 i1 i2=> have:=h1.le;simp only[List.length_cons];omega
structure Mk(t t':List bl)(L:List Int):Prop where
 pre:∃u,t'=t++u
 chain:aR t' t.length L t'.length
 shape:∀k,t.length<=k->k<t'.length->Shape t' (nth t' k)/\(∀a∈(nth t' k).l,0<=a/\a.toNat<k)/\∃lo,aR t' lo (nth t' k).l k
def Mk.refl(t:List bl):Mk t t []:=⟨⟨[],jE⟩,.nil _,fun k h1 h2=>jB⟩
variable{a b:List bl}
def Mk.trans{c:List bl}(h:Mk a b L)(k:Mk b c M):Mk a c (L++M):=by
 obtain⟨⟨u,rfl⟩,h2,h3⟩:=h;obtain⟨⟨v,rfl⟩,k2,k3⟩:=k;refine⟨⟨u++v,jE⟩,h2.mono.append k2,fun i h4 h5=>?_⟩;by_cases hi:i<(a++u).length
 ·obtain⟨g1,g2,lo,g3⟩:=h3 i h4 hi;rw[lB hi];exact⟨g1.mono fun x hx=>by have:=g2 x hx;omega,g2,lo,g3.mono⟩
 ·exact k3 i jB h5
def Mk.put(h:Mk a b L)(n:bl)(hn:n.l=L)(hs:Shape b n):Mk a (b++[n]) [(b.length:Int)]:=by
 obtain⟨⟨u,rfl⟩,h2,h3⟩:=h;have hm:∀x∈n.l,0<=x/\x.toNat<(a++u).length:=fun x hx=>by rw[hn]at hx;exact⟨(h2.mem x hx).1,(h2.mem x hx).2.2.1⟩
 refine⟨⟨u++[n],jE⟩,?_,fun i h4 h5=>?_⟩
 ·have e:((a++u)++[n]).length=(a++u).length+1:=by simp only[List.length_append,List.length_cons,List.length_nil]
  rw[e];refine aR.one jE ?_;rw[oE,hn];exact h2.mono
 ·by_cases hi:i<(a++u).length
  ·obtain⟨g1,g2,lo,g3⟩:=h3 i h4 hi;rw[lB hi];exact⟨g1.mono fun x hx=>by have:=g2 x hx;omega,g2,lo,g3.mono⟩
  ·have:i=(a++u).length:=by simp at h5 hi ⊢;omega
   subst this;rw[oE];exact⟨hs.mono fun x hx=>(hm x hx).2,hm,a.length,by rw[hn];exact h2.mono⟩
def Mk.kind{c:List bl}(h:Mk a b L)(k:Mk b c M){x:Int}(hx:x∈L):bJ c x=bJ b x:=by obtain⟨⟨v,rfl⟩,_,_⟩:=k;exact lr (h.chain.mem x hx).2.2.2
def Ic(t:List bl)(n:bl):bJ (t++[n]) (t.length:Int)=n.kind:=by unfold bJ;rw[Int.toNat_natCast,oE]
def jR(l:List bZ):Prop:=∀k,k<l.length->(nth l k).kind=2->(nth l k).text.size<=12
def Made(r r':Rd)(L:PY)(C:Int->Prop):Prop:=r'.e=0->Mk r.nodes r'.nodes L/\∀a∈L,C (bJ r'.nodes a)
structure Still(r r':Rd):Prop where
 nodes:r'.nodes=r.nodes
 err:r'.e=0->r.e=0
 l:r'.l=r.l
def Still.refl(r:Rd):Still r r:=⟨rfl,id,rfl⟩
theorem Still.trans{a b c:Rd}(h:Still a b)(k:Still b c):Still a c:=⟨k.nodes.trans h.nodes,fun e=>h.err (k.err e),k.l.trans h.l⟩
def yn(r:Rd){e:Int}(he:e≠0):Still r (r.aD e):=⟨Rd.dr _ _,fun h=>(Rd.fH he h).elim,Rd.fI _ _⟩
def lz(r:Rd):Still r r.inc:=⟨rfl,id,rfl⟩
def vU(r:Rd):Still r r.up:=⟨rfl,id,rfl⟩
def ij(r:Rd)(t:P0):Still r (r.ar t):=by
 unfold Rd.ar;split
 ·exact lz r
 ·exact yn r jC
def tz(r:Rd):Still r r.name.1:=by
 unfold Rd.name;split
 ·exact lz r
 ·exact yn r jC
def xO(r:Rd):Still r r.down:=by
 unfold Rd.down;split
 ·have:=yn r (e:=21) jC;exact⟨this.nodes,this.err,this.l⟩
 ·exact⟨rfl,id,rfl⟩
variable{r a b:Rd}{C:Int->Prop}
def Made.pre(s:Still r a)(h:Made a b L C):Made r b L C:=fun e=>by have:=h e;rwa [s.nodes]at this
def Made.post(h:Made r a L C)(s:Still a b):Made r b L C:=fun e=>by have:=h (s.err e);rwa [s.nodes]
def Made.nil(r:Rd)(C:Int->Prop):Made r r [] C:=fun _=>⟨Mk.refl _,fun a ha=>by simp at ha⟩
def Made.nV{D:Int->Prop}(h:Made r a L C)(hc:∀k,C k->D k):Made r a L D:=fun e=>⟨(h e).1,fun a ha=>hc _ ((h e).2 a ha)⟩
def Made.seq{c:Rd}{D:Int->Prop}(h:Made a b L C)(k:Made b c M D)(he:c.e=0->b.e=0):c.e=0->Mk a.nodes c.nodes (L++M)/\(∀x∈L,C (bJ c.nodes x))/\∀x∈M,D (bJ c.nodes x):=fun e=>by obtain⟨h1,h2⟩:=h (he e);obtain⟨k1,k2⟩:=k e;exact⟨h1.trans k1,fun x hx=>by rw[h1.kind k1 hx];exact h2 x hx,k2⟩
def Made.both{c:Rd}(h:Made a b L C)(k:Made b c M C)(he:c.e=0->b.e=0):Made a c (L++M) C:=fun e=>by obtain⟨h1,h2,h3⟩:=h.seq k he e;exact⟨h1,fun x hx=>(List.mem_append.1 hx).elim (h2 x) (h3 x)⟩
def iK(k ln n:Int)(nm:P0)(h:a.e=0->Mk r.nodes a.nodes L/\Shape a.nodes ⟨k,ln,n,nm,L⟩/\C k):Made r (a.put k ln n nm L).1 [(a.put k ln n nm L).2] C:=fun e=>by obtain⟨h1,h2,h3⟩:=h e;refine⟨h1.put _ rfl h2,fun x hx=>?_⟩;rw[List.mem_singleton.1 hx];show C (bJ (a.nodes++[_]) (a.nodes.length:Int));rw[Ic];exact h3
variable{k ln n:Int}{nm:P0}
def rq(hk:k=1\/k=2\/k=3\/k=4\/k=17\/k=19)(h1:k=1->∃s,pd s/\n=nB s)(h2:k=2->n=0\/n=1)(h3:k=3->nm.size<=12):Shape t ⟨k,ln,n,nm,[]⟩:=by constructor<;>(try simp only)<;>intros<;>first|(clear h1 h2 h3;omega)|(clear h1 h2 h3;exfalso;omega)|trivial|rfl|(exact .inl rfl)|(exact .inl trivial)|(refine h1 ?_;assumption)|(refine h2 ?_;assumption)|(refine h3 ?_;assumption)|fail
variable{a:Int}
def tK(hk:k=5\/k=6\/k=7\/k=8\/k=14\/k=17\/k=20)(h:cr (bJ t a)):Shape t ⟨k,ln,n,nm,[a]⟩:=by constructor<;>(try simp only)<;>intros<;>first|omega|omega|trivial|(exact⟨a,rfl,h⟩)|(exact .inr ⟨a,rfl,h⟩)
def De(hk:k=10\/k=11)(h:ff (bJ t a)):Shape t ⟨k,ln,n,nm,[a]⟩:=by constructor<;>(try simp only)<;>intros<;>first|omega|omega|trivial|(exact⟨a,rfl,h⟩)
def JG(h:bJ t a=21):Shape t ⟨13,ln,n,nm,[a]⟩:=by constructor<;>(try simp only)<;>intros<;>first|omega|omega|trivial|(exact⟨a,rfl,h⟩)
variable{b:Int}
def BG(hk:k=12\/k=9/\nm∈sV)(h:cr (bJ t a))(h':cr (bJ t b)):Shape t ⟨k,ln,n,nm,[a,b]⟩:=by constructor<;>(try simp only)<;>intros<;>first|omega|omega|trivial|(exact⟨a,b,rfl,h,h'⟩)|(rcases hk with hk|hk;omega;exact hk.2)|fail
def JM(h:cr (bJ t a))(h':bJ t b=18):Shape t ⟨16,ln,n,nm,[a,b]⟩:=by constructor<;>(try simp only)<;>intros<;>first|omega|omega|trivial|(exact⟨a,b,rfl,h,h'⟩)
def Ht(h:cr (bJ t a))(h':bJ t b=18):Shape t ⟨15,ln,n,nm,[a,b]⟩:=by constructor<;>(try simp only)<;>intros<;>first|omega|omega|trivial|(exact⟨a,b,h,h',.inl rfl⟩)
def It{d:Int}(h:cr (bJ t a))(h':bJ t b=18)(h'':bJ t d=18):Shape t ⟨15,ln,n,nm,[a,b,d]⟩:=by constructor<;>(try simp only)<;>intros<;>first|omega|omega|trivial|(exact⟨a,b,h,h',.inr ⟨d,rfl,h''⟩⟩)
def I6(h:∀a∈L,fB (bJ t a)):Shape t ⟨18,ln,n,nm,L⟩:=by constructor<;>(try simp only)<;>intros<;>first|omega|omega|trivial|(refine h _ ?_;assumption)|fail
def OF(h:∀a∈L,cr (bJ t a)):Shape t ⟨21,ln,n,nm,L⟩:=by constructor<;>(try simp only)<;>intros<;>first|omega|omega|trivial|(refine h _ ?_;assumption)|fail
def M0{lv:Int}(h:r.next lv≠⟨#[]⟩):r.next lv∈sV:=by
 unfold Rd.next at h ⊢;cases e:(lG lv).find? (fun s=>r.is s)with
 |none=>rw[e]at h;exact(h rfl).elim
 |some s=>
  have:=List.mem_of_find?_eq_some e;unfold lG at this;simp only;unfold sV;split at this
  ·simp at this ⊢;simp[this]
  split at this
  ·simp at this ⊢;simp[this]
  split at this
  ·simp at this ⊢;rcases this with h|h|h|h<;>simp[h]
  split at this
  ·simp at this ⊢;rcases this with h|h<;>simp[h]
  ·simp at this ⊢;rcases this with h|h|h<;>simp[h]
def nK{r':Rd}(s:Rd.St r r'):r'.e=0->r.e=0:=fun h=>Classical.byContradiction fun e=>s.err e h
def GR{e:Int}(he:e≠0):Made r (r.aD e) L C:=fun h=>(Rd.fH he h).elim
theorem EW:∀n,(∀r:Rd,r.Inv->jR r.l->8*r.rem+1<=n->Made r (oI n r).1 [(oI n r).2] cr)/\(∀r:Rd,r.Inv->jR r.l->8*r.rem+2<=n->Made r (gl n r).1 [(gl n r).2] cr)/\
  (∀lv (r:Rd),r.Inv->jR r.l->lv<=5->8*r.rem+8<=n+lv->Made r (dG n lv r).1 [(dG n lv r).2] cr)/\
  (∀lv ln (r:Rd) (p:Rd×Int),p.1.Inv->jR p.1.l->lv<=4->8*p.1.rem+7<=n+lv->Made r p.1 [p.2] cr->Made r (mO n lv ln p).1 [(mO n lv ln p).2] cr)
 |0=>⟨fun r h ht hn=>by omega,fun r h ht hn=>by omega,fun lv r h ht h5 hn=>by omega,fun lv ln r p h ht h5 hn hp=>by omega⟩
 |n+1=>by
  obtain⟨ia,jM,ic,il⟩:=EW n;have ist:=qh n;have aZ:∀(r:Rd) (t u:P0),r.Inv->jR r.l->r.e=0->8*r.rem+1<=n+1->(r.is t=true\/8*r.rem+8<=n)->Made r ((dG n 0 (r.down.ar t)).1.ar u).up [(dG n 0 (r.down.ar t)).2] cr:=fun r t u h ht he hn hx=>by
   have h1:=(Rd.bG h he).1;have s1:=Rd.aH h1 t;have hr:8*(r.down.ar t).rem+8<=n+0:=by
    rcases hx with hx|hx
    ·have:=(Rd.fF h hx).1;omega
    ·have:=s1.rem;have Xs:r.down.rem<=r.rem:=by
      unfold Rd.rem;obtain⟨_,_,h3,h4,_⟩:=Rd.bG h he;rw[h3,h4,if_pos he];split<;>omega
     omega
   have st:=(xO r).trans (ij r.down t);have:=ic 0 (r.down.ar t) (s1.inv h1) (by rw[st.l];exact ht) jB hr;exact((this.pre st).post (ij _ _)).post (vU _)
  refine⟨fun r h ht hn=>?_,fun r h ht hn=>?_,fun lv r h ht h5 hn=>?_,fun lv ln r p h ht h5 hn hp=>?_⟩
  ·unfold oI;split
   ·rename_i he;exact fun h=>(he h).elim
   rename_i he;have he:r.e=0:=jB;have SS:r.i.toNat<r.l.length:=by have:=h.lt;have:=h.pos;omega
   split
   ·rename_i hk;exact iK _ _ _ _ fun _=>⟨Mk.refl _,rq jB (fun _=>⟨_,h.num _ SS hk,rfl⟩) jH jH,by unfold cr;omega⟩
   split
   ·rename_i hk;exact iK _ _ _ _ fun _=>⟨Mk.refl _,rq jB jH jH (fun _=>ht _ SS hk),by unfold cr;omega⟩
   split
   ·rename_i hk;have RY:r.e=0/\r.tok.kind≠0:=⟨he,jB⟩;split
    ·have hi:=(Rd.bm h RY.2).1.inv h;have hr:=Rd.cK h RY;have hm:=aZ r.inc (⟨#[91]⟩:P0) (⟨#[93]⟩:P0) hi ht he jB (.inl (by assumption));exact iK _ _ _ _ fun e=>⟨(hm e).1,tK jB ((hm e).2 _ jE),by unfold cr;omega⟩
    ·exact iK _ _ _ _ fun _=>⟨Mk.refl _,rq jB jH jH jH,by unfold cr;omega⟩
   split
   ·exact iK _ _ _ _ fun _=>⟨Mk.refl _,rq jB jH (fun _=>.inr rfl) jH,by unfold cr;omega⟩
   split
   ·exact iK _ _ _ _ fun _=>⟨Mk.refl _,rq jB jH (fun _=>.inl rfl) jH,by unfold cr;omega⟩
   split
   ·rename_i hs;have RY:=Rd.aV hs;split
    ·have hi:=(Rd.bm h RY.2).1.inv h;have hr:=Rd.cK h RY;have hm:=aZ r.inc (⟨#[40]⟩:P0) (⟨#[41]⟩:P0) hi ht he jB (.inl (by assumption));exact iK _ _ _ _ fun e=>⟨(hm e).1,tK jB ((hm e).2 _ jE),by unfold cr;omega⟩
    ·exact fun e=>(Rd.fH jC e).elim
   split
   ·exact aZ r (⟨#[40]⟩:P0) (⟨#[41]⟩:P0) h ht he hn (.inl (by assumption))
   ·exact GR jC
  ·unfold gl;have sg:∀t,r.is t=true->∀k ln nm,(k=7\/k=8)->Made r (((gl n r.down.inc).1.up).put k ln 0 nm [(gl n r.down.inc).2]).1 [(((gl n r.down.inc).1.up).put k ln 0 nm [(gl n r.down.inc).2]).2] cr:=fun t To k ln nm hk=>by
    obtain⟨he,RK⟩:=Rd.aV To;obtain⟨h1,h2,h3,h4,h5,h6⟩:=Rd.bG h he;have SS:r.down.tok=r.tok:=by unfold Rd.tok;rw[h3,h4]
    have s1:=(Rd.bm h1 (by rw[SS];exact RK)).1;have st:=(xO r).trans (lz r.down);have hr:8*r.down.inc.rem+2<=n:=by
     have hb:=Rd.behind h RK;unfold Rd.rem at hn ⊢;rw[if_pos he]at hn;have e1:r.down.inc.i=r.i+1:=by show r.down.i+1=_;rw[h3]
     have e2:r.down.inc.l=r.l:=h4;rw[e1,e2];have:=h.pos;split<;>omega
    have hm:=((jM r.down.inc (s1.inv h1) (by rw[st.l];exact ht) hr).pre st).post (vU _);exact iK _ _ _ _ fun e=>⟨(hm e).1,tK jB ((hm e).2 _ jE),by unfold cr;omega⟩
   split
   ·rename_i To;exact sg _ To _ _ _ (.inl rfl)
   split
   ·rename_i To;exact sg _ To _ _ _ (.inr rfl)
   ·exact ia r h ht jB
  ·unfold dG;split
   ·exact jM r h ht jB
   ·have s1:=ist.2.2.1 (lv+1) r h;exact il lv _ r _ (s1.inv h) (by rw[s1.l];exact ht) jB (by have:=s1.rem;omega) (ic (lv+1) r h ht jB jB)
  ·unfold mO;split
   ·exact hp
   rename_i Rm;have RY:=Rd.aV (Rd.j5 Rm);have s1:=(Rd.bm h RY.2).1;have hr:=Rd.cK h RY;have s2:=ist.2.2.1 (lv+1) _ (s1.inv h);have hm:=ic (lv+1) p.1.inc (s1.inv h) (by rw[s1.l];exact ht) jB jB;have Xw:=(hp.post (lz _)).seq hm (nK s2);have Wb:Made r ((dG n (lv+1) p.1.inc).1.put 9 ln 0 (p.1.next lv) [p.2,(dG n (lv+1) p.1.inc).2]).1 [((dG n (lv+1) p.1.inc).1.put 9 ln 0 (p.1.next lv) [p.2,(dG n (lv+1) p.1.inc).2]).2] cr:=
    iK _ _ _ _ fun e=>⟨(Xw e).1,BG (.inr ⟨rfl,M0 Rm⟩) ((Xw e).2.1 _ jE) ((Xw e).2.2 _ jE),by unfold cr;omega⟩
   split
   ·exact Wb
   ·have s3:=Rd.cH (s1.trans s2) (by have:=s2.dv;have:=(Rd.bm h RY.2).2;omega) 9 ln 0 (p.1.next lv) [p.2,(dG n (lv+1) p.1.inc).2];exact il lv ln r _ (s3.inv h) (by rw[s3.l];exact ht) h5 (by have e:((dG n (lv+1) p.1.inc).1.put 9 ln 0 (p.1.next lv) [p.2,(dG n (lv+1) p.1.inc).2]).1.rem=(dG n (lv+1) p.1.inc).1.rem:=rfl;show 8*((dG n (lv+1) p.1.inc).1.put 9 ln 0 (p.1.next lv) [p.2,(dG n (lv+1) p.1.inc).2]).1.rem+7<=_;rw[e];have:=s2.rem;omega) Wb
def pP(h:r.Inv)(ht:jR r.l):Made r (cJ r).1 [(cJ r).2] cr:=(EW _).2.2.1 0 r h ht jB jB
def St.iA{r':Rd}(s:Rd.St r r')(h:jR r.l):jR r'.l:=by rw[s.l];exact h
theorem BQ:∀(n:Nat) (b:Bool) (r0 r:Rd) (L:PY),r.Inv->jR r.l->Made r0 r L cr->Made r0 (lO n b r L).1 (lO n b r L).2 cr
 |0,_,r0,r,L,h,ht,hm=>by unfold lO;exact hm
 |n+1,false,r0,r,L,h,ht,hm=>by unfold lO;exact hm
 |n+1,true,r0,r,L,h,ht,hm=>by
  have s1:=ix h;have h1:=s1.inv h;have m1:=hm.both (pP h ht) (nK s1);unfold lO;split
  ·rename_i hs;have s2:=(Rd.bm h1 (Rd.aV hs).2).1;exact BQ n _ r0 _ _ (s2.inv h1) (St.iA s2 (St.iA s1 ht)) (m1.post (lz _))
  ·exact m1
def Fh(h:r.Inv)(ht:jR r.l):Made r (lq r).1 [(lq r).2] (fun k=>k=21):=by have hs:=xI h;have st:=(tz r).trans (ij r.name.1 (⟨#[40]⟩:P0));have hm:Made r (mq r).1 (mq r).2 cr:=BQ _ _ r _ _ (hs.inv h) (St.iA hs ht) ((Made.nil _ _).pre st);have hm:=hm.post (ij (mq r).1 (⟨#[41]⟩:P0));exact iK _ _ _ _ fun e=>⟨(hm e).1,OF (hm e).2,rfl⟩
def Cu(h:r.Inv)(ht:jR r.l):Made r (j2 r).1 [(j2 r).2] ff:=by
 unfold j2;split
 ·exact iK _ _ _ _ fun _=>⟨Mk.refl _,rq jB jH jH jH,by unfold ff;omega⟩
 split
 ·rename_i hs;have s1:=(Rd.bm h (Rd.aV hs).2).1;have s2:=s1.trans (Rd.aH (s1.inv h) (⟨#[40]⟩:P0));have hm:=((pP (s2.inv h) (St.iA s2 ht)).pre ((lz r).trans (ij _ _))).post (ij _ (⟨#[41]⟩:P0));exact iK _ _ _ _ fun e=>⟨(hm e).1,tK jB ((hm e).2 _ jE),by unfold ff;omega⟩
 split
 ·exact(Fh h ht).nV fun k hk=>by unfold ff;omega
 ·exact(pP h ht).nV fun k hk=>.inl hk
def I1(h:r.Inv)(ht:jR r.l)(he:r.e=0):Made r (nA r).1 [(nA r).2] cr:=by have h1:=(Rd.bG h he).1;have s1:=Rd.aH h1 (⟨#[91]⟩:P0);have st:=(xO r).trans (ij r.down (⟨#[91]⟩:P0));exact(pP (s1.inv h1) (by rw[st.l];exact ht)).pre st
def KO(h:r.Inv)(ht:jR r.l)(he:r.e=0)(ln:Int):Made r (nY r ln).1 [(nY r ln).2] fB:=by
 unfold nY;split
 ·have hm:=(Fh h ht).post (ij _ (⟨#[59]⟩:P0));exact iK _ _ _ _ fun e=>⟨(hm e).1,JG ((hm e).2 _ jE),by unfold fB;omega⟩
 have s0:=Rd.cX h;have h0:=s0.inv h;split
 ·rename_i hs;have Y4:=(Rd.aV hs).1;have m1:=I1 h0 (St.iA s0 ht) Y4;obtain⟨t1,t2⟩:=wY h0 hs;have sB:Rd.St r.name.1 ((nA r.name.1).1.ar (⟨#[93]⟩:P0)).up:=(AR h0 hs).2;have stl:Still (nA r.name.1).1 (((nA r.name.1).1.ar (⟨#[93]⟩:P0)).up.ar (⟨#[61]⟩:P0)):=((ij _ _).trans (vU _)).trans (ij _ _);have m2:Made (((nA r.name.1).1.ar (⟨#[93]⟩:P0)).up.ar (⟨#[61]⟩:P0)) (tS r.name.1).1 [(tS r.name.1).2] cr:=pP (t1.inv h0) (St.iA t1 (St.iA s0 ht));have hm:=((m1.post stl).both m2 (nK (ix (t1.inv h0)))).post (ij _ (⟨#[59]⟩:P0));have hm:=hm.pre (tz r);exact iK _ _ _ _ fun e=>⟨(hm e).1,BG (.inl rfl) ((hm e).2 _ jE) ((hm e).2 _ jE),by unfold fB;omega⟩
 ·have s1:=s0.trans (Rd.aH h0 (⟨#[61]⟩:P0));have hm:=((Cu (s1.inv h) (St.iA s1 ht)).pre ((tz r).trans (ij _ _))).post (ij _ (⟨#[59]⟩:P0));exact iK _ _ _ _ fun e=>⟨(hm e).1,De (.inr rfl) ((hm e).2 _ jE),by unfold fB;omega⟩
theorem D8:∀n,(∀r:Rd,r.Inv->jR r.l->4*r.rem+1<=n->Made r (fb n r).1 [(fb n r).2] (fun k=>k=18))/\
  (∀(r0 r:Rd) L,r.Inv->jR r.l->4*r.rem+3<=n->Made r0 r L fB->Made r0 (lp n r L).1 (lp n r L).2 fB)/\
  (∀r:Rd,r.Inv->jR r.l->r.e=0->4*r.rem+2<=n->Made r (my n r).1 [(my n r).2] fB)
 |0=>⟨fun r h ht hn=>by omega,fun r0 r L h ht hn hm=>by omega,fun r h ht he hn=>by omega⟩
 |n+1=>by
  obtain⟨ib,il,is_⟩:=D8 n;have ist:=qd n;refine⟨fun r h ht hn=>?_,fun r0 r L h ht hn hm=>?_,fun r h ht he hn=>?_⟩
  ·unfold fb;split
   ·rename_i hx;have he:=(Rd.aV hx).1;have hd:=(Rd.bG h he).1;have s1:=Rd.aH hd (⟨#[123]⟩:P0);have st:=(xO r).trans (ij r.down (⟨#[123]⟩:P0));have hr:=(Rd.fF h hx).1;have hm:=il r (r.down.ar (⟨#[123]⟩:P0)) [] (s1.inv hd) (by rw[st.l];exact ht) jB ((Made.nil _ _).pre st);have hm:=(hm.post (ij _ (⟨#[125]⟩:P0))).post (vU _);exact iK _ _ _ _ fun e=>⟨(hm e).1,I6 (hm e).2,rfl⟩
   ·exact GR jC
  ·unfold lp;split
   ·rename_i hc;have VL:0<n:=jB;obtain⟨s1,s2⟩:=ist.2.2 r h hc.1 VL;have Rh:=hm.both (is_ r h ht hc.1 jB) (nK s1);exact il r0 _ _ (s1.inv h) (St.iA s1 ht) jB Rh
   ·exact hm
  ·unfold my;have word:∀w:P0,w≠⟨#[]⟩->r.word=w->r.inc.Inv/\r.inc.rem+1<=r.rem/\Rd.St r r.inc:=fun w h0 hw=>by
    have hk:=Rd.du (Rd.fC hw h0) jC;exact⟨(Rd.bm h hk.2).1.inv h,Rd.cK h hk,(Rd.bm h hk.2).1⟩
   split
   ·rename_i hw;obtain⟨h1,h2,s1⟩:=word _ jC hw;have s2:=Rd.cX h1;have s3:=s2.trans (Rd.aH (s2.inv h1) (⟨#[61]⟩:P0));have hm:=((Cu (s3.inv h1) (St.iA s3 ht)).pre ((lz r).trans ((tz r.inc).trans (ij _ _)))).post (ij _ (⟨#[59]⟩:P0));exact iK _ _ _ _ fun e=>⟨(hm e).1,De (.inl rfl) ((hm e).2 _ jE),by unfold fB;omega⟩
   split
   ·rename_i hw;obtain⟨h1,h2,s1⟩:=word _ jC hw;have hm:=((pP h1 (St.iA s1 ht)).pre (lz r)).post (ij _ (⟨#[59]⟩:P0));exact iK _ _ _ _ fun e=>⟨(hm e).1,tK jB ((hm e).2 _ jE),by unfold fB;omega⟩
   split
   ·rename_i hw;obtain⟨h1,h2,s1⟩:=word _ jC hw;have s2:=ix h1;have s3:=ist.1 _ (s2.inv h1);have hm:=((pP h1 (St.iA s1 ht)).pre (lz r)).seq (ib (cJ r.inc).1 (s2.inv h1) (St.iA s2 (St.iA s1 ht)) (by have:=s2.rem;omega)) (nK s3);exact iK _ _ _ _ fun e=>⟨(hm e).1,JM ((hm e).2.1 _ jE) ((hm e).2.2 _ jE),by unfold fB;omega⟩
   split
   ·rename_i hw;obtain⟨h1,h2,s1⟩:=word _ jC hw;have s2:=ix h1;have h3:=s2.inv h1;have s3:=ist.1 _ h3;have h4:=s3.inv h3;have hm:=((pP h1 (St.iA s1 ht)).pre (lz r)).seq (ib (cJ r.inc).1 h3 (St.iA s2 (St.iA s1 ht)) (by have:=s2.rem;omega)) (nK s3);split
    ·rename_i hx;have hk:=Rd.aV hx;have s5:=(Rd.bm h4 hk.2).1;have hr5:=Rd.cK h4 hk;have h5:=s5.inv h4;have s6:=ist.1 _ h5;have m3:=(ib (fb n (cJ r.inc).1).1.inc h5 (St.iA s5 (St.iA s3 (St.iA s2 (St.iA s1 ht)))) (by have:=s2.rem;have:=s3.rem;omega)).pre (lz _);have Y5:=fun e=>nK s5 (nK s6 e)
     exact iK _ _ _ _ fun e=>by obtain⟨a1,a2,a3⟩:=hm (Y5 e);obtain⟨b1,b2⟩:=m3 e;exact⟨a1.trans b1,It (by rw[a1.kind b1 jE];exact a2 _ jE) (by rw[a1.kind b1 jE];exact a3 _ jE) (b2 _ jE),by unfold fB;omega⟩
    ·exact iK _ _ _ _ fun e=>⟨(hm e).1,Ht ((hm e).2.1 _ jE) ((hm e).2.2 _ jE),by unfold fB;omega⟩
   split
   ·rename_i hw;obtain⟨h1,h2,s1⟩:=word _ jC hw;split
    ·have hm:=((Made.nil r.inc cr).pre (lz r)).post (ij _ (⟨#[59]⟩:P0));exact iK _ _ _ _ fun e=>⟨(hm e).1,rq jB jH jH jH,by unfold fB;omega⟩
    ·have hm:=((pP h1 (St.iA s1 ht)).pre (lz r)).post (ij _ (⟨#[59]⟩:P0));exact iK _ _ _ _ fun e=>⟨(hm e).1,tK jB ((hm e).2 _ jE),by unfold fB;omega⟩
   ·exact KO h ht he _
def HA(h:r.Inv)(ht:jR r.l):Made r (mU r).1 [(mU r).2] (fun k=>k=18):=(D8 _).1 r h ht jB
-- functions
structure o3(f:bg):Prop where
 ps:∀p∈f.params,1<=p.ty/\p.ty<=4
 ret:0<=f.ret/\f.ret<=4
def Kl(w:P0):0<=qy w/\qy w<=4:=by
 unfold qy;repeat' split
 all_goals omega
def F7(r:Rd):Still r (gG r).1:=by
 unfold gG;split
 ·exact yn r jC
 ·exact lz r
def BM(he:(gG r).1.e=0):1<=(gG r).2/\(gG r).2<=4:=by
 unfold gG at he ⊢;split
 ·rename_i h;rw[if_pos h]at he;exact(Rd.fH jC he).elim
 ·have:=Kl r.word;simp only;omega
theorem Ge:∀(n:Nat) (b:Bool) (r:Rd) (L:List bM),Still r (lh n b r L).1/\((lh n b r L).1.e=0->(∀p∈L,1<=p.ty/\p.ty<=4)->∀p∈(lh n b r L).2,1<=p.ty/\p.ty<=4)
 |0,_,r,L=>by unfold lh;exact⟨.refl r,fun _ h=>h⟩
 |n+1,false,r,L=>by unfold lh;exact⟨.refl r,fun _ h=>h⟩
 |n+1,true,r,L=>by
  have st:Still r (nW r):=(tz r).trans (F7 _);have hL:(nW r).e=0->(∀p∈L,1<=p.ty/\p.ty<=4)->∀p∈L++[⟨r.name.2,(gG r.name.1).2⟩],1<=p.ty/\p.ty<=4:=fun e h p hp=>by
   rcases List.mem_append.1 hp with hp|hp
   ·exact h p hp
   ·rw[List.mem_singleton.1 hp];exact BM e
  unfold lh;split
  ·obtain⟨a,b⟩:=Ge n true (nW r).inc (L++[⟨r.name.2,(gG r.name.1).2⟩]);exact⟨st.trans ((lz _).trans a),fun e h=>b e (hL (a.err e) h)⟩
  ·exact⟨st,hL⟩
def HP(h:r.Inv)(ht:jR r.l):Made r (lx r).1 [(lx r).2.body] (fun k=>k=18)/\((lx r).1.e=0->o3 (lx r).2):=by
 have h1:=(oC h).1.inv h;have h2:=(wo h).inv h1;obtain⟨a,b⟩:=Ge ((lP r).rem+2) (more (lP r)) (lP r) [];have stA:Still r (lP r):=((ij r (⟨#[102,110]⟩:P0)).trans (tz _)).trans (ij _ _);have stC:Still r (j9 r):=(stA.trans a).trans (ij _ _);have stD:Still (j9 r) (kT r).1:=by
  unfold kT;split
  ·exact .refl _
  ·exact F7 _
 have hb:=HA h2 (by rw[(stC.trans stD).l];exact ht);refine⟨hb.pre (stC.trans stD),fun e=>?_⟩;have e2:(kT r).1.e=0:=nK (A0 h2) e;have e1:(j9 r).e=0:=stD.err e2;have e0:(qn r).1.e=0:=(ij _ _).err e1;refine⟨b e0 (fun p hp=>by simp at hp),?_⟩;show 0<=(kT r).2/\(kT r).2<=4;unfold kT at e2 ⊢;split
 ·simp
 ·rename_i hc;rw[if_neg hc]at e2;have:=BM e2;omega
theorem Gf:∀(n:Nat) (r0 r:Rd) (L:List bg),r.Inv->jR r.l->Made r0 r (L.map (·.body)) (fun k=>k=18)->(r.e=0->∀f∈L,o3 f)->
  Made r0 (oh n r L).1 ((oh n r L).2.map (·.body)) (fun k=>k=18)/\((oh n r L).1.e=0->∀f∈(oh n r L).2,o3 f)
 |0,r0,r,L,h,ht,hm,hf=>by unfold oh;exact⟨hm,hf⟩
 |n+1,r0,r,L,h,ht,hm,hf=>by
  unfold oh;split
  ·have s1:=(GQ h).1;obtain⟨a,b⟩:=HP h ht;refine Gf n r0 _ _ (s1.inv h) (St.iA s1 ht) ?_ fun e f Um=>?_
   ·rw[List.map_append];exact hm.both a (nK s1)
   ·rcases List.mem_append.1 Um with h'|h'
    ·exact hf (nK s1 e) f h'
    ·rw[List.mem_singleton.1 h'];exact b e
  ·exact⟨hm,hf⟩
structure aX(t:aE):Prop where
 chain:aR t.nodes 0 (t.av.map (·.body)) t.nodes.length
 shape:∀k,k<t.nodes.length->Shape t.nodes (nth t.nodes k)/\(∀a∈(nth t.nodes k).l,0<=a/\a.toNat<k)/\∃lo,aR t.nodes lo (nth t.nodes k).l k
 body:∀f∈t.av,bJ t.nodes f.body=18
 fn:∀f∈t.av,o3 f/\f.params.length<=3
 many:t.nodes.length<=300
 av:t.av.length<=6
variable{s:P0}
def Mq{a:Nat}(h:(mP s a).2.2=0):(mP s a).1.size<=12:=by
 unfold mP at h ⊢;simp only at h ⊢;split at h<;>rename_i h1
 ·rw[if_pos h1];split at h<;>rename_i h2
  ·cases h
  ·rw[if_neg h2];simp only[ByteArray.size_extract];omega
 ·cases h
def Pn{a:Nat}(h:(fS s a).2.2=0)(hk:(fS s a).1.kind=2):(fS s a).1.text.size<=12:=by
 unfold fS at h hk ⊢;split at h<;>rename_i h1
 ·rw[if_pos h1]at hk ⊢;split at h<;>rename_i h2
  ·rw[if_pos h2]at hk;cases hk
  ·cases h
 rw[if_neg h1]at hk ⊢;split at h<;>rename_i h2
 ·rw[if_pos h2]at hk ⊢;split at h<;>rename_i h3
  ·rw[if_pos h3]at hk;cases hk
  ·rw[if_neg h3]at hk ⊢;split at h<;>rename_i h4
   ·cases h
   ·rw[if_neg h4]at hk;cases hk
 rw[if_neg h2]at hk ⊢;split at h<;>rename_i h3
 ·rw[if_pos h3]at hk ⊢;exact Mq h
 ·rw[if_neg h3]at hk;split at h<;>rename_i h4
  ·cases h
  ·rw[if_neg h4]at hk;cases hk
theorem DO(s:P0):∀(n i:Nat) (out:List bZ),(km s n i out).2.2=0->(∀t∈out,t.kind=2->t.text.size<=12)->∀t∈(km s n i out).1,t.kind=2->t.text.size<=12
 |0,i,out,he,ho=>by unfold km;exact ho
 |n+1,i,out,he,ho=>by
  unfold km at he ⊢;split at he<;>rename_i hi
  ·rw[if_pos hi];split at he<;>rename_i h3
   ·rw[if_pos h3];refine DO s n _ _ he fun t ht=>?_
    rcases List.mem_append.1 ht with ht|ht
    ·exact ho t ht
    ·rw[List.mem_singleton.1 ht];exact Pn h3
   ·exact(h3 he).elim
  ·rw[if_neg hi];intro t ht;rcases List.mem_append.1 ht with ht|ht
   ·exact ho t ht
   ·rw[List.mem_singleton.1 ht];intro h;cases h
def MJ(he:(jg s).2.2=0):jR (mD s).l:=by
 have:∀t∈(jg s).1,t.kind=2->t.text.size<=12:=by
  unfold jg at he ⊢;split at he<;>rename_i h
  ·cases he
  ·rw[if_neg h];exact DO s _ _ _ he (fun t ht=>by simp at ht)
 intro k hk;exact this _ (dZ hk)
def vM(h:(fO s).2.2=0):aX (fO s).1:=by
 unfold fO at h ⊢;split at h<;>rename_i h1
 ·exact(h1 h).elim
 rw[if_neg h1];split at h<;>rename_i h2
 ·exact(h2 h).elim
 rw[if_neg h2];split at h<;>rename_i h3
 ·cases h
 rw[if_neg h3];have he:(jg s).2.2=0:=jB;have hf:(lY s).1.e=0:=jB;obtain⟨a,b⟩:=Gf ((mD s).rem+1) (mD s) (mD s) [] (CI he) (MJ he) (Made.nil _ _) (fun _ f hf=>by simp at hf);obtain⟨a1,a2⟩:=a hf;simp only[rT,Bool.or_eq_true,decide_eq_true_eq,not_or,List.any_eq_true,not_exists,not_and]at h3;refine⟨a1.chain,fun k hk=>a1.shape k (Nat.zero_le _) hk,fun f hf=>a2 _ (List.mem_map.2 ⟨f,hf,rfl⟩),fun f Un=>⟨b hf f Un,by have:=h3.2 f Un;omega⟩,by show(lY s).1.nodes.length<=300;omega,by show(lY s).2.length<=6;omega⟩
structure Ck where
 aa:aE
 types:List Int
 ab:List Int
 av:List Int
 aL:List Int
 fn:Int
 vars:List bH
 more:List bH
 size:Int
 e:Int
 at_:Int
 deriving Inhabited
def gP{α:Type}(f:α->P0)(name:P0):List α->Int->Int
 |[],_=>-1
 |v::l,i=>if f v=name then i else gP f name l (i+1)
def iG{α:Type}(f:α->P0)(name:P0):List α->Int->Int->Int
 |[],_,k=>k
 |v::l,i,k=>iG f name l (i+1) (if f v=name then i else k)
def gQ(sign:P0)(a b:Int):Int:=
 if a≠b then 0
 else if sign=(⟨#[124,124]⟩:P0)\/sign=(⟨#[38,38]⟩:P0)then(if a=2 then 2 else 0)
 else if sign=(⟨#[60]⟩:P0)\/sign=(⟨#[60,61]⟩:P0)then(if a=1 then 2 else 0)
 else if sign=(⟨#[61,61]⟩:P0)\/sign=(⟨#[33,61]⟩:P0)then(if a=1\/a=2\/a=3 then 2 else 0)
 else if sign=(⟨#[43]⟩:P0)then(if a=1\/a=3 then a else 0)
 else(if a=1 then 1 else 0)
namespace Ck
def node(c:Ck)(a:Int):bl:=nth c.aa.nodes a.toNat
def aC(c:Ck)(a:Int)(i:Nat):Int:=nth (c.node a).l i
def aD(c:Ck)(e a:Int):Ck:=if c.e=0 then{ c with e:=e,at_:=a }else c
def ar(c:Ck)(ok:Bool)(a:Int):Ck:=if ok=true then c else c.aD 42 a
def find(c:Ck)(name:P0):Int:=gP bH.name name c.vars 0
def slot(c:Ck)(a s:Int):Ck:={ c with ab:=c.ab.set a.toNat s }
def named(c:Ck)(a:Int):Ck×Int:=
 if c.find (c.node a).name<0 then(c.aD 40 a,0)
 else(c.slot a (nth c.vars (c.find (c.node a).name).toNat).slot,(nth c.vars (c.find (c.node a).name).toNat).ty)
def note(c:Ck)(a t:Int):Ck:={ c with types:=c.types.set a.toNat t,av:=c.av.set a.toNat c.fn }
def aj(c:Ck)(a:Int):Ck:={ c with av:=c.av.set a.toNat c.fn }
end Ck
def fR(ex:Ck->Int->Ck×Int):Ck->PY->PY->Ck×PY
 |c,[],ts=>(c,ts)
 |c,a::l,ts=>if c.e=0 then fR ex (ex c a).1 l (ts++[(ex c a).2])else(c,ts)
def gH(a:Int):Ck->PY->List bM->Ck
 |c,t::ts,p::ps=>if c.e=0 then gH a (c.ar (decide (t=p.ty)) a) ts ps else c
 |c,_,_=>c
def eQ(c:Ck)(a:Int):Int:=iG bg.name (c.node a).name c.aa.av 0 (-1)
def iv(ex:Ck->Int->Ck×Int)(c:Ck)(a:Int):Ck×Int:=
 if eQ c a<0 then(c.aD 40 a,0)
 else
  let f:=nth c.aa.av (eQ c a).toNat
  let p:=fR ex c (c.node a).l []
  let c1:=if(c.node a).l.length≠f.params.length then p.1.aD 43 a else p.1
  (gH a c1 p.2 f.params,f.ret)
def bW(ex:Ck->Int->Ck×Int)(c:Ck)(a:Int):Ck×Int:=
 let k:=(c.node a).kind
 if k=1\/k=19 then(c,1)
 else if k=2 then(c,2)
 else if k=3 then(c,3)
 else if k=4 then c.named a
 else if k=21 then iv ex c a
 else if k=5 then
  let p:=c.named a
  let x:=ex p.1 (c.aC a 0)
  (x.1.ar (decide (p.2=4) && decide (x.2=1)) a,1)
 else if k=9 then
  let x:=ex c (c.aC a 0)
  let y:=ex x.1 (c.aC a 1)
  let t:=gQ (c.node a).name x.2 y.2
  (y.1.ar (!decide (t=0)) a,t)
 else
  let x:=ex c (c.aC a 0)
  if k=6 then(x.1.ar (decide (x.2=3) || decide (x.2=4)) a,1)
  else if k=7 then(x.1.ar (decide (x.2=1)) a,1)
  else if k=8 then(x.1.ar (decide (x.2=2)) a,2)
  else(x.1.ar (decide (x.2=1)) a,4)
def ay:Nat->Ck->Int->Ck×Int
 |0,c,_=>(c,0)
 |n+1,c,a=>if c.e≠0 then(c,0)else((bW (ay n) c a).1.note a (bW (ay n) c a).2,(bW (ay n) c a).2)
def nC(ex:Ck->Int->Ck×Int)(c:Ck)(a:Int):Ck:=
 let x:=ex c (c.aC a 0)
 let c1:=x.1.ar (!decide (x.2=0)) a
 let c2:=if 0<=c1.find (c.node a).name then c1.aD 41 a else c1
 let c3:=if 24<=c2.size then c2.aD 4 a else c2
 { (c3.slot a c3.size)with vars:=c3.vars++[⟨(c.node a).name,x.2,c3.size⟩],more:=c3.more.drop 1,size:=c3.size+1 }
def jS(ex:Ck->Int->Ck×Int)(c:Ck)(a:Int):Ck:=
 let ret:=(nth c.aa.av c.fn.toNat).ret
 let l:=(c.node a).l
 if decide (l.length=1)≠(!decide (ret=0))then c.aD 43 a
 else if l.length=1 then
  let x:=ex c (c.aC a 0)
  x.1.ar (decide (x.2=ret)) a
 else c
def dN(st:Ck->Int->Ck):Ck->PY->Ck
 |c,[]=>c
 |c,a::l=>if c.e=0 then dN st (st c a) l else c
def eE(st:Ck->Int->Ck)(c:Ck)(a:Int):Ck:=
 let c1:=dN st (c.aj a) (c.node a).l
 { c1 with vars:=c1.vars.take (min c.vars.length c1.vars.length),more:=c1.vars.drop (min c.vars.length c1.vars.length)++c1.more }
def bP:Nat->Ck->Int->Ck
 |0,c,_=>c
 |n+1,c0,a=>
  let c:=c0.aj a
  let k:=(c.node a).kind
  if k=10 then nC (ay n) c a
  else if k=11 then
   let p:=c.named a
   let x:=ay n p.1 (c.aC a 0)
   x.1.ar (decide (p.2=x.2)) a
  else if k=12 then
   let p:=c.named a
   let x:=ay n p.1 (c.aC a 0)
   let y:=ay n x.1 (c.aC a 1)
   y.1.ar (decide (p.2=4) && decide (x.2=1) && decide (y.2=1)) a
  else if k=13 then(ay n c (c.aC a 0)).1
  else if k=14 then
   let x:=ay n c (c.aC a 0)
   x.1.ar (!decide (x.2=4)) a
  else if k=17 then jS (ay n) c a
  else
   let x:=ay n c (c.aC a 0)
   dN (eE (bP n)) (x.1.ar (decide (x.2=2)) a) ((c.node a).l.drop 1)
def eP(body:Int):Ck->List bM->Int->Ck
 |c,[],_=>c
 |c,p::ps,i=>
  let c1:=if 0<=c.find p.name then c.aD 41 body else c
  eP body { c1 with vars:=c1.vars++[⟨p.name,p.ty,i⟩],more:=c1.more.drop 1,size:=c1.size+1 } ps (i+1)
def fY(c:Ck)(k:Nat):Ck:=
 let f:=nth c.aa.av k
 let c1:=eP f.body { c with fn:=k,vars:=[],more:=[],size:=0 } f.params 0
 let c2:=if c1.e=0 then eE (bP c.aa.nodes.length) c1 f.body else c1
 { c2 with aL:=c2.aL++[c2.size],vars:=[],more:=[] }
def kG(x:bg):Ck->List bg->Ck
 |c,[]=>c
 |c,f::l=>kG x (if f.name=x.name then c.aD 41 x.body else c) l
def tq(f:bg):Bool:=decide (f.name=(⟨#[109,97,105,110]⟩:P0)) && decide ((f.params.length:Int)=0) && decide (f.ret=0)
def jO(av:List bg):Ck->Bool->Nat->Nat->Ck×Bool
 |c,m,_,0=>(c,m)
 |c,m,i,n+1=>jO av (kG (nth av i) c (av.take i)) (m || tq (nth av i)) (i+1) n
def iB(c:Ck):Ck:=
 let p:=jO c.aa.av c false 0 c.aa.av.length
 if p.2=true then p.1 else p.1.aD 44 0
def fX:Ck->Nat->Nat->Ck
 |c,_,0=>c
 |c,i,n+1=>if c.e=0 then fX (fY c i) (i+1) n else c
def iQ(t:aE):Ck:=⟨t,t.nodes.map fun _=>0,t.nodes.map fun _=>-1,t.nodes.map fun _=>0,[],0,[],[],0,0,0⟩
def gS(t:aE):Ck:=fX (iB (iQ t)) 0 t.av.length
def jr:ae:=⟨⟨[],[]⟩,[],[],[],[]⟩
def Ck.prog(c:Ck):ae:=⟨c.aa,c.types,c.ab,c.av,c.aL⟩
def gC(t:aE):ae×Int×Int:=if(gS t).e≠0 then(jr,(gS t).at_,(gS t).e)else((gS t).prog,0,0)
def fJ(s:P0):ae×Int×Int:=
 if(fO s).2.2≠0 then(jr,(fO s).2.1,(fO s).2.2)
 else
  let q:=gC (fO s).1
  if q.2.2=44 then(jr,0,44)
  else if q.2.2≠0 then(jr,(nth (fO s).1.nodes q.2.1.toNat).cv,q.2.2)
  else(q.1,0,0)
def gA(ab:List ai)(k t:Int):ai:=
 if k<0\/(ab.length:Int)<=k then vZ t
 else if fT (nth ab k.toNat)=true/\(nth ab k.toNat).ty=t then nth ab k.toNat else vZ t
def fq(heap:PX)(v:ai):PY:=if v.ty≠4\/v.n<1\/(heap.length:Int)<v.n then[]else nth heap (v.n-1).toNat
def da(p:ae)(ab:List ai)(heap:PX):Nat->Int->ai×Int
 |0,_=>(v0,0)
 |n+1,a=>
  let nd:=nth p.aa.nodes a.toNat
  let x:=da p ab heap n (nth nd.l 0)
  let y:=da p ab heap n (nth nd.l 1)
  if nd.kind=1 then(vI nd.n,0)
  else if nd.kind=2 then(vB (decide (nd.n=1)),0)
  else if nd.kind=3 then(vT nd.name,0)
  else if nd.kind=4 then(gA ab (nth p.ab a.toNat) (nth p.types a.toNat),0)
  else if x.2≠0 then(v0,x.2)
  else if nd.kind=5 then
   (if x.1.n<0\/((fq heap (gA ab (nth p.ab a.toNat) 4)).length:Int)<=x.1.n then(v0,2)else(vI (nth (fq heap (gA ab (nth p.ab a.toNat) 4)) x.1.n.toNat),0))
  else if nd.kind=9 then
   (if(nd.name=(⟨#[124,124]⟩:P0)/\x.1.n=1)\/(nd.name=(⟨#[38,38]⟩:P0)/\x.1.n=0)then(x.1,0)
   else if y.2≠0 then(v0,y.2)else jw nd.name x.1 y.1)
  else if nd.kind=6 then(if x.1.ty=3 then(vI x.1.s.size,0)else(vI (fq heap x.1).length,0))
  else if nd.kind=7 then(ku (⟨#[45]⟩:P0) x.1,0)
  else(ku (⟨#[33]⟩:P0) x.1,0)
end Go.Gd
namespace Go.Proofs.YtghoellpinmenaaGreatDoor
open Go Go.Gd Tryz
abbrev rI(n:Int):AV:=.raw (.int .i64 n)
abbrev rU(n:Int):AV:=.raw (.int .u8 n)
abbrev rS(s:P0):AV:=.raw (.string s)
abbrev rB(b:Bool):AV:=.raw (.bool b)
def uA(n:Int):aA prog 126 [rU n] (rB (iL n)):=by
 refine bI func126 ntmps126 ?_
 (repeat' (first|refine aq fun K hK=>?_|refine am ?_|(refine hK _ _ ?_;clear hK K)|(refine ao ?_ ?_<;>intro hc<;>try exact jz)|refine ap ?_|exact jI|(clear hK K)))
 (refine cj [.tmp 2] ?_ ?_<;>(try simp only[go_sem]))
 rfl
def zc(n:Int):aA prog 128 [rU n] (rB (vG n)):=by
 refine bI func128 ntmps128 ?_
 (repeat' (first|refine aq fun K hK=>?_|refine am ?_|(refine hK _ _ ?_;clear hK K)|(refine ao ?_ ?_<;>intro hc<;>try exact jz)|refine ap ?_|exact jI|(clear hK K)))
 (refine cj [.tmp 2] ?_ ?_<;>(try simp only[go_sem]))
 rfl
def PO(s:P0):aA prog 127 [rS s] (rB (uk s)):=by
 refine bI func127 ntmps127 ?_
 (repeat' (first|refine aq fun K hK=>?_|refine am ?_|(refine hK _ _ ?_;clear hK K)|(refine ao ?_ ?_<;>intro hc<;>try exact jz)|refine ap ?_|exact jI|(clear hK K)))
 (refine cj [.tmp 2] ?_ ?_<;>(try simp only[go_sem]))
 rfl
def J8(s:P0)(at_:Int)(hs:s.size<=1000000):aA prog 132 [rS s,rI at_] (rI (mX s (min s.size at_.toNat))):=by
 refine bI func132 ntmps132 ?_
 (repeat' (first|refine aq fun K hK=>?_|refine am ?_|(refine hK _ _ ?_;clear hK K)|(refine ao ?_ ?_<;>intro hc<;>try exact jz)|refine ap ?_|exact jI|(clear hK K)))
 have M':=hK;clear hK;refine de (S:=Nat) [(5,19)] (fun k=>k<=s.size/\k<=at_.toNat) (fun k=>[(5,rI (mX s k)),(6,rI k)]) (fun _=>⟨[],[]⟩) (fun k=>s.size-k) 0 jB (dc rfl (by simp only[go_sem,gU,Nat.reduceAdd,AV.raw.injEq,Value.int.injEq,Value.slice.injEq,Value.pointer.injEq,AV.rs.injEq,mX];try omega)) ?_;rintro k ⟨Qt,Qf⟩ Kr P9;have hb:=D0 s k;refine S ?_
 (repeat' (first|refine aq fun K hK=>?_|refine am ?_|(refine hK _ _ ?_;clear hK K)|(refine ao ?_ ?_<;>intro hc<;>try exact jz)|refine M' _ _ ?_|refine ap ?_|exact jI|(clear hK K)))
 ·refine P9 _ _ (dI (k+1) jB jJ rfl (by simp only[mX,if_pos hc];exact bK))
 ·refine P9 _ _ (dI (k+1) jB jJ rfl (by simp only[mX,if_neg hc];exact bK))
 ·(refine cj [.tmp 4] ?_ ?_<;>(try simp only[go_sem]))
  rw[show min s.size at_.toNat=k from jB]
def JT{s:P0}(h:∀j,j<eW.length->nth eW j≠s):sk s=false:=by unfold sk;rw[List.any_eq_false];intro x hm;obtain⟨j,hj,rfl⟩:=List.getElem_of_mem hm;have:=h j hj;rw[gD hj]at this;simp[this]
def H7{s:P0}{k:Nat}(hk:k<eW.length)(h:nth eW k=s):sk s=true:=by unfold sk;rw[List.any_eq_true];exact⟨eW[k],List.getElem_mem hk,by rw[gD hk]at h;simp[h]⟩
def Jo(s:P0):aA prog 129 [rS s] (rB (sk s)):=by
 refine bI func129 ntmps129 ?_
 (repeat' (first|refine aq fun K hK=>?_|refine am ?_|(refine hK _ _ ?_;clear hK K)|(refine ao ?_ ?_<;>intro hc<;>try exact jz)|refine ap ?_|exact jI|(clear hK K)))
 have M':=hK;clear hK;refine de (S:=Nat) [(2,1),(4,1),(6,12)] (fun k=>k<=16/\∀j,j<k->nth eW j≠s) (fun k=>[(3,.sl true 1 (eW.map eS) []),(4,rI k)]) (fun _=>⟨[],[]⟩) (fun k=>16-k) 0 ⟨jB,fun j h=>jB⟩ (dc rfl (by(repeat' (first|exact jI|exact Or.inr rfl|exact Or.inl rfl|refine jA ?_ ?_)))) ?_;rintro k ⟨Qt,Qf⟩ Kr P9;have hl:=O7;refine S ?_
 (repeat' (first|refine aq fun K hK=>?_|refine am ?_|(refine hK _ _ ?_;clear hK K)|(refine ao ?_ ?_<;>intro hc<;>try exact jz)|refine M' _ _ ?_|refine ap ?_|exact jI|(clear hK K)))
 ·(refine cj [.tmp 2] ?_ ?_<;>(try simp only[go_sem]))
  rw[H7 jB hc]
 ·refine P9 _ _ (dI (k+1) ⟨jB,fun j hj=>?_⟩ jJ rfl bK);by_cases e:j=k
  ·subst e;exact hc
  ·exact Qf j jB
 ·(refine cj [.tmp 2] ?_ ?_<;>(try simp only[go_sem]))
  rw[JT fun j hj=>Qf j jB]
def GN(s:P0)(i:Nat)(hs:s.size<=1000000)(hi:i<=s.size):aA prog 83 [rS s,rI i] (rI (mL s i:Nat)):=by
 refine bI func83 ntmps83 ?_
 (repeat' (first|refine aq fun K hK=>?_|refine am ?_|(refine hK _ _ ?_;clear hK K)|(refine ao ?_ ?_<;>intro hc<;>try exact jz)|refine ap ?_|exact jI|(clear hK K)))
 have M':=hK;clear hK;refine de (S:=Nat) [(1,1),(4,54)] (fun k=>k<=s.size/\mL s k=mL s i) (fun k=>[(1,rI k)]) (fun _=>⟨[],[]⟩) (fun k=>s.size-k) i ⟨hi,rfl⟩ (dc rfl bK) ?_;rintro k ⟨Qt,Qf⟩ Kr P9;refine S ?_
 (repeat' (first|refine aq fun K hK=>?_|refine am ?_|(refine hK _ _ ?_;clear hK K)|(refine ao ?_ ?_<;>intro hc<;>try exact jz)|refine M' _ _ ?_|refine ap ?_|exact jI|(clear hK K)))
 ·have J':kR s k=some (k+1):=by
   unfold kR;rw[jP,if_pos];simp[vX];omega
  refine P9 _ _ (dI (k+1) ⟨jB,by rw[<-Qf,Fe J']⟩ jJ rfl bK)
 ·have J':kR s k=some (gy qi s k):=by
   unfold kR;rw[jP,if_neg (by simp[vX];omega),if_pos];simp[wG];exact⟨⟨hc.1.1,jB⟩,hc.2⟩
  have Qd:=wi J';have WU:=hK;clear hK;refine de (S:=Nat) [(1,1),(45,12)] (fun m=>k<=m/\m<=s.size/\∀j,k<=j->j<m->qi (dV s j)=true) (fun m=>[(1,rI m)]) (fun _=>⟨[],[]⟩) (fun m=>s.size-m) k ⟨jB,jB,fun j h1 h2=>jB⟩ (dc rfl bK) ?_;rintro m ⟨SU,Rh,Q2⟩ Kj VM;refine S ?_
  (repeat' (first|refine aq fun K hK=>?_|refine am ?_|(refine hK _ _ ?_;clear hK K)|(refine ao ?_ ?_<;>intro hc<;>try exact jz)|refine WU _ _ ?_|refine ap ?_|exact jI|(clear hK K)))
  ·refine VM _ _ (dI (m+1) ⟨jB,jB,fun j h1 h2=>?_⟩ jJ rfl bK);by_cases e:j=m
   ·subst e;simp only[qi,decide_eq_true_eq];exact hc.2
   ·exact Q2 j h1 jB
  ·have e:gy qi s k=m:=ye (by simp only[qi,decide_eq_true_eq];omega) SU Rh Q2;rw[e]at J' Qd;refine P9 _ _ (dI m ⟨jB,by rw[<-Qf,Fe J']⟩ jJ rfl bK)
 ·(refine cj [.tmp 4] ?_ ?_<;>(try simp only[go_sem]))
  rw[<-Qf,CJ];unfold kR;rw[jP,if_neg (by simp[vX];omega),if_neg];simp[wG];omega
 ·(refine cj [.tmp 4] ?_ ?_<;>(try simp only[go_sem]))
  rw[<-Qf,CJ];unfold kR;rw[jN]
def I2(s:P0)(a:Nat)(hs:s.size<=1000000)(ha:a<s.size):aA prog 130 [rS s,rI a] (.bt [rS (mP s a).1,rI (mP s a).2.1,rI (mP s a).2.2]):=by
 refine bI func130 ntmps130 ?_
 (repeat' (first|refine aq fun K hK=>?_|refine am ?_|(refine hK _ _ ?_;clear hK K)|(refine ao ?_ ?_<;>intro hc<;>try exact jz)|refine ap ?_|exact jI|(clear hK K)))
 have M':=hK;clear hK;refine de (S:=Nat) [(7,1),(10,24)] (fun m=>a+1<=m/\m<=s.size/\∀j,a+1<=j->j<m->rl (dV s j)=true) (fun m=>[(7,rI m)]) (fun _=>⟨[],[]⟩) (fun m=>s.size-m) (a+1) ⟨jB,jB,fun j h1 h2=>jB⟩ (dc rfl bK) ?_;rintro m ⟨SU,Rh,Q2⟩ Kr P9;refine S ?_
 (repeat' (first|refine aq fun K hK=>?_|refine am ?_|(refine hK _ _ ?_;clear hK K)|(refine ao ?_ ?_<;>intro hc<;>try exact jz)|refine M' _ _ ?_|refine ap ?_|exact jI|(clear hK K)))
 ·refine P9 _ _ (dI (m+1) ⟨jB,jB,fun j h1 h2=>?_⟩ jJ rfl bK);by_cases e:j=m
  ·subst e;simp only[rl,Bool.and_eq_true,decide_eq_true_eq];exact⟨⟨hc.1.1.2,hc.1.2⟩,hc.2⟩
  ·exact Q2 j h1 jB
 all_goals have e:gy rl s (a+1)=m:=ye (by simp only[rl,Bool.and_eq_true,decide_eq_true_eq];omega) SU Rh Q2
 ·(refine cj [.tmp 4,.tmp 5,.tmp 6] ?_ ?_<;>(try simp only[go_sem]))
  simp only[mP,e];rw[jN]
 ·(refine cj [.tmp 4,.tmp 5,.tmp 6] ?_ ?_<;>(try simp only[go_sem]))
  simp only[mP,e];rw[jP,jP]
 ·(refine cj [.tmp 4,.tmp 5,.tmp 6] ?_ ?_<;>(try simp only[go_sem]))
  simp only[mP,e];rw[jP,jN]
def L5:hZ.length=5:=rfl
def IC(s:P0)(hs:0<s.size)(VN:s.size<=1000000):aA prog 131 [rS s] (rS (mm s)):=by
 refine bI func131 ntmps131 ?_
 (repeat' (first|refine aq fun K hK=>?_|refine am ?_|(with_reducible refine gR 5 ?_);refine dE 5 (au 0 12) mixed ?_|(with_reducible refine gR 11 ?_);refine dE 11 (au 0 6) mixed ?_|(refine hK _ _ ?_;clear hK K)|(refine ao ?_ ?_<;>intro hc<;>try exact jz)|refine ap ?_|exact jI|(clear hK K)))
 have M':=hK;clear hK;refine de (S:=Nat) [(2,1),(4,1),(8,22)] (fun k=>k<=5/\∀j,j<k->n9 s (nth hZ j)=false) (fun k=>[(3,.sl true 1 (hZ.map eS) []),(4,rI k)]) (fun _=>⟨[],[]⟩) (fun k=>5-k) 0 ⟨jB,fun j h=>jB⟩ (dc rfl (by(repeat' (first|exact jI|exact Or.inr rfl|exact Or.inl rfl|refine jA ?_ ?_)))) ?_;rintro k ⟨Qt,Qf⟩ Kr P9;have hl:=L5;refine S ?_
 (repeat' (first|refine aq fun K hK=>?_|refine am ?_|(with_reducible refine gR 5 ?_);refine dE 5 (au 0 12) mixed ?_|(with_reducible refine gR 11 ?_);refine dE 11 (au 0 6) mixed ?_|(refine hK _ _ ?_;clear hK K)|(refine ao ?_ ?_<;>intro hc<;>try exact jz)|refine M' _ _ ?_|refine ap ?_|exact jI|(clear hK K)))
 ·(refine cj [.tmp 2] ?_ ?_<;>(try simp only[go_sem]))
  have:hZ.find? (n9 s)=some (nth hZ k):=ww Qf jB (by simp only[n9,Bool.and_eq_true,decide_eq_true_eq];exact hc);simp only[mm,this]
 ·refine P9 _ _ (dI (k+1) ⟨jB,fun j hj=>?_⟩ jJ rfl bK);by_cases e:j=k
  ·subst e;simp only[n9,Bool.and_eq_false_iff,decide_eq_false_iff_not,Int.not_le];exact hc
  ·exact Qf j jB
 ·have h2:hZ.find? (n9 s)=none:=zj fun j hj=>Qf j jB
  have M':=hK;clear hK;have hos:gm.size=16:=rfl;refine de (S:=Nat) [(2,1),(6,1),(30,17)] (fun k=>k<=16/\∀j,j<k->decide (dV s 0=dV gm (nth (List.range 16) j:Nat))=false) (fun k=>[(5,rS gm),(6,rI k)]) (fun _=>⟨[],[]⟩) (fun k=>16-k) 0 ⟨jB,fun j h=>jB⟩ (dc rfl (by(repeat' (first|exact jI|exact Or.inr rfl|exact Or.inl rfl|refine jA ?_ ?_)))) ?_;rintro m ⟨SU,Rh⟩ Kj VM;refine S ?_
  (repeat' (first|refine aq fun K hK=>?_|refine am ?_|(with_reducible refine gR 5 ?_);refine dE 5 (au 0 12) mixed ?_|(with_reducible refine gR 11 ?_);refine dE 11 (au 0 6) mixed ?_|(refine hK _ _ ?_;clear hK K)|(refine ao ?_ ?_<;>intro hc<;>try exact jz)|refine M' _ _ ?_|refine ap ?_|exact jI|(clear hK K)))
  ·(refine cj [.tmp 2] ?_ ?_<;>(try simp only[go_sem]))
   have h3:(List.range 16).find? (fun k:Nat=>decide (dV s 0=dV gm (k:Nat)))=some (nth (List.range 16) m):=ww Rh jF (by rw[ze jB];simpa using hc);simp only[mm,h2,h3];rw[ze jB]
  ·refine VM _ _ (dI (m+1) ⟨jB,fun j hj=>?_⟩ jJ rfl bK);by_cases e:j=m
   ·subst e;rw[ze jB];simpa using hc
   ·exact Rh j jB
  ·(refine cj [.tmp 2] ?_ ?_<;>(try simp only[go_sem]))
   have h3:(List.range 16).find? (fun k:Nat=>decide (dV s 0=dV gm (k:Nat)))=none:=zj fun j hj=>Rh j (by simp at hj;omega)
   simp only[mm,h2,h3]
def oA(t:bZ×Int×Int):AV:=.bt [.agg (kQ t.1),rI t.2.1,rI t.2.2]
def J1(s:P0)(a:Nat)(hs:s.size<=1000000)(ha:a<s.size):aA prog 84 [rS s,rI a] (oA (fS s a)):=by
 have hex:(s.extract a s.size).size=s.size-a:=by rw[ByteArray.size_extract];omega
 have Qh:=KS (s.extract a s.size);refine bI func84 ntmps84 ?_
 (repeat' (first|refine aq fun K hK=>?_|refine am ?_|(refine hK _ _ ?_;clear hK K)|(refine ao ?_ ?_<;>intro hc<;>try exact jz)|refine cp (uA _) ?_|refine cp (zc _) ?_|refine cp (I2 s a hs ha) ?_|refine cp (IC _ jB jB) ?_|refine ap ?_|exact jI|(clear hK K)))
 ·have M':=hK;clear hK;refine de (S:=Nat) [(8,1),(20,12)] (fun m=>a<=m/\m<=s.size/\∀j,a<=j->j<m->iL (dV s j)=true) (fun m=>[(8,rI m)]) (fun _=>⟨[],[(0,.var 168 (kQ sq))]⟩) (fun m=>s.size-m) a ⟨jB,jB,fun j h1 h2=>jB⟩ (dc rfl bK) ?_;rintro m ⟨SU,Rh,Q2⟩ Kr P9;refine S ?_
  (repeat' (first|refine aq fun K hK=>?_|refine am ?_|(refine hK _ _ ?_;clear hK K)|(refine ao ?_ ?_<;>intro hc<;>try exact jz)|(first|refine cg (uA _) ?_|refine ma (uA _) ?_)|refine M' _ _ ?_|refine ap ?_|exact jI|(clear hK K)))
  ·refine P9 _ _ (dI (m+1) ⟨jB,jB,fun j h1 h2=>?_⟩ jJ rfl bK);by_cases e:j=m
   ·subst e;exact hc.2
   ·exact Q2 j h1 jB
  ·have hd:iL (dV s a)=true:=by assumption
   have e:gy iL s a=m:=ye (by rintro⟨h1,h2⟩;rcases hc with h|h;omega;rw[h2]at h;cases h) SU Rh Q2
   (repeat' (first|refine aq fun K hK=>?_|refine am ?_|(refine hK _ _ ?_;clear hK K)|(refine ao ?_ ?_<;>intro hc<;>try exact jz)|refine cp (PO _) ?_|refine ap ?_|exact jI|(clear hK K)))
   ·(refine aY [.cell 4 168,.tmp 5,.tmp 6] ?_;try simp only[go_sem])
    simp only[fS,hd,if_true,e,if_neg,hc,Bool.false_eq_true,if_false,oA,sq];rfl
   ·(refine aY [.cell 4 168,.tmp 5,.tmp 6] ?_;try simp only[go_sem])
    simp only[fS,hd,if_true,e,hc,oA];rfl
 ·have M':=hK;clear hK;have Uv:iL (dV s a)=false:=by assumption
  have P':vG (dV s a)=true:=by assumption
  refine de (S:=Nat) [(8,1),(49,24)] (fun m=>a<=m/\m<=s.size/\∀j,a<=j->j<m->mW (dV s j)=true) (fun m=>[(8,rI m)]) (fun _=>⟨[],[(0,.var 168 (kQ sq))]⟩) (fun m=>s.size-m) a ⟨jB,jB,fun j h1 h2=>jB⟩ (dc rfl bK) ?_;rintro m ⟨SU,Rh,Q2⟩ Kr P9;have hexm:(s.extract a m).size=m-a:=by rw[ByteArray.size_extract];omega
  refine S ?_
  (repeat' (first|refine aq fun K hK=>?_|refine am ?_|(refine hK _ _ ?_;clear hK K)|(refine ao ?_ ?_<;>intro hc<;>try exact jz)|(first|refine cg (uA _) ?_|refine ma (uA _) ?_)|(first|refine cg (zc _) ?_|refine ma (zc _) ?_)|refine cp (Jo _) ?_|refine M' _ _ ?_|refine ap ?_|exact jI|(clear hK K)))
  ·refine P9 _ _ (dI (m+1) ⟨jB,jB,fun j h1 h2=>?_⟩ jJ rfl bK);by_cases e:j=m
   ·subst e;simp only[mW,Bool.or_eq_true,decide_eq_true_eq];exact hc.2
   ·exact Q2 j h1 jB
  all_goals
   have Rv:(s.size:Int)<=m\/(vG (dV s m)=false/\iL (dV s m)=false)/\¬dV s m=95:=by assumption
   have e:gy mW s a=m:=ye (by
    simp only[mW,Bool.or_eq_true,decide_eq_true_eq];rintro⟨h1,h2⟩;rcases Rv with h|⟨⟨h3,h4⟩,h5⟩
    ·omega
    ·rcases h2 with(h|h)|h
     ·rw[h]at h3;exact Bool.noConfusion h3
     ·rw[h]at h4;exact Bool.noConfusion h4
     ·exact h5 h) SU Rh Q2
  ·(refine aY [.cell 4 168,.tmp 5,.tmp 6] ?_;try simp only[go_sem])
   simp only[fS,Uv,P',e,hc,Bool.false_eq_true,if_false,if_true,oA];rfl
  ·(refine aY [.cell 4 168,.tmp 5,.tmp 6] ?_;try simp only[go_sem])
   simp only[fS,Uv,P',e, *,Bool.false_eq_true,if_false,if_true,oA];rw[jP];rfl
  ·(refine aY [.cell 4 168,.tmp 5,.tmp 6] ?_;try simp only[go_sem])
   simp only[fS,Uv,P',e, *,Bool.false_eq_true,if_false,if_true,oA];rw[jN];rfl
 ·(refine aY [.cell 4 168,.tmp 5,.tmp 6] ?_;try simp only[go_sem])
  simp only[fS, *,Bool.false_eq_true,if_false,if_true,oA];rfl
 ·(refine aY [.cell 4 168,.tmp 5,.tmp 6] ?_;try simp only[go_sem])
  simp only[fS, *,Bool.false_eq_true,if_false,if_true,oA];rfl
 ·(refine aY [.cell 4 168,.tmp 5,.tmp 6] ?_;try simp only[go_sem])
  simp only[fS, *,Bool.false_eq_true,if_false,oA];rfl
attribute [go_sem] oA
def C5(s:P0)(hs:s.size<=1000000):aA prog 52 [rS s] (.bt [ax kQ 3 (jg s).1,rI (jg s).2.1,rI (jg s).2.2]):=by
 refine bI func52 ntmps52 ?_
 (repeat' (first|refine aq fun K hK=>?_|refine am ?_|(refine hK _ _ ?_;clear hK K)|(refine ao ?_ ?_<;>intro hc<;>try exact jz)|refine cp (GN s 0 hs (Nat.zero_le _)) ?_|refine ap ?_|exact jI|(clear hK K)))
 ·refine jf [.tmp 2,.tmp 3,.tmp 4] ?_;simp only[jg,if_pos hc];refine bc.bt ?_;exact gJ
 ·have M':=hK;clear hK;have h0:=sX (s:=s) (i:=0) (Nat.zero_le _);refine de (S:=Nat×List bZ) [(2,8),(16,22)] (fun p=>p.1<=s.size/\p.2.length<=p.1/\tR s p.1 p.2=jg s) (fun p=>[(5,.rs 0 p.2.length 3 p.2.length),(6,rI p.1)]) (fun p=>⟨[],[(0,.aG 168 3 (p.2.map kQ))]⟩) (fun p=>s.size-p.1) (mL s 0,[]) ⟨h0.2,Nat.zero_le _,by simp only[jg];rw[jN]⟩ (dc rfl bK) ?_;rintro⟨k,ts⟩ ⟨Qt,Qf,Tf⟩ Kr P9;simp only at Qt Qf Tf
  (refine S ?_;try exact jI)
  by_cases hk:k<s.size
  ·have Xx:=xv (s:=s) (a:=k) hk
   (repeat' (first|refine aq fun K hK=>?_|refine am ?_|(refine hK _ _ ?_;clear hK K)|(refine ao ?_ ?_<;>intro hc<;>try exact jz)|refine cp (J1 s k hs hk) ?_|refine M' _ _ ?_|refine ap ?_|exact jI|(clear hK K)))
   ·refine jf [.tmp 2,.tmp 3,.tmp 4] ?_;rw[<-Tf,M1 hk (by assumption)];refine bc.bt ?_;exact gJ
   ·obtain⟨e,Td,UN,Yr⟩:=Xx hc;have h4:=sX Yr;rw[Td]
    (repeat' (first|refine aq fun K hK=>?_|refine am ?_|(refine hK _ _ ?_;clear hK K)|(refine ao ?_ ?_<;>intro hc<;>try exact jz)|refine cp (GN s e hs Yr) ?_|refine ap ?_|exact jI|(clear hK K)))
    refine P9 _ _ (oP [1] (mL s e,ts++[(fS s k).1]) ⟨h4.2,by simp;omega,by rw[<-Tf,Nf hk hc,Td];simp⟩ jJ rfl Sd Sd gJ)
  ·(repeat' (first|refine aq fun K hK=>?_|refine am ?_|(refine hK _ _ ?_;clear hK K)|(refine ao ?_ ?_<;>intro hc<;>try exact jz)|refine M' _ _ ?_|refine ap ?_|exact jI|(clear hK K)))
   refine jf [.tmp 2,.tmp 3,.tmp 4] ?_;rw[<-Tf,Hv hk];simp only[go_sem];refine bc.bt ?_;refine jA ?_ (jA (.same _ rfl) (jA (.same _ rfl) trivial));refine db.row (enc:=kQ) (e:=168) (ts++[⟨0,⟨#[]⟩,s.size⟩]) ?_ ?_ ?_
   ·rfl
   ·(refine S ?_;try exact jI)
    rfl
   ·(refine S ?_;try exact jI)
def gi(r:Rd):PW:=[rS r.src,ax kQ 3 r.l,rI r.i,.rs 1 r.nodes.length 5 r.nodes.length,rI r.deep,rI r.e,rI r.at_]
def cc(r:Rd):PV:=[(0,.var 128 (gi r)),(1,.aG 78 5 (r.nodes.map bX))]
attribute [go_sem] cc gi
abbrev pR:AV:=.pt 0 0 0 0
structure mI(r:Rd):Prop where
 src:r.src.size<=1000
 pos:0<=r.i
 lt:r.i<r.l.length
 len:r.l.length<=2000
 nr:-1000<=r.deep
 n7:r.deep<=1000
 nodes:r.nodes.length<=100000
def bu{r:Rd}(h:r.Inv):mI r:=by have hp:=h.dv;unfold Rd.dv at hp;have:=h.lt;have:=h.nr;have:=h.n7;exact⟨h.src,h.pos,h.lt,h.len,jB,jB,by split at hp<;>omega⟩
def rj(r:Rd)(e:Int)(h:mI r):af prog 133 [pR,rI e] (cc r) (fun v l=>v=.bt []/\l=cc (r.aD e)):=by
 obtain⟨h1,h2,h3,h4,h5,h6,h7⟩:=h;refine aO func133 ntmps133 ?_;simp only[cc,gi]
 (repeat' (first|refine aq fun K hK=>?_|refine am ?_|(with_reducible refine gR 2 ?_);refine dE 2 (au 0 15) mixed ?_|(refine hK _ _ ?_;clear hK K)|(refine ao ?_ ?_<;>intro hc<;>try exact jz)|refine ap ?_|exact jI|(clear hK K)))
 ·(refine cj [] ?_ ?_<;>(try simp only[go_sem]))
  simp only[Rd.aD,if_pos hc];rfl
 ·(refine cj [] ?_ ?_<;>(try simp only[go_sem]))
  simp only[Rd.aD,if_neg hc]
def fx(r:Rd)(t:P0)(h:mI r):af prog 88 [pR,rS t] (cc r) (fun v l=>v=rB (r.is t)/\l=cc r):=by
 obtain⟨h1,h2,h3,h4,h5,h6,h7⟩:=h;refine aO func88 ntmps88 ?_;simp only[cc,gi]
 (repeat' (first|refine aq fun K hK=>?_|refine am ?_|(with_reducible refine gR 1 ?_);refine dE 1 (au 0 12) mixed ?_|(refine hK _ _ ?_;clear hK K)|(refine ao ?_ ?_<;>intro hc<;>try exact jz)|refine ap ?_|exact jI|(clear hK K)))
 (refine aY [.tmp 4] ?_;try simp only[go_sem])
 rfl
def uL(r:Rd)(k:Int)(h:mI r):af prog 53 [pR,rI k] (cc r) (fun v l=>v=rB (r.kind k)/\l=cc r):=by
 obtain⟨h1,h2,h3,h4,h5,h6,h7⟩:=h;refine aO func53 ntmps53 ?_;simp only[cc,gi]
 (repeat' (first|refine aq fun K hK=>?_|refine am ?_|(with_reducible refine gR 1 ?_);refine dE 1 (au 0 21) mixed ?_|(refine hK _ _ ?_;clear hK K)|(refine ao ?_ ?_<;>intro hc<;>try exact jz)|refine ap ?_|exact jI|(clear hK K)))
 (refine aY [.tmp 4] ?_;try simp only[go_sem])
 rfl
def gK(r:Rd)(t:P0)(h:mI r):af prog 86 [pR,rS t] (cc r) (fun v l=>v=.bt []/\l=cc (r.ar t)):=by
 have Su:=fx r t h;have hf:=rj r 20 h;obtain⟨h1,h2,h3,h4,h5,h6,h7⟩:=h;simp only[cc,gi]at Su hf;refine aO func86 ntmps86 ?_;simp only[cc,gi]
 (repeat' (first|refine aq fun K hK=>?_|refine am ?_|(refine hK _ _ ?_;clear hK K)|(refine ao ?_ ?_<;>intro hc<;>try exact jz)|refine cm (Su) ?_|refine cm (hf) ?_|refine ap ?_|exact jI|(clear hK K)))
 ·(refine cj [] ?_ ?_<;>(try simp only[go_sem]))
  simp only[Rd.ar,hc,Bool.false_eq_true,if_false,go_sem]
 ·(refine cj [] ?_ ?_<;>(try simp only[go_sem]))
  simp only[Rd.ar,hc,if_true];rfl
def sL(r:Rd)(h:mI r):af prog 87 [pR] (cc r) (fun v l=>v=rS r.name.2/\l=cc r.name.1):=by
 have Su:=uL r 3 h;have hf:=rj r 20 h;obtain⟨h1,h2,h3,h4,h5,h6,h7⟩:=h;simp only[cc,gi]at Su hf;refine aO func87 ntmps87 ?_;simp only[cc,gi]
 (repeat' (first|refine aq fun K hK=>?_|refine am ?_|(with_reducible refine gR 6 ?_);refine dE 6 (au 0 13) mixed ?_|(refine hK _ _ ?_;clear hK K)|(refine ao ?_ ?_<;>intro hc<;>try exact jz)|refine cm (Su) ?_|refine cm (hf) ?_|refine ap ?_|exact jI|(clear hK K)))
 ·(refine cj [.tmp 2] ?_ ?_<;>(try simp only[go_sem]))
  ·simp only[Rd.name,hc,Bool.false_eq_true,if_false]
  ·simp only[Rd.name,hc,Bool.false_eq_true,if_false,go_sem]
 ·(refine cj [.tmp 2] ?_ ?_<;>(try simp only[go_sem]))
  ·simp only[Rd.name,hc,if_true];rw[show r.i+1-1=r.i from jB];rfl
  ·simp only[Rd.name,hc,if_true];rfl
def fU(r:Rd)(h:mI r):af prog 85 [pR] (cc r) (fun v l=>v=rI r.cv/\l=cc r):=by
 obtain⟨h1,h2,h3,h4,h5,h6,h7⟩:=h;refine aO func85 ntmps85 ?_;simp only[cc,gi]
 (repeat' (first|refine aq fun K hK=>?_|refine am ?_|(with_reducible refine gR 1 ?_);refine dE 1 (au 0 17) mixed ?_|(refine hK _ _ ?_;clear hK K)|(refine ao ?_ ?_<;>intro hc<;>try exact jz)|refine cp (J8 _ _ jB) ?_|refine ap ?_|exact jI|(clear hK K)))
 (refine cj [.tmp 2] ?_ ?_<;>(try simp only[go_sem]))
 rfl
def vQ(r:Rd)(k ln n:Int)(nm:P0)(L:PY)(h:mI r):af prog 138 [pR,rI k,rI ln,rI n,rS nm,ax eI 1 L] (cc r) (fun v l=>v=rI (r.put k ln n nm L).2/\l=cc (r.put k ln n nm L).1):=by
 obtain⟨h1,h2,h3,h4,h5,h6,h7⟩:=h;refine aO func138 ntmps138 ?_;simp only[cc,gi]
 (repeat' (first|refine aq fun K hK=>?_|refine am ?_|(refine hK _ _ ?_;clear hK K)|(refine ao ?_ ?_<;>intro hc<;>try exact jz)|refine ap ?_|exact jI|(clear hK K)))
 (refine cj [.tmp 12] ?_ ?_<;>(try simp only[go_sem]))
 ·simp only[Rd.put];exact PC jB
 ·simp only[Rd.put,Rd.node,List.map_append,List.length_append,List.length_cons,List.length_nil];rfl
def ru(r:Rd)(h:mI r):af prog 136 [pR] (cc r) (fun v l=>v=.bt []/\l=cc r.down):=by
 have hf:=rj r 21 h;obtain⟨h1,h2,h3,h4,h5,h6,h7⟩:=h;simp only[cc,gi]at hf;refine aO func136 ntmps136 ?_;simp only[cc,gi]
 (repeat' (first|refine aq fun K hK=>?_|refine am ?_|(refine hK _ _ ?_;clear hK K)|(refine ao ?_ ?_<;>intro hc<;>try exact jz)|refine cm (hf) ?_|refine ap ?_|exact jI|(clear hK K)))
 ·(refine cj [] ?_ ?_<;>(try simp only[go_sem]))
  simp only[Rd.down,if_pos hc,go_sem]
 ·(refine cj [] ?_ ?_<;>(try simp only[go_sem]))
  simp only[Rd.down];rw[jN]
def pU(r:Rd)(h:mI r):af prog 134 [pR] (cc r) (fun v l=>v=rS r.word/\l=cc r):=by
 have Su:=uL r 4 h;obtain⟨h1,h2,h3,h4,h5,h6,h7⟩:=h;simp only[cc,gi]at Su;refine aO func134 ntmps134 ?_;simp only[cc,gi]
 (repeat' (first|refine aq fun K hK=>?_|refine am ?_|(with_reducible refine gR 3 ?_);refine dE 3 (au 0 12) mixed ?_|(refine hK _ _ ?_;clear hK K)|(refine ao ?_ ?_<;>intro hc<;>try exact jz)|refine cm (Su) ?_|refine ap ?_|exact jI|(clear hK K)))
 ·(refine cj [.tmp 2] ?_ ?_<;>(try simp only[go_sem]))
  simp only[Rd.word,hc,if_true];rfl
 ·(refine cj [.tmp 2] ?_ ?_<;>(try simp only[go_sem]))
  simp only[Rd.word,hc,Bool.false_eq_true,if_false]
def KJ(r:Rd)(h:mI r)(hn:r.kind 3=true->r.i+1<r.l.length):af prog 173 [pR] (cc r) (fun v l=>v=rB r.calls/\l=cc r):=by
 have Su:=uL r 3 h;obtain⟨h1,h2,h3,h4,h5,h6,h7⟩:=h;simp only[cc,gi]at Su;refine aO func173 ntmps173 ?_;simp only[cc,gi]
 (repeat' (first|refine aq fun K hK=>?_|refine am ?_|(with_reducible refine gR 2 ?_);refine dE 2 (au 0 32) mixed ?_|(refine hK _ _ ?_;clear hK K)|(refine ao ?_ ?_<;>intro hc<;>try exact jz)|refine cm (Su) ?_|refine ap ?_|exact jI|(clear hK K)))
 refine⟨fun h=>⟨h,jB,hn h⟩,fun h=>⟨h,jB,hn (by simp only[Bool.and_eq_true]at h;exact h.1)⟩,?_⟩
 (repeat' (first|refine aq fun K hK=>?_|refine am ?_|(with_reducible refine gR 2 ?_);refine dE 2 (au 0 32) mixed ?_|(refine hK _ _ ?_;clear hK K)|(refine ao ?_ ?_<;>intro hc<;>try exact jz)|refine ap ?_|exact jI|(clear hK K)))
 (refine aY [.tmp 2] ?_;try simp only[go_sem])
 rfl
def MW(lv:Int):aA prog 193 [rI lv] (ax eS 1 (lG lv)):=by
 refine bI func193 ntmps193 ?_
 (repeat' (first|refine aq fun K hK=>?_|refine am ?_|(refine hK _ _ ?_;clear hK K)|(refine ao ?_ ?_<;>intro hc<;>try exact jz)|refine ap ?_|exact jI|(clear hK K)))
 all_goals refine jf [.tmp 2] ?_
 all_goals simp only[lG, *,if_true,if_false,Int.reduceEq,if_pos,if_neg,not_false_eq_true]
 all_goals exact .lit _ _ _ _ _
def IA(lv:Int):(lG lv).length<=4/\∀s∈lG lv,s≠⟨#[]⟩:=by
 unfold lG;split
 ·decide
 ·split
  ·decide
  ·split
   ·decide
   ·split<;>decide
def GU(r:Rd)(lv:Int)(h:mI r):af prog 184 [pR,rI lv] (cc r) (fun v l=>v=rS (r.next lv)/\l=cc r):=by
 have Su:=fun t=>fx r t h
 have hl:=IA lv;obtain⟨h1,h2,h3,h4,h5,h6,h7⟩:=h;simp only[cc,gi]at Su;refine aO func184 ntmps184 ?_;simp only[cc,gi]
 (repeat' (first|refine aq fun K hK=>?_|refine am ?_|(refine hK _ _ ?_;clear hK K)|(refine ao ?_ ?_<;>intro hc<;>try exact jz)|refine cp (MW lv) ?_|refine ap ?_|exact jI|(clear hK K)))
 have M':=hK;clear hK;refine de (S:=Nat) [(4,1),(6,2),(10,17)] (fun k=>k<=(lG lv).length/\∀j,j<k->r.is (nth (lG lv) j)=false) (fun k=>[(6,rI k)]) (fun _=>⟨[0,1],cc r⟩) (fun k=>(lG lv).length-k) 0 ⟨jB,fun j h=>jB⟩ (dc rfl bK) ?_;rintro k ⟨Qt,Qf⟩ Kr P9;simp only[cc,gi];refine S ?_
 (repeat' (first|refine aq fun K hK=>?_|refine am ?_|(refine hK _ _ ?_;clear hK K)|(refine ao ?_ ?_<;>intro hc<;>try exact jz)|refine cm (Su _) ?_|refine M' _ _ ?_|refine ap ?_|exact jI|(clear hK K)))
 ·(refine cj [.tmp 4] ?_ ?_<;>(try simp only[go_sem]))
  have:(lG lv).find? (fun s=>r.is s)=some (nth (lG lv) k):=ww Qf jB hc;simp only[Rd.next,this]
 ·refine P9 _ _ (dI (k+1) ⟨jB,fun j hj=>?_⟩ jJ rfl bK);by_cases e:j=k
  ·subst e;exact hc
  ·exact Qf j jB
 ·(refine cj [.tmp 4] ?_ ?_<;>(try simp only[go_sem]))
  have:(lG lv).find? (fun s=>r.is s)=none:=zj fun j hj=>Qf j jB
  simp only[Rd.next,this]
def yy{P:P6}{f:FuncId}{args args':PW}{l:PV}{R:AV->List P8->Prop}(hl:nU args args')(h:af P f args' l R):af P f args l R:=fun w vs h1 h2=>by
 obtain⟨g',hg⟩:=hl.get;refine h w vs h1 ⟨g'.symm.trans h2.1,fun i a v ha hv=>?_⟩;have hi:i<args.length:=by rw[g'];exact(List.getElem?_eq_some_iff.1 ha).1
 exact hg i args[i] a (List.getElem?_eq_getElem hi) ha w v (h2.2 i _ v (List.getElem?_eq_getElem hi) hv)
def ju(r:Rd)(k ln n:Int)(nm:P0)(L:PY)(a:AV)(ha:eV a (ax eI 1 L))(h:mI r):af prog 138 [pR,rI k,rI ln,rI n,rS nm,a] (cc r) (fun v l=>v=rI (r.put k ln n nm L).2/\l=cc (r.put k ln n nm L).1):=
 yy (args':=[pR,rI k,rI ln,rI n,rS nm,ax eI 1 L]) ⟨eV.refl _,eV.refl _,eV.refl _,eV.refl _,eV.refl _,ha,trivial⟩ (vQ r k ln n nm L h)
def Ar(n:Nat):Prop:=∀r:Rd,r.Inv->8*r.rem+1<=n->af prog 192 [pR] (cc r) (fun v l=>v=rI (oI n r).2/\l=cc (oI n r).1)
def xZ(n:Nat):Prop:=∀r:Rd,r.Inv->8*r.rem+2<=n->af prog 183 [pR] (cc r) (fun v l=>v=rI (gl n r).2/\l=cc (gl n r).1)
def xS(n:Nat):Prop:=∀(lv:Nat) (r:Rd),lv<=5->r.Inv->8*r.rem+8-lv<=n->af prog 175 [pR,rI lv] (cc r) (fun v l=>v=rI (dG n lv r).2/\l=cc (dG n lv r).1)
def Ky(n:Nat)(ha:Ar n)(hf:xZ n):xZ (n+1):=by
 intro r h hn;have sg:∀t,r.is t=true->r.e=0/\r.down.Inv/\r.down.inc.Inv/\r.down.inc.rem+1<=r.rem:=fun t ht=>by
  obtain⟨he,hk⟩:=Rd.aV ht;obtain⟨h1,h2,h3,h4,_⟩:=Rd.bG h he;have SS:r.down.tok=r.tok:=by unfold Rd.tok;rw[h3,h4]
  obtain⟨s1,e1⟩:=Rd.bm h1 (by rw[SS];exact hk);have:=s1.inv h1;have hb:=Rd.behind h1 (by rw[SS];exact hk);refine⟨he,h1,this,?_⟩;unfold Rd.rem;rw[if_pos he];have:r.down.inc.i=r.i+1:=by show r.down.i+1=_;rw[h3]
  have hl:r.down.inc.l=r.l:=h4;rw[this,hl];rw[h3,h4]at hb;split<;>omega
 by_cases hm:r.is (⟨#[45]⟩:P0)=true
 ·obtain⟨he,h1,h2,h3⟩:=sg _ hm;have s2:=(qh n).2.1 _ h2;have h4:=s2.inv h2;have h5:(gl n r.down.inc).1.up.Inv:=(Rd.eG h he ((Rd.bm h1 (by obtain⟨_,_,h3,h4,_⟩:=Rd.bG h he;unfold Rd.tok;rw[h3,h4];exact(Rd.aV hm).2)).1.trans s2)).inv h;have Vj:=h2.nr;have Y6:=h2.n7;have So:=h1.lt;have Tb:=h1.len;have Xy:=h1.pos;have WV:=h4.nr;have Y7:=h4.n7;rw[gl,if_pos hm];refine aO func183 ntmps183 ?_;refine S ?_
  (have W:=hm;repeat' (first|refine aq fun K hK=>?_|refine am ?_|(refine hK _ _ ?_;clear hK K)|(refine ao ?_ ?_<;>intro hc<;>try exact jz)|refine cm (fU r (bu h)) ?_|refine cm (fx r _ (bu h)) ?_|refine cm (ru r (bu h)) ?_|refine cm (hf r.down.inc h2 jB) ?_|refine cm (ju (gl n r.down.inc).1.up _ _ _ _ [(gl n r.down.inc).2] _ eV.sl (bu h5)) ?_|refine ap ?_|exact jI|(clear hK K)))
  (refine cj [.tmp 2] ?_ ?_<;>(try simp only[go_sem]))
 ·have Ys:r.is (⟨#[45]⟩:P0)=false:=by simpa using hm
  by_cases hq:r.is (⟨#[33]⟩:P0)=true
  ·obtain⟨he,h1,h2,h3⟩:=sg _ hq;have s2:=(qh n).2.1 _ h2;have h4:=s2.inv h2;have h5:(gl n r.down.inc).1.up.Inv:=(Rd.eG h he ((Rd.bm h1 (by obtain⟨_,_,h3,h4,_⟩:=Rd.bG h he;unfold Rd.tok;rw[h3,h4];exact(Rd.aV hq).2)).1.trans s2)).inv h;have Vj:=h2.nr;have Y6:=h2.n7;have So:=h1.lt;have Tb:=h1.len;have Xy:=h1.pos;have WV:=h4.nr;have Y7:=h4.n7;rw[gl,if_neg hm,if_pos hq];refine aO func183 ntmps183 ?_;refine S ?_
   (have W:=jA Ys hq;repeat' (first|refine aq fun K hK=>?_|refine am ?_|(refine hK _ _ ?_;clear hK K)|(refine ao ?_ ?_<;>intro hc<;>try exact jz)|refine cm (fU r (bu h)) ?_|refine cm (fx r _ (bu h)) ?_|refine cm (ru r (bu h)) ?_|refine cm (hf r.down.inc h2 jB) ?_|refine cm (ju (gl n r.down.inc).1.up _ _ _ _ [(gl n r.down.inc).2] _ eV.sl (bu h5)) ?_|refine ap ?_|exact jI|(clear hK K)))
   (refine cj [.tmp 2] ?_ ?_<;>(try simp only[go_sem]))
  ·have Y8:r.is (⟨#[33]⟩:P0)=false:=by simpa using hq
   rw[gl,if_neg hm,if_neg hq];refine aO func183 ntmps183 ?_;refine S ?_
   (have W:=jA Ys Y8;repeat' (first|refine aq fun K hK=>?_|refine am ?_|(refine hK _ _ ?_;clear hK K)|(refine ao ?_ ?_<;>intro hc<;>try exact jz)|refine cm (fU r (bu h)) ?_|refine cm (fx r _ (bu h)) ?_|refine cm (ha r h jB) ?_|refine ap ?_|exact jI|(clear hK K)))
   (refine cj [.tmp 2] ?_ ?_<;>(try simp only[go_sem]))
def NT(n:Nat)(hf:xZ n)(Rv:∀m,m<=n->xS m):xS (n+1):=by
 intro lv r hlv h hn;have Qb:∀(m:Nat) (q:Rd),m<=n->lv+1<=5->q.Inv->8*q.rem+7-lv<=m->af prog 175 [pR,rI ((lv:Int)+1)] (cc q) (fun v l=>v=rI (dG m (lv+1) q).2/\l=cc (dG m (lv+1) q).1):=fun m q hm hl hq hr=>by have:=Rv m hm (lv+1) q hl hq jB;rw[show((lv+1:Nat):Int)=(lv:Int)+1 from jB]at this;exact this
 by_cases h5:lv=5
 ·subst h5;rw[dG,if_pos rfl];refine aO func175 ntmps175 ?_;refine S ?_
  (repeat' (first|refine aq fun K hK=>?_|refine am ?_|(refine hK _ _ ?_;clear hK K)|(refine ao ?_ ?_<;>intro hc<;>try exact jz)|refine cm (hf r h jB) ?_|refine ap ?_|exact jI|(clear hK K)))
  (refine cj [.tmp 4] ?_ ?_<;>(try simp only[go_sem]))
 ·rw[dG,if_neg h5];have s1:=(qh n).2.2.1 (lv+1) r h;have h1:=s1.inv h;have Tk:=s1.rem;refine aO func175 ntmps175 ?_;refine S ?_
  (repeat' (first|refine aq fun K hK=>?_|refine am ?_|(refine hK _ _ ?_;clear hK K)|(refine ao ?_ ?_<;>intro hc<;>try exact jz)|refine cm (fU r (bu h)) ?_|refine cm (Qb n r jl jB h jB) ?_|refine ap ?_|exact jI|(clear hK K)))
  refine de (S:=Nat×Rd×Int) [(4,1),(6,3),(19,27)] (fun s=>s.2.1.Inv/\8*s.2.1.rem+7-lv<=s.1/\s.1<=n/\mO s.1 lv r.cv s.2=mO n lv r.cv (dG n (lv+1) r)) (fun s=>[(6,rI s.2.2)]) (fun s=>⟨[0,1],cc s.2.1⟩) (fun s=>s.1) (n,dG n (lv+1) r) ⟨h1,jJ,Nat.le_refl _,rfl⟩ (dc rfl bK) ?_;rintro⟨m,q,x⟩ ⟨hq,SU,Rh,Q2⟩ Kr P9;simp only at hq SU Rh Q2;rw[<-Q2];obtain⟨m,rfl⟩:∃k,m=k+1:=⟨m-1,jB⟩;have Vb:=hq.lt;have WW:=hq.pos;have WX:=hq.len;by_cases hx:q.next lv=⟨#[]⟩
  ·rw[mO,if_pos hx];refine S ?_
   (have W:=hx;repeat' (first|refine aq fun K hK=>?_|refine am ?_|(refine hK _ _ ?_;clear hK K)|(refine ao ?_ ?_<;>intro hc<;>try exact jz)|refine cm (GU q lv (bu hq)) ?_|refine ap ?_|exact jI|(clear hK K)))
   (refine cj [.tmp 4] ?_ ?_<;>(try simp only[go_sem]))
  ·have hk:=Rd.aV (Rd.j5 hx);obtain⟨t1,e1⟩:=Rd.bm hq hk.2;have hi:=t1.inv hq;have WY:=Rd.cK hq hk;have t2:=(qh m).2.2.1 (lv+1) _ hi;have hj:=t2.inv hi;have hrj:=t2.rem;have t3:=fun L=>Rd.cH (t1.trans t2) (by have:=t2.dv;omega) 9 r.cv 0 (q.next lv) L
   rw[mO,if_neg hx];refine S ?_
   (have W:=hx;repeat' (first|refine aq fun K hK=>?_|refine am ?_|(refine hK _ _ ?_;clear hK K)|(refine ao ?_ ?_<;>intro hc<;>try exact jz)|refine cm (GU q lv (bu hq)) ?_|refine cm (Qb m q.inc jB jB hi jB) ?_|refine cm (ju (dG m (lv+1) q.inc).1 _ _ _ _ [x,(dG m (lv+1) q.inc).2] _ eV.sl (bu hj)) ?_|refine ap ?_|exact jI|(clear hK K)))
   ·have h2:lv=2:=jB
    (refine cj [.tmp 4] ?_ ?_<;>(try simp only[go_sem]))
    ·simp only[if_pos h2]
    ·simp only[if_pos h2]
   ·have h2:¬lv=2:=jB;refine P9 _ _ (dI (m,(dG m (lv+1) q.inc).1.put 9 r.cv 0 (q.next lv) [x,(dG m (lv+1) q.inc).2]) ⟨(t3 _).inv hq,?_,jJ,?_⟩ jJ rfl bK)
    ·have h6:∀L,((dG m (lv+1) q.inc).1.put 9 r.cv 0 (q.next lv) L).1.rem=(dG m (lv+1) q.inc).1.rem:=fun L=>rfl
     simp only[h6];omega
    ·rw[<-Q2,mO,if_neg hx,if_neg h2]
end Go.Proofs.YtghoellpinmenaaGreatDoor