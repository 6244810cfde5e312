/- Lemmas. No conditions. -/
import Derived.Test.YtghoellpinmenaaGreatDoorLxT
set_option linter.all false
set_option maxHeartbeats 4000000
set_option maxRecDepth 10000
namespace Go.Gd
open Go
def oz{α:Type}[Inhabited α]{a b:List α}{i:Nat}(h:i<a.length):nth (a++b) i=nth a i:=by simp[nth,List.getD_eq_getElem?_getD,List.getElem?_append_left h]
def o5{α:Type}[Inhabited α](a:List α)(x:α):nth (a++[x]) a.length=x:=by simp[nth,List.getD_eq_getElem?_getD]
def bE(t:List bg)(i:Int):Int:=(nth t i.toNat).kind
def bW(k:Int):Prop:=1<=k/\k<=9
def ff(k:Int):Prop:=bW k\/k=19\/k=20\/k=21
def eR(k:Int):Prop:=10<=k/\k<=17
def uH:List PL:=[(⟨#[124,124]⟩:PL),(⟨#[38,38]⟩:PL),(⟨#[60]⟩:PL),(⟨#[60,61]⟩:PL),(⟨#[61,61]⟩:PL),(⟨#[33,61]⟩:PL),(⟨#[43]⟩:PL),(⟨#[45]⟩:PL),(⟨#[42]⟩:PL),(⟨#[47]⟩:PL),(⟨#[37]⟩:PL)]
structure Shape(t:List bg)(n:bg):Prop where
 any:1<=n.kind/\n.kind<=21
 zero:n.kind=1\/n.kind=2\/n.kind=3\/n.kind=4\/n.kind=19->n.l=[]
 one:n.kind=5\/n.kind=6\/n.kind=7\/n.kind=8\/n.kind=14\/n.kind=20->∃a,n.l=[a]/\bW (bE t a)
 two:n.kind=9\/n.kind=12->∃a b,n.l=[a,b]/\bW (bE t a)/\bW (bE t b)
 right:n.kind=10\/n.kind=11->∃a,n.l=[a]/\ff (bE t a)
 pB:n.kind=13->∃a,n.l=[a]/\bE t a=21
 lN:n.kind=15->∃a b,bW (bE t a)/\bE t b=18/\(n.l=[a,b]\/∃d,n.l=[a,b,d]/\bE t d=18)
 fm:n.kind=16->∃a b,n.l=[a,b]/\bW (bE t a)/\bE t b=18
 ret:n.kind=17->n.l=[]\/∃a,n.l=[a]/\bW (bE t a)
 block:n.kind=18->∀a∈n.l,eR (bE t a)
 call:n.kind=21->∀a∈n.l,bW (bE t a)
 num:n.kind=1->∃s,qq s/\n.n=oY s
 bool:n.kind=2->n.n=0\/n.n=1
 text:n.kind=3->n.name.size<=12
 sign:n.kind=9->n.name∈uH
inductive aJ(t:List bg):Nat->List Int->Nat->Prop
 |nil (k:Nat):aJ t k [] k
 |cons {lo c hi:Nat} {L:List Int} (hc:c<t.length) (h1:aJ t lo (nth t c).l c) (h2:aJ t (c+1) L hi):aJ t lo ((c:Int)::L) hi
variable{t:List bg}{lo hi:Nat}{L:PJ}
def aJ.le(h:aJ t lo L hi):lo<=hi:=by
 induction h with
 |nil=>exact Nat.le_refl _
 |cons _ _ _ i1 i2=>omega
def aJ.mem(h:aJ t lo L hi):∀a∈L,0<=a/\lo<=a.toNat/\a.toNat<hi/\a.toNat<t.length:=by
 induction h with
 |nil=>intro a ha;simp at ha
 |@cons lo c hi L hc h1 h2 i1 i2=>
  intro a ha;have l1:=h1.le;have l2:=h2.le;rcases List.mem_cons.1 ha with rfl|ha
  ·exact⟨jB,by simpa using l1,by simp;omega,by simpa using hc⟩
  ·have:=i2 a ha;omega
variable{u:List bg}
def aJ.mono(h:aJ t lo L hi):aJ (t++u) lo L hi:=by
 induction h with
 |nil k=>exact .nil k
 |cons hc _ _ i1 i2=>exact .cons jF (by rw[oz hc];exact i1) i2
variable{M:PJ}
def aJ.append{mid:Nat}(h:aJ t lo L mid):aJ t mid M hi->aJ t lo (L++M) hi:=by
 induction h with
 |nil=>intro k;exact k
 |cons hc h1 _ _ i2=>intro k;exact .cons hc h1 (i2 k)
def aJ.one{c:Nat}(hc:c<t.length)(h:aJ t lo (nth t c).l c):aJ t lo [(c:Int)] (c+1):=.cons hc h (.nil _)
def lV{a:Int}(h:a.toNat<t.length):bE (t++u) a=bE t a:=by unfold bE;rw[oz h]
def Shape.mono{n:bg}(h:Shape t n)(hl:∀a∈n.l,a.toNat<t.length):Shape (t++u) n where
 any:=h.any
 zero:=h.zero
 one:=fun e=>by obtain⟨a,h1,h2⟩:=h.one e;exact⟨a,h1,by rw[lV (hl a (by rw[h1];simp))];exact h2⟩
 two:=fun e=>by obtain⟨a,b,h1,h2,h3⟩:=h.two e;exact⟨a,b,h1,by rw[lV (hl a (by rw[h1];simp))];exact h2,by rw[lV (hl b (by rw[h1];simp))];exact h3⟩
 right:=fun e=>by obtain⟨a,h1,h2⟩:=h.right e;exact⟨a,h1,by rw[lV (hl a (by rw[h1];simp))];exact h2⟩
 pB:=fun e=>by obtain⟨a,h1,h2⟩:=h.pB e;exact⟨a,h1,by rw[lV (hl a (by rw[h1];simp))];exact h2⟩
 lN:=fun e=>by
  obtain⟨a,b,h1,h2,h3⟩:=h.lN e;rcases h3 with h3|⟨d,h3,h4⟩
  ·exact⟨a,b,by rw[lV (hl a (by rw[h3];simp))];exact h1,by rw[lV (hl b (by rw[h3];simp))];exact h2,.inl h3⟩
  ·exact⟨a,b,by rw[lV (hl a (by rw[h3];simp))];exact h1,by rw[lV (hl b (by rw[h3];simp))];exact h2,.inr ⟨d,h3,by rw[lV (hl d (by rw[h3];simp))];exact h4⟩⟩
 fm:=fun e=>by obtain⟨a,b,h1,h2,h3⟩:=h.fm e;exact⟨a,b,h1,by rw[lV (hl a (by rw[h1];simp))];exact h2,by rw[lV (hl b (by rw[h1];simp))];exact h3⟩
 ret:=fun e=>by
  rcases h.ret e with h1|⟨a,h1,h2⟩
  ·exact .inl h1
  ·exact .inr ⟨a,h1,by rw[lV (hl a (by rw[h1];simp))];exact h2⟩
 block:=fun e a ha=>by rw[lV (hl a ha)];exact h.block e a ha
 call:=fun e a ha=>by rw[lV (hl a ha)];exact h.call e a ha
 num:=h.num
 bool:=h.bool
 text:=h.text
 sign:=h.sign
def aJ.len(h:aJ t lo L hi):L.length+lo<=hi:=by
 induction h with
 |nil=>simp
 |@cons lo c hi L hc h1 h2 i1 i2=> have:=h1.le;simp only[List.length_cons];omega
structure Mk(t t':List bg)(L:List Int):Prop where
 pre:∃u,t'=t++u
 chain:aJ t' t.length L t'.length
 shape:∀k,t.length<=k->k<t'.length->Shape t' (nth t' k)/\(∀a∈(nth t' k).l,0<=a/\a.toNat<k)/\∃lo,aJ t' lo (nth t' k).l k
def Mk.refl(t:List bg):Mk t t []:=⟨⟨[],jE⟩,.nil _,fun k h1 h2=>jB⟩
variable{a b:List bg}
def Mk.trans{c:List bg}(h:Mk a b L)(k:Mk b c M):Mk a c (L++M):=by
 obtain⟨⟨u,rfl⟩,h2,h3⟩:=h;obtain⟨⟨v,rfl⟩,k2,k3⟩:=k;refine⟨⟨u++v,jE⟩,h2.mono.append k2,fun i h4 h5=>?_⟩;by_cases hi:i<(a++u).length
 ·obtain⟨g1,g2,lo,g3⟩:=h3 i h4 hi;rw[oz hi];exact⟨g1.mono fun x hx=>by have:=g2 x hx;omega,g2,lo,g3.mono⟩
 ·exact k3 i jB h5
def Mk.put(h:Mk a b L)(n:bg)(hn:n.l=L)(hs:Shape b n):Mk a (b++[n]) [(b.length:Int)]:=by
 obtain⟨⟨u,rfl⟩,h2,h3⟩:=h;have hm:∀x∈n.l,0<=x/\x.toNat<(a++u).length:=fun x hx=>by rw[hn]at hx;exact⟨(h2.mem x hx).1,(h2.mem x hx).2.2.1⟩
 refine⟨⟨u++[n],jE⟩,?_,fun i h4 h5=>?_⟩
 ·have e:((a++u)++[n]).length=(a++u).length+1:=by simp only[List.length_append,List.length_cons,List.length_nil]
  rw[e];refine aJ.one jE ?_;rw[o5,hn];exact h2.mono
 ·by_cases hi:i<(a++u).length
  ·obtain⟨g1,g2,lo,g3⟩:=h3 i h4 hi;rw[oz hi];exact⟨g1.mono fun x hx=>by have:=g2 x hx;omega,g2,lo,g3.mono⟩
  ·have:i=(a++u).length:=by simp at h5 hi ⊢;omega
   subst this;rw[o5];exact⟨hs.mono fun x hx=>(hm x hx).2,hm,a.length,by rw[hn];exact h2.mono⟩
def Mk.kind{c:List bg}(h:Mk a b L)(k:Mk b c M){x:Int}(hx:x∈L):bE c x=bE b x:=by obtain⟨⟨v,rfl⟩,_,_⟩:=k;exact lV (h.chain.mem x hx).2.2.2
def Ls(t:List bg)(n:bg):bE (t++[n]) (t.length:Int)=n.kind:=by unfold bE;rw[Int.toNat_natCast,o5]
def kz(l:List bY):Prop:=∀k,k<l.length->(nth l k).kind=2->(nth l k).text.size<=12
def Made(r r':Rd)(L:PJ)(C:Int->Prop):Prop:=r'.e=0->Mk r.nodes r'.nodes L/\∀a∈L,C (bE r'.nodes a)
structure Still(r r':Rd):Prop where
 nodes:r'.nodes=r.nodes
 err:r'.e=0->r.e=0
 l:r'.l=r.l
def Still.refl(r:Rd):Still r r:=⟨rfl,id,rfl⟩
theorem Still.trans{a b c:Rd}(h:Still a b)(k:Still b c):Still a c:=⟨k.nodes.trans h.nodes,fun e=>h.err (k.err e),k.l.trans h.l⟩
def xy(r:Rd){e:Int}(he:e≠0):Still r (r.aC e):=⟨Rd.dh _ _,fun h=>(Rd.gl he h).elim,Rd.gk _ _⟩
def mf(r:Rd):Still r r.inc:=⟨rfl,id,rfl⟩
def yr(r:Rd):Still r r.up:=⟨rfl,id,rfl⟩
def iW(r:Rd)(t:PL):Still r (r.ap t):=by
 unfold Rd.ap;split
 ·exact mf r
 ·exact xy r jC
def uJ(r:Rd):Still r r.name.1:=by
 unfold Rd.name;split
 ·exact mf r
 ·exact xy r jC
def wL(r:Rd):Still r r.down:=by
 unfold Rd.down;split
 ·have:=xy r (e:=21) jC;exact⟨this.nodes,this.err,this.l⟩
 ·exact⟨rfl,id,rfl⟩
variable{r a b:Rd}{C:Int->Prop}
def Made.pre(s:Still r a)(h:Made a b L C):Made r b L C:=fun e=>by have:=h e;rwa [s.nodes]at this
def Made.post(h:Made r a L C)(s:Still a b):Made r b L C:=fun e=>by have:=h (s.err e);rwa [s.nodes]
def Made.nil(r:Rd)(C:Int->Prop):Made r r [] C:=fun _=>⟨Mk.refl _,fun a ha=>by simp at ha⟩
def Made.oJ{D:Int->Prop}(h:Made r a L C)(hc:∀k,C k->D k):Made r a L D:=fun e=>⟨(h e).1,fun a ha=>hc _ ((h e).2 a ha)⟩
def Made.seq{c:Rd}{D:Int->Prop}(h:Made a b L C)(k:Made b c M D)(he:c.e=0->b.e=0):c.e=0->Mk a.nodes c.nodes (L++M)/\(∀x∈L,C (bE c.nodes x))/\∀x∈M,D (bE c.nodes x):=fun e=>by obtain⟨h1,h2⟩:=h (he e);obtain⟨k1,k2⟩:=k e;exact⟨h1.trans k1,fun x hx=>by rw[h1.kind k1 hx];exact h2 x hx,k2⟩
def Made.both{c:Rd}(h:Made a b L C)(k:Made b c M C)(he:c.e=0->b.e=0):Made a c (L++M) C:=fun e=>by obtain⟨h1,h2,h3⟩:=h.seq k he e;exact⟨h1,fun x hx=>(List.mem_append.1 hx).elim (h2 x) (h3 x)⟩
def ja(k ln n:Int)(nm:PL)(h:a.e=0->Mk r.nodes a.nodes L/\Shape a.nodes ⟨k,ln,n,nm,L⟩/\C k):Made r (a.put k ln n nm L).1 [(a.put k ln n nm L).2] C:=fun e=>by obtain⟨h1,h2,h3⟩:=h e;refine⟨h1.put _ rfl h2,fun x hx=>?_⟩;rw[List.mem_singleton.1 hx];show C (bE (a.nodes++[_]) (a.nodes.length:Int));rw[Ls];exact h3
variable{k ln n:Int}{nm:PL}
def tc(hk:k=1\/k=2\/k=3\/k=4\/k=17\/k=19)(h1:k=1->∃s,qq s/\n=oY s)(h2:k=2->n=0\/n=1)(h3:k=3->nm.size<=12):Shape t ⟨k,ln,n,nm,[]⟩:=by constructor<;>(try simp only)<;>intros<;>first|(clear h1 h2 h3;omega)|(clear h1 h2 h3;exfalso;omega)|trivial|rfl|(exact .inl rfl)|(exact .inl trivial)|(refine h1 ?_;assumption)|(refine h2 ?_;assumption)|(refine h3 ?_;assumption)|fail
variable{a:Int}
def uF(hk:k=5\/k=6\/k=7\/k=8\/k=14\/k=17\/k=20)(h:bW (bE t a)):Shape t ⟨k,ln,n,nm,[a]⟩:=by constructor<;>(try simp only)<;>intros<;>first|omega|omega|trivial|(exact⟨a,rfl,h⟩)|(exact .inr ⟨a,rfl,h⟩)
def EC(hk:k=10\/k=11)(h:ff (bE t a)):Shape t ⟨k,ln,n,nm,[a]⟩:=by constructor<;>(try simp only)<;>intros<;>first|omega|omega|trivial|(exact⟨a,rfl,h⟩)
def LG(h:bE t a=21):Shape t ⟨13,ln,n,nm,[a]⟩:=by constructor<;>(try simp only)<;>intros<;>first|omega|omega|trivial|(exact⟨a,rfl,h⟩)
variable{b:Int}
def Co(hk:k=12\/k=9/\nm∈uH)(h:bW (bE t a))(h':bW (bE t b)):Shape t ⟨k,ln,n,nm,[a,b]⟩:=by constructor<;>(try simp only)<;>intros<;>first|omega|omega|trivial|(exact⟨a,b,rfl,h,h'⟩)|(rcases hk with hk|hk;omega;exact hk.2)|fail
def HF(h:bW (bE t a))(h':bE t b=18):Shape t ⟨16,ln,n,nm,[a,b]⟩:=by constructor<;>(try simp only)<;>intros<;>first|omega|omega|trivial|(exact⟨a,b,rfl,h,h'⟩)
def LX(h:bW (bE t a))(h':bE t b=18):Shape t ⟨15,ln,n,nm,[a,b]⟩:=by constructor<;>(try simp only)<;>intros<;>first|omega|omega|trivial|(exact⟨a,b,h,h',.inl rfl⟩)
def Hb{d:Int}(h:bW (bE t a))(h':bE t b=18)(h'':bE t d=18):Shape t ⟨15,ln,n,nm,[a,b,d]⟩:=by constructor<;>(try simp only)<;>intros<;>first|omega|omega|trivial|(exact⟨a,b,h,h',.inr ⟨d,rfl,h''⟩⟩)
def Mj(h:∀a∈L,eR (bE t a)):Shape t ⟨18,ln,n,nm,L⟩:=by constructor<;>(try simp only)<;>intros<;>first|omega|omega|trivial|(refine h _ ?_;assumption)|fail
def JT(h:∀a∈L,bW (bE t a)):Shape t ⟨21,ln,n,nm,L⟩:=by constructor<;>(try simp only)<;>intros<;>first|omega|omega|trivial|(refine h _ ?_;assumption)|fail
def MM{lv:Int}(h:r.next lv≠⟨#[]⟩):r.next lv∈uH:=by
 unfold Rd.next at h ⊢;cases e:(mb lv).find? (fun s=>r.is s)with
 |none=>rw[e]at h;exact(h rfl).elim
 |some s=>
  have:=List.mem_of_find?_eq_some e;unfold mb at this;simp only;unfold uH;split at this
  ·simp at this ⊢;simp[this]
  split at this
  ·simp at this ⊢;simp[this]
  split at this
  ·simp at this ⊢;rcases this with h|h|h|h<;>simp[h]
  split at this
  ·simp at this ⊢;rcases this with h|h<;>simp[h]
  ·simp at this ⊢;rcases this with h|h|h<;>simp[h]
def oM{r':Rd}(s:Rd.St r r'):r'.e=0->r.e=0:=fun h=>Classical.byContradiction fun e=>s.err e h
def Fc{e:Int}(he:e≠0):Made r (r.aC e) L C:=fun h=>(Rd.gl he h).elim
theorem Cs:∀n,(∀r:Rd,r.Inv->kz r.l->8*r.rem+1<=n->Made r (py n r).1 [(py n r).2] bW)/\(∀r:Rd,r.Inv->kz r.l->8*r.rem+2<=n->Made r (gO n r).1 [(gO n r).2] bW)/\
  (∀lv (r:Rd),r.Inv->kz r.l->lv<=5->8*r.rem+8<=n+lv->Made r (dw n lv r).1 [(dw n lv r).2] bW)/\
  (∀lv ln (r:Rd) (p:Rd×Int),p.1.Inv->kz p.1.l->lv<=4->8*p.1.rem+7<=n+lv->Made r p.1 [p.2] bW->Made r (nQ n lv ln p).1 [(nQ n lv ln p).2] bW)
 |0=>⟨fun r h ht hn=>by omega,fun r h ht hn=>by omega,fun lv r h ht h5 hn=>by omega,fun lv ln r p h ht h5 hn hp=>by omega⟩
 |n+1=>by
  obtain⟨ia,lN,ic,il⟩:=Cs n;have ist:=rY n;have bM:∀(r:Rd) (t u:PL),r.Inv->kz r.l->r.e=0->8*r.rem+1<=n+1->(r.is t=true\/8*r.rem+8<=n)->Made r ((dw n 0 (r.down.ap t)).1.ap u).up [(dw n 0 (r.down.ap t)).2] bW:=fun r t u h ht he hn hx=>by
   have h1:=(Rd.bC h he).1;have s1:=Rd.aI h1 t;have hr:8*(r.down.ap t).rem+8<=n+0:=by
    rcases hx with hx|hx
    ·have:=(Rd.gu h hx).1;omega
    ·have:=s1.rem;have Vu:r.down.rem<=r.rem:=by
      unfold Rd.rem;obtain⟨_,_,h3,h4,_⟩:=Rd.bC h he;rw[h3,h4,if_pos he];split<;>omega
     omega
   have st:=(wL r).trans (iW r.down t);have:=ic 0 (r.down.ap t) (s1.inv h1) (by rw[st.l];exact ht) jB hr;exact((this.pre st).post (iW _ _)).post (yr _)
  refine⟨fun r h ht hn=>?_,fun r h ht hn=>?_,fun lv r h ht h5 hn=>?_,fun lv ln r p h ht h5 hn hp=>?_⟩
  ·unfold py;split
   ·rename_i he;exact fun h=>(he h).elim
   rename_i he;have he:r.e=0:=jB;have SE:r.i.toNat<r.l.length:=by have:=h.lt;have:=h.pos;omega
   split
   ·rename_i hk;exact ja _ _ _ _ fun _=>⟨Mk.refl _,tc jB (fun _=>⟨_,h.num _ SE hk,rfl⟩) jH jH,by unfold bW;omega⟩
   split
   ·rename_i hk;exact ja _ _ _ _ fun _=>⟨Mk.refl _,tc jB jH jH (fun _=>ht _ SE hk),by unfold bW;omega⟩
   split
   ·rename_i hk;have Rm:r.e=0/\r.tok.kind≠0:=⟨he,jB⟩;split
    ·have hi:=(Rd.bk h Rm.2).1.inv h;have hr:=Rd.cI h Rm;have hm:=bM r.inc (⟨#[91]⟩:PL) (⟨#[93]⟩:PL) hi ht he jB (.inl (by assumption));exact ja _ _ _ _ fun e=>⟨(hm e).1,uF jB ((hm e).2 _ jE),by unfold bW;omega⟩
    ·exact ja _ _ _ _ fun _=>⟨Mk.refl _,tc jB jH jH jH,by unfold bW;omega⟩
   split
   ·exact ja _ _ _ _ fun _=>⟨Mk.refl _,tc jB jH (fun _=>.inr rfl) jH,by unfold bW;omega⟩
   split
   ·exact ja _ _ _ _ fun _=>⟨Mk.refl _,tc jB jH (fun _=>.inl rfl) jH,by unfold bW;omega⟩
   split
   ·rename_i hs;have Rm:=Rd.aR hs;split
    ·have hi:=(Rd.bk h Rm.2).1.inv h;have hr:=Rd.cI h Rm;have hm:=bM r.inc (⟨#[40]⟩:PL) (⟨#[41]⟩:PL) hi ht he jB (.inl (by assumption));exact ja _ _ _ _ fun e=>⟨(hm e).1,uF jB ((hm e).2 _ jE),by unfold bW;omega⟩
    ·exact fun e=>(Rd.gl jC e).elim
   split
   ·exact bM r (⟨#[40]⟩:PL) (⟨#[41]⟩:PL) h ht he hn (.inl (by assumption))
   ·exact Fc jC
  ·unfold gO;have sg:∀t,r.is t=true->∀k ln nm,(k=7\/k=8)->Made r (((gO n r.down.inc).1.up).put k ln 0 nm [(gO n r.down.inc).2]).1 [(((gO n r.down.inc).1.up).put k ln 0 nm [(gO n r.down.inc).2]).2] bW:=fun t RQ k ln nm hk=>by
    obtain⟨he,S1⟩:=Rd.aR RQ;obtain⟨h1,h2,h3,h4,h5,h6⟩:=Rd.bC h he;have SE:r.down.tok=r.tok:=by unfold Rd.tok;rw[h3,h4]
    have s1:=(Rd.bk h1 (by rw[SE];exact S1)).1;have st:=(wL r).trans (mf r.down);have hr:8*r.down.inc.rem+2<=n:=by
     have hb:=Rd.behind h S1;unfold Rd.rem at hn ⊢;rw[if_pos he]at hn;have e1:r.down.inc.i=r.i+1:=by show r.down.i+1=_;rw[h3]
     have e2:r.down.inc.l=r.l:=h4;rw[e1,e2];have:=h.pos;split<;>omega
    have hm:=((lN r.down.inc (s1.inv h1) (by rw[st.l];exact ht) hr).pre st).post (yr _);exact ja _ _ _ _ fun e=>⟨(hm e).1,uF jB ((hm e).2 _ jE),by unfold bW;omega⟩
   split
   ·rename_i RQ;exact sg _ RQ _ _ _ (.inl rfl)
   split
   ·rename_i RQ;exact sg _ RQ _ _ _ (.inr rfl)
   ·exact ia r h ht jB
  ·unfold dw;split
   ·exact lN r h ht jB
   ·have s1:=ist.2.2.1 (lv+1) r h;exact il lv _ r _ (s1.inv h) (by rw[s1.l];exact ht) jB (by have:=s1.rem;omega) (ic (lv+1) r h ht jB jB)
  ·unfold nQ;split
   ·exact hp
   rename_i VA;have Rm:=Rd.aR (Rd.kP VA);have s1:=(Rd.bk h Rm.2).1;have hr:=Rd.cI h Rm;have s2:=ist.2.2.1 (lv+1) _ (s1.inv h);have hm:=ic (lv+1) p.1.inc (s1.inv h) (by rw[s1.l];exact ht) jB jB;have T9:=(hp.post (mf _)).seq hm (oM s2);have VB:Made r ((dw n (lv+1) p.1.inc).1.put 9 ln 0 (p.1.next lv) [p.2,(dw n (lv+1) p.1.inc).2]).1 [((dw n (lv+1) p.1.inc).1.put 9 ln 0 (p.1.next lv) [p.2,(dw n (lv+1) p.1.inc).2]).2] bW:=
    ja _ _ _ _ fun e=>⟨(T9 e).1,Co (.inr ⟨rfl,MM VA⟩) ((T9 e).2.1 _ jE) ((T9 e).2.2 _ jE),by unfold bW;omega⟩
   split
   ·exact VB
   ·have s3:=Rd.cF (s1.trans s2) (by have:=s2.dn;have:=(Rd.bk h Rm.2).2;omega) 9 ln 0 (p.1.next lv) [p.2,(dw n (lv+1) p.1.inc).2];exact il lv ln r _ (s3.inv h) (by rw[s3.l];exact ht) h5 (by have e:((dw n (lv+1) p.1.inc).1.put 9 ln 0 (p.1.next lv) [p.2,(dw n (lv+1) p.1.inc).2]).1.rem=(dw n (lv+1) p.1.inc).1.rem:=rfl;show 8*((dw n (lv+1) p.1.inc).1.put 9 ln 0 (p.1.next lv) [p.2,(dw n (lv+1) p.1.inc).2]).1.rem+7<=_;rw[e];have:=s2.rem;omega) VB
def qD(h:r.Inv)(ht:kz r.l):Made r (cH r).1 [(cH r).2] bW:=(Cs _).2.2.1 0 r h ht jB jB
def St.iZ{r':Rd}(s:Rd.St r r')(h:kz r.l):kz r'.l:=by rw[s.l];exact h
theorem BW:∀(n:Nat) (b:Bool) (r0 r:Rd) (L:PJ),r.Inv->kz r.l->Made r0 r L bW->Made r0 (mh n b r L).1 (mh n b r L).2 bW
 |0,_,r0,r,L,h,ht,hm=>by unfold mh;exact hm
 |n+1,false,r0,r,L,h,ht,hm=>by unfold mh;exact hm
 |n+1,true,r0,r,L,h,ht,hm=>by
  have s1:=jn h;have h1:=s1.inv h;have m1:=hm.both (qD h ht) (oM s1);unfold mh;split
  ·rename_i hs;have s2:=(Rd.bk h1 (Rd.aR hs).2).1;exact BW n _ r0 _ _ (s2.inv h1) (St.iZ s2 (St.iZ s1 ht)) (m1.post (mf _))
  ·exact m1
def Gi(h:r.Inv)(ht:kz r.l):Made r (l4 r).1 [(l4 r).2] (fun k=>k=21):=by have hs:=xw h;have st:=(uJ r).trans (iW r.name.1 (⟨#[40]⟩:PL));have hm:Made r (mL r).1 (mL r).2 bW:=BW _ _ r _ _ (hs.inv h) (St.iZ hs ht) ((Made.nil _ _).pre st);have hm:=hm.post (iW (mL r).1 (⟨#[41]⟩:PL));exact ja _ _ _ _ fun e=>⟨(hm e).1,JT (hm e).2,rfl⟩
def G6(h:r.Inv)(ht:kz r.l):Made r (kY r).1 [(kY r).2] ff:=by
 unfold kY;split
 ·exact ja _ _ _ _ fun _=>⟨Mk.refl _,tc jB jH jH jH,by unfold ff;omega⟩
 split
 ·rename_i hs;have s1:=(Rd.bk h (Rd.aR hs).2).1;have s2:=s1.trans (Rd.aI (s1.inv h) (⟨#[40]⟩:PL));have hm:=((qD (s2.inv h) (St.iZ s2 ht)).pre ((mf r).trans (iW _ _))).post (iW _ (⟨#[41]⟩:PL));exact ja _ _ _ _ fun e=>⟨(hm e).1,uF jB ((hm e).2 _ jE),by unfold ff;omega⟩
 split
 ·exact(Gi h ht).oJ fun k hk=>by unfold ff;omega
 ·exact(qD h ht).oJ fun k hk=>.inl hk
def Hf(h:r.Inv)(ht:kz r.l)(he:r.e=0):Made r (nX r).1 [(nX r).2] bW:=by have h1:=(Rd.bC h he).1;have s1:=Rd.aI h1 (⟨#[91]⟩:PL);have st:=(wL r).trans (iW r.down (⟨#[91]⟩:PL));exact(qD (s1.inv h1) (by rw[st.l];exact ht)).pre st
def Iw(h:r.Inv)(ht:kz r.l)(he:r.e=0)(ln:Int):Made r (oE r ln).1 [(oE r ln).2] eR:=by
 unfold oE;split
 ·have hm:=(Gi h ht).post (iW _ (⟨#[59]⟩:PL));exact ja _ _ _ _ fun e=>⟨(hm e).1,LG ((hm e).2 _ jE),by unfold eR;omega⟩
 have s0:=Rd.cS h;have h0:=s0.inv h;split
 ·rename_i hs;have Yr:=(Rd.aR hs).1;have m1:=Hf h0 (St.iZ s0 ht) Yr;obtain⟨t1,t2⟩:=yw h0 hs;have sB:Rd.St r.name.1 ((nX r.name.1).1.ap (⟨#[93]⟩:PL)).up:=(Br h0 hs).2;have stl:Still (nX r.name.1).1 (((nX r.name.1).1.ap (⟨#[93]⟩:PL)).up.ap (⟨#[61]⟩:PL)):=((iW _ _).trans (yr _)).trans (iW _ _);have m2:Made (((nX r.name.1).1.ap (⟨#[93]⟩:PL)).up.ap (⟨#[61]⟩:PL)) (uy r.name.1).1 [(uy r.name.1).2] bW:=qD (t1.inv h0) (St.iZ t1 (St.iZ s0 ht));have hm:=((m1.post stl).both m2 (oM (jn (t1.inv h0)))).post (iW _ (⟨#[59]⟩:PL));have hm:=hm.pre (uJ r);exact ja _ _ _ _ fun e=>⟨(hm e).1,Co (.inl rfl) ((hm e).2 _ jE) ((hm e).2 _ jE),by unfold eR;omega⟩
 ·have s1:=s0.trans (Rd.aI h0 (⟨#[61]⟩:PL));have hm:=((G6 (s1.inv h) (St.iZ s1 ht)).pre ((uJ r).trans (iW _ _))).post (iW _ (⟨#[59]⟩:PL));exact ja _ _ _ _ fun e=>⟨(hm e).1,EC (.inr rfl) ((hm e).2 _ jE),by unfold eR;omega⟩
theorem EA:∀n,(∀r:Rd,r.Inv->kz r.l->4*r.rem+1<=n->Made r (fM n r).1 [(fM n r).2] (fun k=>k=18))/\
  (∀(r0 r:Rd) L,r.Inv->kz r.l->4*r.rem+3<=n->Made r0 r L eR->Made r0 (lQ n r L).1 (lQ n r L).2 eR)/\
  (∀r:Rd,r.Inv->kz r.l->r.e=0->4*r.rem+2<=n->Made r (na n r).1 [(na n r).2] eR)
 |0=>⟨fun r h ht hn=>by omega,fun r0 r L h ht hn hm=>by omega,fun r h ht he hn=>by omega⟩
 |n+1=>by
  obtain⟨ib,il,is_⟩:=EA n;have ist:=rA n;refine⟨fun r h ht hn=>?_,fun r0 r L h ht hn hm=>?_,fun r h ht he hn=>?_⟩
  ·unfold fM;split
   ·rename_i hx;have he:=(Rd.aR hx).1;have hd:=(Rd.bC h he).1;have s1:=Rd.aI hd (⟨#[123]⟩:PL);have st:=(wL r).trans (iW r.down (⟨#[123]⟩:PL));have hr:=(Rd.gu h hx).1;have hm:=il r (r.down.ap (⟨#[123]⟩:PL)) [] (s1.inv hd) (by rw[st.l];exact ht) jB ((Made.nil _ _).pre st);have hm:=(hm.post (iW _ (⟨#[125]⟩:PL))).post (yr _);exact ja _ _ _ _ fun e=>⟨(hm e).1,Mj (hm e).2,rfl⟩
   ·exact Fc jC
  ·unfold lQ;split
   ·rename_i hc;have T':0<n:=jB;obtain⟨s1,s2⟩:=ist.2.2 r h hc.1 T';have Rq:=hm.both (is_ r h ht hc.1 jB) (oM s1);exact il r0 _ _ (s1.inv h) (St.iZ s1 ht) jB Rq
   ·exact hm
  ·unfold na;have word:∀w:PL,w≠⟨#[]⟩->r.word=w->r.inc.Inv/\r.inc.rem+1<=r.rem/\Rd.St r r.inc:=fun w h0 hw=>by
    have hk:=Rd.di (Rd.gh hw h0) jC;exact⟨(Rd.bk h hk.2).1.inv h,Rd.cI h hk,(Rd.bk h hk.2).1⟩
   split
   ·rename_i hw;obtain⟨h1,h2,s1⟩:=word _ jC hw;have s2:=Rd.cS h1;have s3:=s2.trans (Rd.aI (s2.inv h1) (⟨#[61]⟩:PL));have hm:=((G6 (s3.inv h1) (St.iZ s3 ht)).pre ((mf r).trans ((uJ r.inc).trans (iW _ _)))).post (iW _ (⟨#[59]⟩:PL));exact ja _ _ _ _ fun e=>⟨(hm e).1,EC (.inl rfl) ((hm e).2 _ jE),by unfold eR;omega⟩
   split
   ·rename_i hw;obtain⟨h1,h2,s1⟩:=word _ jC hw;have hm:=((qD h1 (St.iZ s1 ht)).pre (mf r)).post (iW _ (⟨#[59]⟩:PL));exact ja _ _ _ _ fun e=>⟨(hm e).1,uF jB ((hm e).2 _ jE),by unfold eR;omega⟩
   split
   ·rename_i hw;obtain⟨h1,h2,s1⟩:=word _ jC hw;have s2:=jn h1;have s3:=ist.1 _ (s2.inv h1);have hm:=((qD h1 (St.iZ s1 ht)).pre (mf r)).seq (ib (cH r.inc).1 (s2.inv h1) (St.iZ s2 (St.iZ s1 ht)) (by have:=s2.rem;omega)) (oM s3);exact ja _ _ _ _ fun e=>⟨(hm e).1,HF ((hm e).2.1 _ jE) ((hm e).2.2 _ jE),by unfold eR;omega⟩
   split
   ·rename_i hw;obtain⟨h1,h2,s1⟩:=word _ jC hw;have s2:=jn h1;have h3:=s2.inv h1;have s3:=ist.1 _ h3;have h4:=s3.inv h3;have hm:=((qD h1 (St.iZ s1 ht)).pre (mf r)).seq (ib (cH r.inc).1 h3 (St.iZ s2 (St.iZ s1 ht)) (by have:=s2.rem;omega)) (oM s3);split
    ·rename_i hx;have hk:=Rd.aR hx;have s5:=(Rd.bk h4 hk.2).1;have hr5:=Rd.cI h4 hk;have h5:=s5.inv h4;have s6:=ist.1 _ h5;have m3:=(ib (fM n (cH r.inc).1).1.inc h5 (St.iZ s5 (St.iZ s3 (St.iZ s2 (St.iZ s1 ht)))) (by have:=s2.rem;have:=s3.rem;omega)).pre (mf _);have Ys:=fun e=>oM s5 (oM s6 e)
     exact ja _ _ _ _ fun e=>by obtain⟨a1,a2,a3⟩:=hm (Ys e);obtain⟨b1,b2⟩:=m3 e;exact⟨a1.trans b1,Hb (by rw[a1.kind b1 jE];exact a2 _ jE) (by rw[a1.kind b1 jE];exact a3 _ jE) (b2 _ jE),by unfold eR;omega⟩
    ·exact ja _ _ _ _ fun e=>⟨(hm e).1,LX ((hm e).2.1 _ jE) ((hm e).2.2 _ jE),by unfold eR;omega⟩
   split
   ·rename_i hw;obtain⟨h1,h2,s1⟩:=word _ jC hw;split
    ·have hm:=((Made.nil r.inc bW).pre (mf r)).post (iW _ (⟨#[59]⟩:PL));exact ja _ _ _ _ fun e=>⟨(hm e).1,tc jB jH jH jH,by unfold eR;omega⟩
    ·have hm:=((qD h1 (St.iZ s1 ht)).pre (mf r)).post (iW _ (⟨#[59]⟩:PL));exact ja _ _ _ _ fun e=>⟨(hm e).1,uF jB ((hm e).2 _ jE),by unfold eR;omega⟩
   ·exact Iw h ht he _
def Ix(h:r.Inv)(ht:kz r.l):Made r (nE r).1 [(nE r).2] (fun k=>k=18):=(EA _).1 r h ht jB
-- functions
structure p4(f:aU):Prop where
 ps:∀p∈f.params,1<=p.ty/\p.ty<=4
 ret:0<=f.ret/\f.ret<=4
def MO(w:PL):0<=rc w/\rc w<=4:=by
 unfold rc;repeat' split
 all_goals omega
def F9(r:Rd):Still r (io r).1:=by
 unfold io;split
 ·exact xy r jC
 ·exact mf r
def FX(he:(io r).1.e=0):1<=(io r).2/\(io r).2<=4:=by
 unfold io at he ⊢;split
 ·rename_i h;rw[if_pos h]at he;exact(Rd.gl jC he).elim
 ·have:=MO r.word;simp only;omega
theorem EM:∀(n:Nat) (b:Bool) (r:Rd) (L:List ce),Still r (lP n b r L).1/\((lP n b r L).1.e=0->(∀p∈L,1<=p.ty/\p.ty<=4)->∀p∈(lP n b r L).2,1<=p.ty/\p.ty<=4)
 |0,_,r,L=>by unfold lP;exact⟨.refl r,fun _ h=>h⟩
 |n+1,false,r,L=>by unfold lP;exact⟨.refl r,fun _ h=>h⟩
 |n+1,true,r,L=>by
  have st:Still r (oF r):=(uJ r).trans (F9 _);have hL:(oF r).e=0->(∀p∈L,1<=p.ty/\p.ty<=4)->∀p∈L++[⟨r.name.2,(io r.name.1).2⟩],1<=p.ty/\p.ty<=4:=fun e h p hp=>by
   rcases List.mem_append.1 hp with hp|hp
   ·exact h p hp
   ·rw[List.mem_singleton.1 hp];exact FX e
  unfold lP;split
  ·obtain⟨a,b⟩:=EM n true (oF r).inc (L++[⟨r.name.2,(io r.name.1).2⟩]);exact⟨st.trans ((mf _).trans a),fun e h=>b e (hL (a.err e) h)⟩
  ·exact⟨st,hL⟩
def NU(h:r.Inv)(ht:kz r.l):Made r (lS r).1 [(lS r).2.body] (fun k=>k=18)/\((lS r).1.e=0->p4 (lS r).2):=by
 have h1:=(pw h).1.inv h;have h2:=(xH h).inv h1;obtain⟨a,b⟩:=EM ((my r).rem+2) (more (my r)) (my r) [];have stA:Still r (my r):=((iW r (⟨#[102,110]⟩:PL)).trans (uJ _)).trans (iW _ _);have wh:Still r (kU r):=(stA.trans a).trans (iW _ _);have stD:Still (kU r) (lp r).1:=by
  unfold lp;split
  ·exact .refl _
  ·exact F9 _
 have hb:=Ix h2 (by rw[(wh.trans stD).l];exact ht);refine⟨hb.pre (wh.trans stD),fun e=>?_⟩;have e2:(lp r).1.e=0:=oM (AB h2) e;have e1:(kU r).e=0:=stD.err e2;have e0:(rM r).1.e=0:=(iW _ _).err e1;refine⟨b e0 (fun p hp=>by simp at hp),?_⟩;show 0<=(lp r).2/\(lp r).2<=4;unfold lp at e2 ⊢;split
 ·simp
 ·rename_i hc;rw[if_neg hc]at e2;have:=FX e2;omega
theorem B0:∀(n:Nat) (r0 r:Rd) (L:List aU),r.Inv->kz r.l->Made r0 r (L.map (·.body)) (fun k=>k=18)->(r.e=0->∀f∈L,p4 f)->
  Made r0 (pI n r L).1 ((pI n r L).2.map (·.body)) (fun k=>k=18)/\((pI n r L).1.e=0->∀f∈(pI n r L).2,p4 f)
 |0,r0,r,L,h,ht,hm,hf=>by unfold pI;exact⟨hm,hf⟩
 |n+1,r0,r,L,h,ht,hm,hf=>by
  unfold pI;split
  ·have s1:=(EG h).1;obtain⟨a,b⟩:=NU h ht;refine B0 n r0 _ _ (s1.inv h) (St.iZ s1 ht) ?_ fun e f Ua=>?_
   ·rw[List.map_append];exact hm.both a (oM s1)
   ·rcases List.mem_append.1 Ua with h'|h'
    ·exact hf (oM s1 e) f h'
    ·rw[List.mem_singleton.1 h'];exact b e
  ·exact⟨hm,hf⟩
structure aO(t:aF):Prop where
 chain:aJ t.nodes 0 (t.au.map (·.body)) t.nodes.length
 shape:∀k,k<t.nodes.length->Shape t.nodes (nth t.nodes k)/\(∀a∈(nth t.nodes k).l,0<=a/\a.toNat<k)/\∃lo,aJ t.nodes lo (nth t.nodes k).l k
 body:∀f∈t.au,bE t.nodes f.body=18
 fn:∀f∈t.au,p4 f/\f.params.length<=3
 many:t.nodes.length<=300
 au:t.au.length<=6
variable{s:PL}
def JL{a:Nat}(h:(ny s a).2.2=0):(ny s a).1.size<=12:=by
 unfold ny at h ⊢;simp only at h ⊢;split at h<;>rename_i h1
 ·rw[if_pos h1];split at h<;>rename_i h2
  ·cases h
  ·rw[if_neg h2];simp only[ByteArray.size_extract];omega
 ·cases h
def Od{a:Nat}(h:(gF s a).2.2=0)(hk:(gF s a).1.kind=2):(gF s a).1.text.size<=12:=by
 unfold gF at h hk ⊢;split at h<;>rename_i h1
 ·rw[if_pos h1]at hk ⊢;split at h<;>rename_i h2
  ·rw[if_pos h2]at hk;cases hk
  ·cases h
 rw[if_neg h1]at hk ⊢;split at h<;>rename_i h2
 ·rw[if_pos h2]at hk ⊢;split at h<;>rename_i h3
  ·rw[if_pos h3]at hk;cases hk
  ·rw[if_neg h3]at hk ⊢;split at h<;>rename_i h4
   ·cases h
   ·rw[if_neg h4]at hk;cases hk
 rw[if_neg h2]at hk ⊢;split at h<;>rename_i h3
 ·rw[if_pos h3]at hk ⊢;exact JL h
 ·rw[if_neg h3]at hk;split at h<;>rename_i h4
  ·cases h
  ·rw[if_neg h4]at hk;cases hk
theorem FW(s:PL):∀(n i:Nat) (out:List bY),(k8 s n i out).2.2=0->(∀t∈out,t.kind=2->t.text.size<=12)->∀t∈(k8 s n i out).1,t.kind=2->t.text.size<=12
 |0,i,out,he,ho=>by unfold k8;exact ho
 |n+1,i,out,he,ho=>by
  unfold k8 at he ⊢;split at he<;>rename_i hi
  ·rw[if_pos hi];split at he<;>rename_i h3
   ·rw[if_pos h3];refine FW s n _ _ he fun t ht=>?_
    rcases List.mem_append.1 ht with ht|ht
    ·exact ho t ht
    ·rw[List.mem_singleton.1 ht];exact Od h3
   ·exact(h3 he).elim
  ·rw[if_neg hi];intro t ht;rcases List.mem_append.1 ht with ht|ht
   ·exact ho t ht
   ·rw[List.mem_singleton.1 ht];intro h;cases h
def H7(he:(j5 s).2.2=0):kz (nJ s).l:=by
 have:∀t∈(j5 s).1,t.kind=2->t.text.size<=12:=by
  unfold j5 at he ⊢;split at he<;>rename_i h
  ·cases he
  ·rw[if_neg h];exact FW s _ _ _ he (fun t ht=>by simp at ht)
 intro k hk;exact this _ (fu hk)
def xc(h:(gz s).2.2=0):aO (gz s).1:=by
 unfold gz at h ⊢;split at h<;>rename_i h1
 ·exact(h1 h).elim
 rw[if_neg h1];split at h<;>rename_i h2
 ·exact(h2 h).elim
 rw[if_neg h2];split at h<;>rename_i h3
 ·cases h
 rw[if_neg h3];have he:(j5 s).2.2=0:=jB;have hf:(mF s).1.e=0:=jB;obtain⟨a,b⟩:=B0 ((nJ s).rem+1) (nJ s) (nJ s) [] (CJ he) (H7 he) (Made.nil _ _) (fun _ f hf=>by simp at hf);obtain⟨a1,a2⟩:=a hf;simp only[sQ,Bool.or_eq_true,decide_eq_true_eq,not_or,List.any_eq_true,not_exists,not_and]at h3;refine⟨a1.chain,fun k hk=>a1.shape k (Nat.zero_le _) hk,fun f hf=>a2 _ (List.mem_map.2 ⟨f,hf,rfl⟩),fun f WK=>⟨b hf f WK,by have:=h3.2 f WK;omega⟩,by show(mF s).1.nodes.length<=300;omega,by show(mF s).2.length<=6;omega⟩
structure Ck where
 aa:aF
 types:List Int
 slots:List Int
 au:List Int
 aL:List Int
 fn:Int
 vars:List fq
 more:List fq
 size:Int
 e:Int
 at_:Int
 deriving Inhabited
def iw{α:Type}(f:α->PL)(name:PL):List α->Int->Int
 |[],_=>-1
 |v::l,i=>if f v=name then i else iw f name l (i+1)
def iS{α:Type}(f:α->PL)(name:PL):List α->Int->Int->Int
 |[],_,k=>k
 |v::l,i,k=>iS f name l (i+1) (if f v=name then i else k)
def iu(sign:PL)(a b:Int):Int:=
 if a≠b then 0
 else if sign=(⟨#[124,124]⟩:PL)\/sign=(⟨#[38,38]⟩:PL)then(if a=2 then 2 else 0)
 else if sign=(⟨#[60]⟩:PL)\/sign=(⟨#[60,61]⟩:PL)then(if a=1 then 2 else 0)
 else if sign=(⟨#[61,61]⟩:PL)\/sign=(⟨#[33,61]⟩:PL)then(if a=1\/a=2\/a=3 then 2 else 0)
 else if sign=(⟨#[43]⟩:PL)then(if a=1\/a=3 then a else 0)
 else(if a=1 then 1 else 0)
namespace Ck
def node(c:Ck)(a:Int):bg:=nth c.aa.nodes a.toNat
def aA(c:Ck)(a:Int)(i:Nat):Int:=nth (c.node a).l i
def aC(c:Ck)(e a:Int):Ck:=if c.e=0 then{ c with e:=e,at_:=a }else c
def ap(c:Ck)(ok:Bool)(a:Int):Ck:=if ok=true then c else c.aC 42 a
def find(c:Ck)(name:PL):Int:=iw fq.name name c.vars 0
def slot(c:Ck)(a s:Int):Ck:={ c with slots:=c.slots.set a.toNat s }
def named(c:Ck)(a:Int):Ck×Int:=
 if c.find (c.node a).name<0 then(c.aC 40 a,0)
 else(c.slot a (nth c.vars (c.find (c.node a).name).toNat).slot,(nth c.vars (c.find (c.node a).name).toNat).ty)
def note(c:Ck)(a t:Int):Ck:={ c with types:=c.types.set a.toNat t,au:=c.au.set a.toNat c.fn }
def ah(c:Ck)(a:Int):Ck:={ c with au:=c.au.set a.toNat c.fn }
end Ck
def gy(ex:Ck->Int->Ck×Int):Ck->PJ->PJ->Ck×PJ
 |c,[],ts=>(c,ts)
 |c,a::l,ts=>if c.e=0 then gy ex (ex c a).1 l (ts++[(ex c a).2])else(c,ts)
def hZ(a:Int):Ck->PJ->List ce->Ck
 |c,t::ts,p::ps=>if c.e=0 then hZ a (c.ap (decide (t=p.ty)) a) ts ps else c
 |c,_,_=>c
def fz(c:Ck)(a:Int):Int:=iS aU.name (c.node a).name c.aa.au 0 (-1)
def iL(ex:Ck->Int->Ck×Int)(c:Ck)(a:Int):Ck×Int:=
 if fz c a<0 then(c.aC 40 a,0)
 else
  let f:=nth c.aa.au (fz c a).toNat
  let p:=gy ex c (c.node a).l []
  let c1:=if(c.node a).l.length≠f.params.length then p.1.aC 43 a else p.1
  (hZ a c1 p.2 f.params,f.ret)
def bX(ex:Ck->Int->Ck×Int)(c:Ck)(a:Int):Ck×Int:=
 let k:=(c.node a).kind
 if k=1\/k=19 then(c,1)
 else if k=2 then(c,2)
 else if k=3 then(c,3)
 else if k=4 then c.named a
 else if k=21 then iL ex c a
 else if k=5 then
  let p:=c.named a
  let x:=ex p.1 (c.aA a 0)
  (x.1.ap (decide (p.2=4) && decide (x.2=1)) a,1)
 else if k=9 then
  let x:=ex c (c.aA a 0)
  let y:=ex x.1 (c.aA a 1)
  let t:=iu (c.node a).name x.2 y.2
  (y.1.ap (!decide (t=0)) a,t)
 else
  let x:=ex c (c.aA a 0)
  if k=6 then(x.1.ap (decide (x.2=3) || decide (x.2=4)) a,1)
  else if k=7 then(x.1.ap (decide (x.2=1)) a,1)
  else if k=8 then(x.1.ap (decide (x.2=2)) a,2)
  else(x.1.ap (decide (x.2=1)) a,4)
def av:Nat->Ck->Int->Ck×Int
 |0,c,_=>(c,0)
 |n+1,c,a=>if c.e≠0 then(c,0)else((bX (av n) c a).1.note a (bX (av n) c a).2,(bX (av n) c a).2)
def o6(ex:Ck->Int->Ck×Int)(c:Ck)(a:Int):Ck:=
 let x:=ex c (c.aA a 0)
 let c1:=x.1.ap (!decide (x.2=0)) a
 let c2:=if 0<=c1.find (c.node a).name then c1.aC 41 a else c1
 let c3:=if 24<=c2.size then c2.aC 4 a else c2
 { (c3.slot a c3.size)with vars:=c3.vars++[⟨(c.node a).name,x.2,c3.size⟩],more:=c3.more.drop 1,size:=c3.size+1 }
def kg(ex:Ck->Int->Ck×Int)(c:Ck)(a:Int):Ck:=
 let ret:=(nth c.aa.au c.fn.toNat).ret
 let l:=(c.node a).l
 if decide (l.length=1)≠(!decide (ret=0))then c.aC 43 a
 else if l.length=1 then
  let x:=ex c (c.aA a 0)
  x.1.ap (decide (x.2=ret)) a
 else c
def dF(st:Ck->Int->Ck):Ck->PJ->Ck
 |c,[]=>c
 |c,a::l=>if c.e=0 then dF st (st c a) l else c
def fe(st:Ck->Int->Ck)(c:Ck)(a:Int):Ck:=
 let c1:=dF st (c.ah a) (c.node a).l
 { c1 with vars:=c1.vars.take (min c.vars.length c1.vars.length),more:=c1.vars.drop (min c.vars.length c1.vars.length)++c1.more }
def bJ:Nat->Ck->Int->Ck
 |0,c,_=>c
 |n+1,c0,a=>
  let c:=c0.ah a
  let k:=(c.node a).kind
  if k=10 then o6 (av n) c a
  else if k=11 then
   let p:=c.named a
   let x:=av n p.1 (c.aA a 0)
   x.1.ap (decide (p.2=x.2)) a
  else if k=12 then
   let p:=c.named a
   let x:=av n p.1 (c.aA a 0)
   let y:=av n x.1 (c.aA a 1)
   y.1.ap (decide (p.2=4) && decide (x.2=1) && decide (y.2=1)) a
  else if k=13 then(av n c (c.aA a 0)).1
  else if k=14 then
   let x:=av n c (c.aA a 0)
   x.1.ap (!decide (x.2=4)) a
  else if k=17 then kg (av n) c a
  else
   let x:=av n c (c.aA a 0)
   dF (fe (bJ n)) (x.1.ap (decide (x.2=2)) a) ((c.node a).l.drop 1)
def fC(body:Int):Ck->List ce->Int->Ck
 |c,[],_=>c
 |c,p::ps,i=>
  let c1:=if 0<=c.find p.name then c.aC 41 body else c
  fC body { c1 with vars:=c1.vars++[⟨p.name,p.ty,i⟩],more:=c1.more.drop 1,size:=c1.size+1 } ps (i+1)
def gD(c:Ck)(k:Nat):Ck:=
 let f:=nth c.aa.au k
 let c1:=fC f.body { c with fn:=k,vars:=[],more:=[],size:=0 } f.params 0
 let c2:=if c1.e=0 then fe (bJ c.aa.nodes.length) c1 f.body else c1
 { c2 with aL:=c2.aL++[c2.size],vars:=[],more:=[] }
def lb(x:aU):Ck->List aU->Ck
 |c,[]=>c
 |c,f::l=>lb x (if f.name=x.name then c.aC 41 x.body else c) l
def uu(f:aU):Bool:=decide (f.name=(⟨#[109,97,105,110]⟩:PL)) && decide ((f.params.length:Int)=0) && decide (f.ret=0)
def kG(au:List aU):Ck->Bool->Nat->Nat->Ck×Bool
 |c,m,_,0=>(c,m)
 |c,m,i,n+1=>kG au (lb (nth au i) c (au.take i)) (m || uu (nth au i)) (i+1) n
def iY(c:Ck):Ck:=
 let p:=kG c.aa.au c false 0 c.aa.au.length
 if p.2=true then p.1 else p.1.aC 44 0
def gG:Ck->Nat->Nat->Ck
 |c,_,0=>c
 |c,i,n+1=>if c.e=0 then gG (gD c i) (i+1) n else c
def jU(t:aF):Ck:=⟨t,t.nodes.map fun _=>0,t.nodes.map fun _=>-1,t.nodes.map fun _=>0,[],0,[],[],0,0,0⟩
def ix(t:aF):Ck:=gG (iY (jU t)) 0 t.au.length
def ko:ab:=⟨⟨[],[]⟩,[],[],[],[]⟩
def Ck.prog(c:Ck):ab:=⟨c.aa,c.types,c.slots,c.au,c.aL⟩
def gZ(t:aF):ab×Int×Int:=if(ix t).e≠0 then(ko,(ix t).at_,(ix t).e)else((ix t).prog,0,0)
def fP(s:PL):ab×Int×Int:=
 if(gz s).2.2≠0 then(ko,(gz s).2.1,(gz s).2.2)
 else
  let q:=gZ (gz s).1
  if q.2.2=44 then(ko,0,44)
  else if q.2.2≠0 then(ko,(nth (gz s).1.nodes q.2.1.toNat).cu,q.2.2)
  else(q.1,0,0)
def dt(slots:List aj)(k t:Int):aj:=
 if k<0\/(slots.length:Int)<=k then vZ t
 else if oR (nth slots k.toNat)=true/\(nth slots k.toNat).ty=t then nth slots k.toNat else vZ t
def oT(heap:PI)(v:aj):PJ:=if v.ty≠4\/v.n<1\/(heap.length:Int)<v.n then[]else nth heap (v.n-1).toNat
def nO(p:ab)(slots:List aj)(heap:PI):Nat->Int->aj×Int
 |0,_=>(v0,0)
 |n+1,a=>
  let nd:=nth p.aa.nodes a.toNat
  let x:=nO p slots heap n (nth nd.l 0)
  let y:=nO p slots heap n (nth nd.l 1)
  if nd.kind=1 then(vI nd.n,0)
  else if nd.kind=2 then(vB (decide (nd.n=1)),0)
  else if nd.kind=3 then(vT nd.name,0)
  else if nd.kind=4 then(dt slots (nth p.slots a.toNat) (nth p.types a.toNat),0)
  else if x.2≠0 then(v0,x.2)
  else if nd.kind=5 then
   (if x.1.n<0\/((oT heap (dt slots (nth p.slots a.toNat) 4)).length:Int)<=x.1.n then(v0,2)else(vI (nth (oT heap (dt slots (nth p.slots a.toNat) 4)) x.1.n.toNat),0))
  else if nd.kind=9 then
   (if(nd.name=(⟨#[124,124]⟩:PL)/\x.1.n=1)\/(nd.name=(⟨#[38,38]⟩:PL)/\x.1.n=0)then(x.1,0)
   else if y.2≠0 then(v0,y.2)else mz nd.name x.1 y.1)
  else if nd.kind=6 then(if x.1.ty=3 then(vI x.1.s.size,0)else(vI (oT heap x.1).length,0))
  else if nd.kind=7 then(jV (⟨#[45]⟩:PL) x.1,0)
  else(jV (⟨#[33]⟩:PL) x.1,0)
end Go.Gd
namespace Go.Proofs.YtghoellpinmenaaGreatDoor
open Go Go.Gd Tryz
abbrev rI(n:Int):AV:=.raw (.int .i64 n)
abbrev rU(n:Int):AV:=.raw (.int .u8 n)
abbrev rS(s:PL):AV:=.raw (.string s)
abbrev rB(b:Bool):AV:=.raw (.bool b)
def wi(n:Int):dO prog 126 [rU n] (rB (jg n)):=by
 refine fg func126 ntmps126 ?_
 (repeat' (first|refine ax fun K hK=>?_|refine az ?_|(refine hK _ _ ?_;clear hK K)|(refine aw ?_ ?_<;>intro hc<;>try exact jz)|refine ay ?_|exact jI|(clear hK K)))
 (refine bQ [.tmp 2] ?_ ?_<;>(try simp only[go_sem]))
 rfl
def yF(n:Int):dO prog 128 [rU n] (rB (vm n)):=by
 refine fg func128 ntmps128 ?_
 (repeat' (first|refine ax fun K hK=>?_|refine az ?_|(refine hK _ _ ?_;clear hK K)|(refine aw ?_ ?_<;>intro hc<;>try exact jz)|refine ay ?_|exact jI|(clear hK K)))
 (refine bQ [.tmp 2] ?_ ?_<;>(try simp only[go_sem]))
 rfl
def Ob(s:PL):dO prog 127 [rS s] (rB (vG s)):=by
 refine fg func127 ntmps127 ?_
 (repeat' (first|refine ax fun K hK=>?_|refine az ?_|(refine hK _ _ ?_;clear hK K)|(refine aw ?_ ?_<;>intro hc<;>try exact jz)|refine ay ?_|exact jI|(clear hK K)))
 (refine bQ [.tmp 2] ?_ ?_<;>(try simp only[go_sem]))
 rfl
def Km(s:PL)(at_:Int)(hs:s.size<=1000000):dO prog 132 [rS s,rI at_] (rI (ow s (min s.size at_.toNat))):=by
 refine fg func132 ntmps132 ?_
 (repeat' (first|refine ax fun K hK=>?_|refine az ?_|(refine hK _ _ ?_;clear hK K)|(refine aw ?_ ?_<;>intro hc<;>try exact jz)|refine ay ?_|exact jI|(clear hK K)))
 have PY:=hK;clear hK;refine dR (S:=Nat) [(5,19)] (fun k=>k<=s.size/\k<=at_.toNat) (fun k=>[(5,rI (ow s k)),(6,rI k)]) (fun _=>⟨[],[]⟩) (fun k=>s.size-k) 0 jB (dS rfl (by simp only[go_sem,jm,Nat.reduceAdd,AV.raw.injEq,Value.int.injEq,Value.slice.injEq,Value.pointer.injEq,AV.rs.injEq,ow];try omega)) ?_;rintro k ⟨Qg,P1⟩ Kr P3;have hb:=Fu s k;refine S ?_
 (repeat' (first|refine ax fun K hK=>?_|refine az ?_|(refine hK _ _ ?_;clear hK K)|(refine aw ?_ ?_<;>intro hc<;>try exact jz)|refine PY _ _ ?_|refine ay ?_|exact jI|(clear hK K)))
 ·refine P3 _ _ (dZ (k+1) jB jJ rfl (by simp only[ow,if_pos hc];exact cc))
 ·refine P3 _ _ (dZ (k+1) jB jJ rfl (by simp only[ow,if_neg hc];exact cc))
 ·(refine bQ [.tmp 4] ?_ ?_<;>(try simp only[go_sem]))
  rw[show min s.size at_.toNat=k from jB]
def It{s:PL}(h:∀j,j<fI.length->nth fI j≠s):uL s=false:=by unfold uL;rw[List.any_eq_false];intro x hm;obtain⟨j,hj,rfl⟩:=List.getElem_of_mem hm;have:=h j hj;rw[dT hj]at this;simp[this]
def JP{s:PL}{k:Nat}(hk:k<fI.length)(h:nth fI k=s):uL s=true:=by unfold uL;rw[List.any_eq_true];exact⟨fI[k],List.getElem_mem hk,by rw[dT hk]at h;simp[h]⟩
def I3(s:PL):dO prog 129 [rS s] (rB (uL s)):=by
 refine fg func129 ntmps129 ?_
 (repeat' (first|refine ax fun K hK=>?_|refine az ?_|(refine hK _ _ ?_;clear hK K)|(refine aw ?_ ?_<;>intro hc<;>try exact jz)|refine ay ?_|exact jI|(clear hK K)))
 have PY:=hK;clear hK;refine dR (S:=Nat) [(2,1),(4,1),(6,12)] (fun k=>k<=16/\∀j,j<k->nth fI j≠s) (fun k=>[(3,.sl true 1 (fI.map eS) []),(4,rI k)]) (fun _=>⟨[],[]⟩) (fun k=>16-k) 0 ⟨jB,fun j h=>jB⟩ (dS rfl (by(repeat' (first|exact jI|exact Or.inr rfl|exact Or.inl rfl|refine jA ?_ ?_)))) ?_;rintro k ⟨Qg,P1⟩ Kr P3;have hl:=KW;refine S ?_
 (repeat' (first|refine ax fun K hK=>?_|refine az ?_|(refine hK _ _ ?_;clear hK K)|(refine aw ?_ ?_<;>intro hc<;>try exact jz)|refine PY _ _ ?_|refine ay ?_|exact jI|(clear hK K)))
 ·(refine bQ [.tmp 2] ?_ ?_<;>(try simp only[go_sem]))
  rw[JP jB hc]
 ·refine P3 _ _ (dZ (k+1) ⟨jB,fun j hj=>?_⟩ jJ rfl cc);by_cases e:j=k
  ·subst e;exact hc
  ·exact P1 j jB
 ·(refine bQ [.tmp 2] ?_ ?_<;>(try simp only[go_sem]))
  rw[It fun j hj=>P1 j jB]
def CP(s:PL)(i:Nat)(hs:s.size<=1000000)(hi:i<=s.size):dO prog 83 [rS s,rI i] (rI (nn s i:Nat)):=by
 refine fg func83 ntmps83 ?_
 (repeat' (first|refine ax fun K hK=>?_|refine az ?_|(refine hK _ _ ?_;clear hK K)|(refine aw ?_ ?_<;>intro hc<;>try exact jz)|refine ay ?_|exact jI|(clear hK K)))
 have PY:=hK;clear hK;refine dR (S:=Nat) [(1,1),(4,54)] (fun k=>k<=s.size/\nn s k=nn s i) (fun k=>[(1,rI k)]) (fun _=>⟨[],[]⟩) (fun k=>s.size-k) i ⟨hi,rfl⟩ (dS rfl cc) ?_;rintro k ⟨Qg,P1⟩ Kr P3;refine S ?_
 (repeat' (first|refine ax fun K hK=>?_|refine az ?_|(refine hK _ _ ?_;clear hK K)|(refine aw ?_ ?_<;>intro hc<;>try exact jz)|refine PY _ _ ?_|refine ay ?_|exact jI|(clear hK K)))
 ·have P0:lJ s k=some (k+1):=by
   unfold lJ;rw[jP,if_pos];simp[xR];omega
  refine P3 _ _ (dZ (k+1) ⟨jB,by rw[<-P1,Ci P0]⟩ jJ rfl cc)
 ·have P0:lJ s k=some (gY qX s k):=by
   unfold lJ;rw[jP,if_neg (by simp[xR];omega),if_pos];simp[xv];exact⟨⟨hc.1.1,jB⟩,hc.2⟩
  have PW:=yk P0;have TC:=hK;clear hK;refine dR (S:=Nat) [(1,1),(45,12)] (fun m=>k<=m/\m<=s.size/\∀j,k<=j->j<m->qX (dX s j)=true) (fun m=>[(1,rI m)]) (fun _=>⟨[],[]⟩) (fun m=>s.size-m) k ⟨jB,jB,fun j h1 h2=>jB⟩ (dS rfl cc) ?_;rintro m ⟨R0,Rq,QS⟩ Kj U9;refine S ?_
  (repeat' (first|refine ax fun K hK=>?_|refine az ?_|(refine hK _ _ ?_;clear hK K)|(refine aw ?_ ?_<;>intro hc<;>try exact jz)|refine TC _ _ ?_|refine ay ?_|exact jI|(clear hK K)))
  ·refine U9 _ _ (dZ (m+1) ⟨jB,jB,fun j h1 h2=>?_⟩ jJ rfl cc);by_cases e:j=m
   ·subst e;simp only[qX,decide_eq_true_eq];exact hc.2
   ·exact QS j h1 jB
  ·have e:gY qX s k=m:=xZ (by simp only[qX,decide_eq_true_eq];omega) R0 Rq QS;rw[e]at P0 PW;refine P3 _ _ (dZ m ⟨jB,by rw[<-P1,Ci P0]⟩ jJ rfl cc)
 ·(refine bQ [.tmp 4] ?_ ?_<;>(try simp only[go_sem]))
  rw[<-P1,Fa];unfold lJ;rw[jP,if_neg (by simp[xR];omega),if_neg];simp[xv];omega
 ·(refine bQ [.tmp 4] ?_ ?_<;>(try simp only[go_sem]))
  rw[<-P1,Fa];unfold lJ;rw[jN]
def K4(s:PL)(a:Nat)(hs:s.size<=1000000)(ha:a<s.size):dO prog 130 [rS s,rI a] (.ba [rS (ny s a).1,rI (ny s a).2.1,rI (ny s a).2.2]):=by
 refine fg func130 ntmps130 ?_
 (repeat' (first|refine ax fun K hK=>?_|refine az ?_|(refine hK _ _ ?_;clear hK K)|(refine aw ?_ ?_<;>intro hc<;>try exact jz)|refine ay ?_|exact jI|(clear hK K)))
 have PY:=hK;clear hK;refine dR (S:=Nat) [(7,1),(10,24)] (fun m=>a+1<=m/\m<=s.size/\∀j,a+1<=j->j<m->si (dX s j)=true) (fun m=>[(7,rI m)]) (fun _=>⟨[],[]⟩) (fun m=>s.size-m) (a+1) ⟨jB,jB,fun j h1 h2=>jB⟩ (dS rfl cc) ?_;rintro m ⟨R0,Rq,QS⟩ Kr P3;refine S ?_
 (repeat' (first|refine ax fun K hK=>?_|refine az ?_|(refine hK _ _ ?_;clear hK K)|(refine aw ?_ ?_<;>intro hc<;>try exact jz)|refine PY _ _ ?_|refine ay ?_|exact jI|(clear hK K)))
 ·refine P3 _ _ (dZ (m+1) ⟨jB,jB,fun j h1 h2=>?_⟩ jJ rfl cc);by_cases e:j=m
  ·subst e;simp only[si,Bool.and_eq_true,decide_eq_true_eq];exact⟨⟨hc.1.1.2,hc.1.2⟩,hc.2⟩
  ·exact QS j h1 jB
 all_goals have e:gY si s (a+1)=m:=xZ (by simp only[si,Bool.and_eq_true,decide_eq_true_eq];omega) R0 Rq QS
 ·(refine bQ [.tmp 4,.tmp 5,.tmp 6] ?_ ?_<;>(try simp only[go_sem]))
  simp only[ny,e];rw[jN]
 ·(refine bQ [.tmp 4,.tmp 5,.tmp 6] ?_ ?_<;>(try simp only[go_sem]))
  simp only[ny,e];rw[jP,jP]
 ·(refine bQ [.tmp 4,.tmp 5,.tmp 6] ?_ ?_<;>(try simp only[go_sem]))
  simp only[ny,e];rw[jP,jN]
def K1:iF.length=5:=rfl
def Jc(s:PL)(hs:0<s.size)(XG:s.size<=1000000):dO prog 131 [rS s] (rS (mI s)):=by
 refine fg func131 ntmps131 ?_
 (repeat' (first|refine ax fun K hK=>?_|refine az ?_|(with_reducible refine gR 5 ?_);refine dE 5 (aK 0 12) mixed ?_|(with_reducible refine gR 11 ?_);refine dE 11 (aK 0 6) mixed ?_|(refine hK _ _ ?_;clear hK K)|(refine aw ?_ ?_<;>intro hc<;>try exact jz)|refine ay ?_|exact jI|(clear hK K)))
 have PY:=hK;clear hK;refine dR (S:=Nat) [(2,1),(4,1),(8,22)] (fun k=>k<=5/\∀j,j<k->pz s (nth iF j)=false) (fun k=>[(3,.sl true 1 (iF.map eS) []),(4,rI k)]) (fun _=>⟨[],[]⟩) (fun k=>5-k) 0 ⟨jB,fun j h=>jB⟩ (dS rfl (by(repeat' (first|exact jI|exact Or.inr rfl|exact Or.inl rfl|refine jA ?_ ?_)))) ?_;rintro k ⟨Qg,P1⟩ Kr P3;have hl:=K1;refine S ?_
 (repeat' (first|refine ax fun K hK=>?_|refine az ?_|(with_reducible refine gR 5 ?_);refine dE 5 (aK 0 12) mixed ?_|(with_reducible refine gR 11 ?_);refine dE 11 (aK 0 6) mixed ?_|(refine hK _ _ ?_;clear hK K)|(refine aw ?_ ?_<;>intro hc<;>try exact jz)|refine PY _ _ ?_|refine ay ?_|exact jI|(clear hK K)))
 ·(refine bQ [.tmp 2] ?_ ?_<;>(try simp only[go_sem]))
  have:iF.find? (pz s)=some (nth iF k):=yi P1 jB (by simp only[pz,Bool.and_eq_true,decide_eq_true_eq];exact hc);simp only[mI,this]
 ·refine P3 _ _ (dZ (k+1) ⟨jB,fun j hj=>?_⟩ jJ rfl cc);by_cases e:j=k
  ·subst e;simp only[pz,Bool.and_eq_false_iff,decide_eq_false_iff_not,Int.not_le];exact hc
  ·exact P1 j jB
 ·have h2:iF.find? (pz s)=none:=Bp fun j hj=>P1 j jB
  have PY:=hK;clear hK;have hos:gS.size=16:=rfl;refine dR (S:=Nat) [(2,1),(6,1),(30,17)] (fun k=>k<=16/\∀j,j<k->decide (dX s 0=dX gS (nth (List.range 16) j:Nat))=false) (fun k=>[(5,rS gS),(6,rI k)]) (fun _=>⟨[],[]⟩) (fun k=>16-k) 0 ⟨jB,fun j h=>jB⟩ (dS rfl (by(repeat' (first|exact jI|exact Or.inr rfl|exact Or.inl rfl|refine jA ?_ ?_)))) ?_;rintro m ⟨R0,Rq⟩ Kj U9;refine S ?_
  (repeat' (first|refine ax fun K hK=>?_|refine az ?_|(with_reducible refine gR 5 ?_);refine dE 5 (aK 0 12) mixed ?_|(with_reducible refine gR 11 ?_);refine dE 11 (aK 0 6) mixed ?_|(refine hK _ _ ?_;clear hK K)|(refine aw ?_ ?_<;>intro hc<;>try exact jz)|refine PY _ _ ?_|refine ay ?_|exact jI|(clear hK K)))
  ·(refine bQ [.tmp 2] ?_ ?_<;>(try simp only[go_sem]))
   have h3:(List.range 16).find? (fun k:Nat=>decide (dX s 0=dX gS (k:Nat)))=some (nth (List.range 16) m):=yi Rq jF (by rw[At jB];simpa using hc);simp only[mI,h2,h3];rw[At jB]
  ·refine U9 _ _ (dZ (m+1) ⟨jB,fun j hj=>?_⟩ jJ rfl cc);by_cases e:j=m
   ·subst e;rw[At jB];simpa using hc
   ·exact Rq j jB
  ·(refine bQ [.tmp 2] ?_ ?_<;>(try simp only[go_sem]))
   have h3:(List.range 16).find? (fun k:Nat=>decide (dX s 0=dX gS (k:Nat)))=none:=Bp fun j hj=>Rq j (by simp at hj;omega)
   simp only[mI,h2,h3]
def pE(t:bY×Int×Int):AV:=.ba [.agg (lw t.1),rI t.2.1,rI t.2.2]
def Lq(s:PL)(a:Nat)(hs:s.size<=1000000)(ha:a<s.size):dO prog 84 [rS s,rI a] (pE (gF s a)):=by
 have hex:(s.extract a s.size).size=s.size-a:=by rw[ByteArray.size_extract];omega
 have P5:=OG (s.extract a s.size);refine fg func84 ntmps84 ?_
 (repeat' (first|refine ax fun K hK=>?_|refine az ?_|(refine hK _ _ ?_;clear hK K)|(refine aw ?_ ?_<;>intro hc<;>try exact jz)|refine cp (wi _) ?_|refine cp (yF _) ?_|refine cp (K4 s a hs ha) ?_|refine cp (Jc _ jB jB) ?_|refine ay ?_|exact jI|(clear hK K)))
 ·have PY:=hK;clear hK;refine dR (S:=Nat) [(8,1),(20,12)] (fun m=>a<=m/\m<=s.size/\∀j,a<=j->j<m->jg (dX s j)=true) (fun m=>[(8,rI m)]) (fun _=>⟨[],[(0,.var 168 (lw uE))]⟩) (fun m=>s.size-m) a ⟨jB,jB,fun j h1 h2=>jB⟩ (dS rfl cc) ?_;rintro m ⟨R0,Rq,QS⟩ Kr P3;refine S ?_
  (repeat' (first|refine ax fun K hK=>?_|refine az ?_|(refine hK _ _ ?_;clear hK K)|(refine aw ?_ ?_<;>intro hc<;>try exact jz)|(first|refine cg (wi _) ?_|refine xk (wi _) ?_)|refine PY _ _ ?_|refine ay ?_|exact jI|(clear hK K)))
  ·refine P3 _ _ (dZ (m+1) ⟨jB,jB,fun j h1 h2=>?_⟩ jJ rfl cc);by_cases e:j=m
   ·subst e;exact hc.2
   ·exact QS j h1 jB
  ·have hd:jg (dX s a)=true:=by assumption
   have e:gY jg s a=m:=xZ (by rintro⟨h1,h2⟩;rcases hc with h|h;omega;rw[h2]at h;cases h) R0 Rq QS
   (repeat' (first|refine ax fun K hK=>?_|refine az ?_|(refine hK _ _ ?_;clear hK K)|(refine aw ?_ ?_<;>intro hc<;>try exact jz)|refine cp (Ob _) ?_|refine ay ?_|exact jI|(clear hK K)))
   ·(refine bA [.cell 4 168,.tmp 5,.tmp 6] ?_;try simp only[go_sem])
    simp only[gF,hd,if_true,e,if_neg,hc,Bool.false_eq_true,if_false,pE,uE];rfl
   ·(refine bA [.cell 4 168,.tmp 5,.tmp 6] ?_;try simp only[go_sem])
    simp only[gF,hd,if_true,e,hc,pE];rfl
 ·have PY:=hK;clear hK;have Vw:jg (dX s a)=false:=by assumption
  have Qa:vm (dX s a)=true:=by assumption
  refine dR (S:=Nat) [(8,1),(49,24)] (fun m=>a<=m/\m<=s.size/\∀j,a<=j->j<m->oc (dX s j)=true) (fun m=>[(8,rI m)]) (fun _=>⟨[],[(0,.var 168 (lw uE))]⟩) (fun m=>s.size-m) a ⟨jB,jB,fun j h1 h2=>jB⟩ (dS rfl cc) ?_;rintro m ⟨R0,Rq,QS⟩ Kr P3;have hexm:(s.extract a m).size=m-a:=by rw[ByteArray.size_extract];omega
  refine S ?_
  (repeat' (first|refine ax fun K hK=>?_|refine az ?_|(refine hK _ _ ?_;clear hK K)|(refine aw ?_ ?_<;>intro hc<;>try exact jz)|(first|refine cg (wi _) ?_|refine xk (wi _) ?_)|(first|refine cg (yF _) ?_|refine xk (yF _) ?_)|refine cp (I3 _) ?_|refine PY _ _ ?_|refine ay ?_|exact jI|(clear hK K)))
  ·refine P3 _ _ (dZ (m+1) ⟨jB,jB,fun j h1 h2=>?_⟩ jJ rfl cc);by_cases e:j=m
   ·subst e;simp only[oc,Bool.or_eq_true,decide_eq_true_eq];exact hc.2
   ·exact QS j h1 jB
  all_goals
   have Th:(s.size:Int)<=m\/(vm (dX s m)=false/\jg (dX s m)=false)/\¬dX s m=95:=by assumption
   have e:gY oc s a=m:=xZ (by
    simp only[oc,Bool.or_eq_true,decide_eq_true_eq];rintro⟨h1,h2⟩;rcases Th with h|⟨⟨h3,h4⟩,h5⟩
    ·omega
    ·rcases h2 with(h|h)|h
     ·rw[h]at h3;exact Bool.noConfusion h3
     ·rw[h]at h4;exact Bool.noConfusion h4
     ·exact h5 h) R0 Rq QS
  ·(refine bA [.cell 4 168,.tmp 5,.tmp 6] ?_;try simp only[go_sem])
   simp only[gF,Vw,Qa,e,hc,Bool.false_eq_true,if_false,if_true,pE];rfl
  ·(refine bA [.cell 4 168,.tmp 5,.tmp 6] ?_;try simp only[go_sem])
   simp only[gF,Vw,Qa,e, *,Bool.false_eq_true,if_false,if_true,pE];rw[jP];rfl
  ·(refine bA [.cell 4 168,.tmp 5,.tmp 6] ?_;try simp only[go_sem])
   simp only[gF,Vw,Qa,e, *,Bool.false_eq_true,if_false,if_true,pE];rw[jN];rfl
 ·(refine bA [.cell 4 168,.tmp 5,.tmp 6] ?_;try simp only[go_sem])
  simp only[gF, *,Bool.false_eq_true,if_false,if_true,pE];rfl
 ·(refine bA [.cell 4 168,.tmp 5,.tmp 6] ?_;try simp only[go_sem])
  simp only[gF, *,Bool.false_eq_true,if_false,if_true,pE];rfl
 ·(refine bA [.cell 4 168,.tmp 5,.tmp 6] ?_;try simp only[go_sem])
  simp only[gF, *,Bool.false_eq_true,if_false,pE];rfl
attribute [go_sem] pE
def CX(s:PL)(hs:s.size<=1000000):dO prog 52 [rS s] (.ba [aX lw 3 (j5 s).1,rI (j5 s).2.1,rI (j5 s).2.2]):=by
 refine fg func52 ntmps52 ?_
 (repeat' (first|refine ax fun K hK=>?_|refine az ?_|(refine hK _ _ ?_;clear hK K)|(refine aw ?_ ?_<;>intro hc<;>try exact jz)|refine cp (CP s 0 hs (Nat.zero_le _)) ?_|refine ay ?_|exact jI|(clear hK K)))
 ·refine lE [.tmp 2,.tmp 3,.tmp 4] ?_;simp only[j5,if_pos hc];refine bT.ba ?_;exact j6
 ·have PY:=hK;clear hK;have h0:=uX (s:=s) (i:=0) (Nat.zero_le _);refine dR (S:=Nat×List bY) [(2,8),(16,22)] (fun p=>p.1<=s.size/\p.2.length<=p.1/\uB s p.1 p.2=j5 s) (fun p=>[(5,.rs 0 p.2.length 3 p.2.length),(6,rI p.1)]) (fun p=>⟨[],[(0,.aE 168 3 (p.2.map lw))]⟩) (fun p=>s.size-p.1) (nn s 0,[]) ⟨h0.2,Nat.zero_le _,by simp only[j5];rw[jN]⟩ (dS rfl cc) ?_;rintro⟨k,ts⟩ ⟨Qg,P1,SI⟩ Kr P3;simp only at Qg P1 SI
  (refine S ?_;try exact jI)
  by_cases hk:k<s.size
  ·have P6:=xz (s:=s) (a:=k) hk
   (repeat' (first|refine ax fun K hK=>?_|refine az ?_|(refine hK _ _ ?_;clear hK K)|(refine aw ?_ ?_<;>intro hc<;>try exact jz)|refine cp (Lq s k hs hk) ?_|refine PY _ _ ?_|refine ay ?_|exact jI|(clear hK K)))
   ·refine lE [.tmp 2,.tmp 3,.tmp 4] ?_;rw[<-SI,Il hk (by assumption)];refine bT.ba ?_;exact j6
   ·obtain⟨e,SG,T8,XH⟩:=P6 hc;have h4:=uX XH;rw[SG]
    (repeat' (first|refine ax fun K hK=>?_|refine az ?_|(refine hK _ _ ?_;clear hK K)|(refine aw ?_ ?_<;>intro hc<;>try exact jz)|refine cp (CP s e hs XH) ?_|refine ay ?_|exact jI|(clear hK K)))
    refine P3 _ _ (yo [1] (nn s e,ts++[(gF s k).1]) ⟨h4.2,by simp;omega,by rw[<-SI,KR hk hc,SG];simp⟩ jJ rfl Sd Sd j6)
  ·(repeat' (first|refine ax fun K hK=>?_|refine az ?_|(refine hK _ _ ?_;clear hK K)|(refine aw ?_ ?_<;>intro hc<;>try exact jz)|refine PY _ _ ?_|refine ay ?_|exact jI|(clear hK K)))
   refine lE [.tmp 2,.tmp 3,.tmp 4] ?_;rw[<-SI,K6 hk];simp only[go_sem];refine bT.ba ?_;refine jA ?_ (jA (.same _ rfl) (jA (.same _ rfl) trivial));refine dz.row (enc:=lw) (e:=168) (ts++[⟨0,⟨#[]⟩,s.size⟩]) ?_ ?_ ?_
   ·rfl
   ·(refine S ?_;try exact jI)
    rfl
   ·(refine S ?_;try exact jI)
def gK(r:Rd):PH:=[rS r.src,aX lw 3 r.l,rI r.i,.rs 1 r.nodes.length 5 r.nodes.length,rI r.deep,rI r.e,rI r.at_]
def bZ(r:Rd):PG:=[(0,.var 128 (gK r)),(1,.aE 78 5 (r.nodes.map eG))]
attribute [go_sem] bZ gK
abbrev pR:AV:=.pt 0 0 0 0
structure nH(r:Rd):Prop where
 src:r.src.size<=1000
 pos:0<=r.i
 lt:r.i<r.l.length
 len:r.l.length<=2000
 od:-1000<=r.deep
 o3:r.deep<=1000
 nodes:r.nodes.length<=100000
def bq{r:Rd}(h:r.Inv):nH r:=by have hp:=h.dn;unfold Rd.dn at hp;have:=h.lt;have:=h.od;have:=h.o3;exact⟨h.src,h.pos,h.lt,h.len,jB,jB,by split at hp<;>omega⟩
def td(r:Rd)(e:Int)(h:nH r):ai prog 133 [pR,rI e] (bZ r) (fun v l=>v=.ba []/\l=bZ (r.aC e)):=by
 obtain⟨h1,h2,h3,h4,h5,h6,h7⟩:=h;refine aQ func133 ntmps133 ?_;simp only[bZ,gK]
 (repeat' (first|refine ax fun K hK=>?_|refine az ?_|(with_reducible refine gR 2 ?_);refine dE 2 (aK 0 15) mixed ?_|(refine hK _ _ ?_;clear hK K)|(refine aw ?_ ?_<;>intro hc<;>try exact jz)|refine ay ?_|exact jI|(clear hK K)))
 ·(refine bQ [] ?_ ?_<;>(try simp only[go_sem]))
  simp only[Rd.aC,if_pos hc];rfl
 ·(refine bQ [] ?_ ?_<;>(try simp only[go_sem]))
  simp only[Rd.aC,if_neg hc]
def ga(r:Rd)(t:PL)(h:nH r):ai prog 88 [pR,rS t] (bZ r) (fun v l=>v=rB (r.is t)/\l=bZ r):=by
 obtain⟨h1,h2,h3,h4,h5,h6,h7⟩:=h;refine aQ func88 ntmps88 ?_;simp only[bZ,gK]
 (repeat' (first|refine ax fun K hK=>?_|refine az ?_|(with_reducible refine gR 1 ?_);refine dE 1 (aK 0 12) mixed ?_|(refine hK _ _ ?_;clear hK K)|(refine aw ?_ ?_<;>intro hc<;>try exact jz)|refine ay ?_|exact jI|(clear hK K)))
 (refine bA [.tmp 4] ?_;try simp only[go_sem])
 rfl
def wy(r:Rd)(k:Int)(h:nH r):ai prog 53 [pR,rI k] (bZ r) (fun v l=>v=rB (r.kind k)/\l=bZ r):=by
 obtain⟨h1,h2,h3,h4,h5,h6,h7⟩:=h;refine aQ func53 ntmps53 ?_;simp only[bZ,gK]
 (repeat' (first|refine ax fun K hK=>?_|refine az ?_|(with_reducible refine gR 1 ?_);refine dE 1 (aK 0 21) mixed ?_|(refine hK _ _ ?_;clear hK K)|(refine aw ?_ ?_<;>intro hc<;>try exact jz)|refine ay ?_|exact jI|(clear hK K)))
 (refine bA [.tmp 4] ?_;try simp only[go_sem])
 rfl
def ir(r:Rd)(t:PL)(h:nH r):ai prog 86 [pR,rS t] (bZ r) (fun v l=>v=.ba []/\l=bZ (r.ap t)):=by
 have SO:=ga r t h;have hf:=td r 20 h;obtain⟨h1,h2,h3,h4,h5,h6,h7⟩:=h;simp only[bZ,gK]at SO hf;refine aQ func86 ntmps86 ?_;simp only[bZ,gK]
 (repeat' (first|refine ax fun K hK=>?_|refine az ?_|(refine hK _ _ ?_;clear hK K)|(refine aw ?_ ?_<;>intro hc<;>try exact jz)|refine cm (SO) ?_|refine cm (hf) ?_|refine ay ?_|exact jI|(clear hK K)))
 ·(refine bQ [] ?_ ?_<;>(try simp only[go_sem]))
  simp only[Rd.ap,hc,Bool.false_eq_true,if_false,go_sem]
 ·(refine bQ [] ?_ ?_<;>(try simp only[go_sem]))
  simp only[Rd.ap,hc,if_true];rfl
def tY(r:Rd)(h:nH r):ai prog 87 [pR] (bZ r) (fun v l=>v=rS r.name.2/\l=bZ r.name.1):=by
 have SO:=wy r 3 h;have hf:=td r 20 h;obtain⟨h1,h2,h3,h4,h5,h6,h7⟩:=h;simp only[bZ,gK]at SO hf;refine aQ func87 ntmps87 ?_;simp only[bZ,gK]
 (repeat' (first|refine ax fun K hK=>?_|refine az ?_|(with_reducible refine gR 6 ?_);refine dE 6 (aK 0 13) mixed ?_|(refine hK _ _ ?_;clear hK K)|(refine aw ?_ ?_<;>intro hc<;>try exact jz)|refine cm (SO) ?_|refine cm (hf) ?_|refine ay ?_|exact jI|(clear hK K)))
 ·(refine bQ [.tmp 2] ?_ ?_<;>(try simp only[go_sem]))
  ·simp only[Rd.name,hc,Bool.false_eq_true,if_false]
  ·simp only[Rd.name,hc,Bool.false_eq_true,if_false,go_sem]
 ·(refine bQ [.tmp 2] ?_ ?_<;>(try simp only[go_sem]))
  ·simp only[Rd.name,hc,if_true];rw[show r.i+1-1=r.i from jB];rfl
  ·simp only[Rd.name,hc,if_true];rfl
def gB(r:Rd)(h:nH r):ai prog 85 [pR] (bZ r) (fun v l=>v=rI r.cu/\l=bZ r):=by
 obtain⟨h1,h2,h3,h4,h5,h6,h7⟩:=h;refine aQ func85 ntmps85 ?_;simp only[bZ,gK]
 (repeat' (first|refine ax fun K hK=>?_|refine az ?_|(with_reducible refine gR 1 ?_);refine dE 1 (aK 0 17) mixed ?_|(refine hK _ _ ?_;clear hK K)|(refine aw ?_ ?_<;>intro hc<;>try exact jz)|refine cp (Km _ _ jB) ?_|refine ay ?_|exact jI|(clear hK K)))
 (refine bQ [.tmp 2] ?_ ?_<;>(try simp only[go_sem]))
 rfl
def vD(r:Rd)(k ln n:Int)(nm:PL)(L:PJ)(h:nH r):ai prog 138 [pR,rI k,rI ln,rI n,rS nm,aX eI 1 L] (bZ r) (fun v l=>v=rI (r.put k ln n nm L).2/\l=bZ (r.put k ln n nm L).1):=by
 obtain⟨h1,h2,h3,h4,h5,h6,h7⟩:=h;refine aQ func138 ntmps138 ?_;simp only[bZ,gK]
 (repeat' (first|refine ax fun K hK=>?_|refine az ?_|(refine hK _ _ ?_;clear hK K)|(refine aw ?_ ?_<;>intro hc<;>try exact jz)|refine ay ?_|exact jI|(clear hK K)))
 (refine bQ [.tmp 12] ?_ ?_<;>(try simp only[go_sem]))
 ·simp only[Rd.put];exact Lp jB
 ·simp only[Rd.put,Rd.node,List.map_append,List.length_append,List.length_cons,List.length_nil];rfl
def sy(r:Rd)(h:nH r):ai prog 136 [pR] (bZ r) (fun v l=>v=.ba []/\l=bZ r.down):=by
 have hf:=td r 21 h;obtain⟨h1,h2,h3,h4,h5,h6,h7⟩:=h;simp only[bZ,gK]at hf;refine aQ func136 ntmps136 ?_;simp only[bZ,gK]
 (repeat' (first|refine ax fun K hK=>?_|refine az ?_|(refine hK _ _ ?_;clear hK K)|(refine aw ?_ ?_<;>intro hc<;>try exact jz)|refine cm (hf) ?_|refine ay ?_|exact jI|(clear hK K)))
 ·(refine bQ [] ?_ ?_<;>(try simp only[go_sem]))
  simp only[Rd.down,if_pos hc,go_sem]
 ·(refine bQ [] ?_ ?_<;>(try simp only[go_sem]))
  simp only[Rd.down];rw[jN]
def qP(r:Rd)(h:nH r):ai prog 134 [pR] (bZ r) (fun v l=>v=rS r.word/\l=bZ r):=by
 have SO:=wy r 4 h;obtain⟨h1,h2,h3,h4,h5,h6,h7⟩:=h;simp only[bZ,gK]at SO;refine aQ func134 ntmps134 ?_;simp only[bZ,gK]
 (repeat' (first|refine ax fun K hK=>?_|refine az ?_|(with_reducible refine gR 3 ?_);refine dE 3 (aK 0 12) mixed ?_|(refine hK _ _ ?_;clear hK K)|(refine aw ?_ ?_<;>intro hc<;>try exact jz)|refine cm (SO) ?_|refine ay ?_|exact jI|(clear hK K)))
 ·(refine bQ [.tmp 2] ?_ ?_<;>(try simp only[go_sem]))
  simp only[Rd.word,hc,if_true];rfl
 ·(refine bQ [.tmp 2] ?_ ?_<;>(try simp only[go_sem]))
  simp only[Rd.word,hc,Bool.false_eq_true,if_false]
def HY(r:Rd)(h:nH r)(hn:r.kind 3=true->r.i+1<r.l.length):ai prog 173 [pR] (bZ r) (fun v l=>v=rB r.calls/\l=bZ r):=by
 have SO:=wy r 3 h;obtain⟨h1,h2,h3,h4,h5,h6,h7⟩:=h;simp only[bZ,gK]at SO;refine aQ func173 ntmps173 ?_;simp only[bZ,gK]
 (repeat' (first|refine ax fun K hK=>?_|refine az ?_|(with_reducible refine gR 2 ?_);refine dE 2 (aK 0 32) mixed ?_|(refine hK _ _ ?_;clear hK K)|(refine aw ?_ ?_<;>intro hc<;>try exact jz)|refine cm (SO) ?_|refine ay ?_|exact jI|(clear hK K)))
 refine⟨fun h=>⟨h,jB,hn h⟩,fun h=>⟨h,jB,hn (by simp only[Bool.and_eq_true]at h;exact h.1)⟩,?_⟩
 (repeat' (first|refine ax fun K hK=>?_|refine az ?_|(with_reducible refine gR 2 ?_);refine dE 2 (aK 0 32) mixed ?_|(refine hK _ _ ?_;clear hK K)|(refine aw ?_ ?_<;>intro hc<;>try exact jz)|refine ay ?_|exact jI|(clear hK K)))
 (refine bA [.tmp 2] ?_;try simp only[go_sem])
 rfl
def KJ(lv:Int):dO prog 193 [rI lv] (aX eS 1 (mb lv)):=by
 refine fg func193 ntmps193 ?_
 (repeat' (first|refine ax fun K hK=>?_|refine az ?_|(refine hK _ _ ?_;clear hK K)|(refine aw ?_ ?_<;>intro hc<;>try exact jz)|refine ay ?_|exact jI|(clear hK K)))
 all_goals refine lE [.tmp 2] ?_
 all_goals simp only[mb, *,if_true,if_false,Int.reduceEq,if_pos,if_neg,not_false_eq_true]
 all_goals exact .lit _ _ _ _ _
def Jl(lv:Int):(mb lv).length<=4/\∀s∈mb lv,s≠⟨#[]⟩:=by
 unfold mb;split
 ·decide
 ·split
  ·decide
  ·split
   ·decide
   ·split<;>decide
def Gu(r:Rd)(lv:Int)(h:nH r):ai prog 184 [pR,rI lv] (bZ r) (fun v l=>v=rS (r.next lv)/\l=bZ r):=by
 have SO:=fun t=>ga r t h
 have hl:=Jl lv;obtain⟨h1,h2,h3,h4,h5,h6,h7⟩:=h;simp only[bZ,gK]at SO;refine aQ func184 ntmps184 ?_;simp only[bZ,gK]
 (repeat' (first|refine ax fun K hK=>?_|refine az ?_|(refine hK _ _ ?_;clear hK K)|(refine aw ?_ ?_<;>intro hc<;>try exact jz)|refine cp (KJ lv) ?_|refine ay ?_|exact jI|(clear hK K)))
 have PY:=hK;clear hK;refine dR (S:=Nat) [(4,1),(6,2),(10,17)] (fun k=>k<=(mb lv).length/\∀j,j<k->r.is (nth (mb lv) j)=false) (fun k=>[(6,rI k)]) (fun _=>⟨[0,1],bZ r⟩) (fun k=>(mb lv).length-k) 0 ⟨jB,fun j h=>jB⟩ (dS rfl cc) ?_;rintro k ⟨Qg,P1⟩ Kr P3;simp only[bZ,gK];refine S ?_
 (repeat' (first|refine ax fun K hK=>?_|refine az ?_|(refine hK _ _ ?_;clear hK K)|(refine aw ?_ ?_<;>intro hc<;>try exact jz)|refine cm (SO _) ?_|refine PY _ _ ?_|refine ay ?_|exact jI|(clear hK K)))
 ·(refine bQ [.tmp 4] ?_ ?_<;>(try simp only[go_sem]))
  have:(mb lv).find? (fun s=>r.is s)=some (nth (mb lv) k):=yi P1 jB hc;simp only[Rd.next,this]
 ·refine P3 _ _ (dZ (k+1) ⟨jB,fun j hj=>?_⟩ jJ rfl cc);by_cases e:j=k
  ·subst e;exact hc
  ·exact P1 j jB
 ·(refine bQ [.tmp 4] ?_ ?_<;>(try simp only[go_sem]))
  have:(mb lv).find? (fun s=>r.is s)=none:=Bp fun j hj=>P1 j jB
  simp only[Rd.next,this]
def NG{P:PS}{f:FuncId}{args args':PH}{l:PG}{R:AV->List PU->Prop}(hl:oU args args')(h:ai P f args' l R):ai P f args l R:=fun w vs h1 h2=>by
 obtain⟨J',hg⟩:=hl.get;refine h w vs h1 ⟨J'.symm.trans h2.1,fun i a v ha hv=>?_⟩;have hi:i<args.length:=by rw[J'];exact(List.getElem?_eq_some_iff.1 ha).1
 exact hg i args[i] a (List.getElem?_eq_getElem hi) ha w v (h2.2 i _ v (List.getElem?_eq_getElem hi) hv)
def kf(r:Rd)(k ln n:Int)(nm:PL)(L:PJ)(a:AV)(ha:gj a (aX eI 1 L))(h:nH r):ai prog 138 [pR,rI k,rI ln,rI n,rS nm,a] (bZ r) (fun v l=>v=rI (r.put k ln n nm L).2/\l=bZ (r.put k ln n nm L).1):=
 NG (args':=[pR,rI k,rI ln,rI n,rS nm,aX eI 1 L]) ⟨gj.refl _,gj.refl _,gj.refl _,gj.refl _,gj.refl _,ha,trivial⟩ (vD r k ln n nm L h)
def BB(n:Nat):Prop:=∀r:Rd,r.Inv->8*r.rem+1<=n->ai prog 192 [pR] (bZ r) (fun v l=>v=rI (py n r).2/\l=bZ (py n r).1)
def xA(n:Nat):Prop:=∀r:Rd,r.Inv->8*r.rem+2<=n->ai prog 183 [pR] (bZ r) (fun v l=>v=rI (gO n r).2/\l=bZ (gO n r).1)
def wW(n:Nat):Prop:=∀(lv:Nat) (r:Rd),lv<=5->r.Inv->8*r.rem+8-lv<=n->ai prog 175 [pR,rI lv] (bZ r) (fun v l=>v=rI (dw n lv r).2/\l=bZ (dw n lv r).1)
def LH(n:Nat)(ha:BB n)(hf:xA n):xA (n+1):=by
 intro r h hn;have sg:∀t,r.is t=true->r.e=0/\r.down.Inv/\r.down.inc.Inv/\r.down.inc.rem+1<=r.rem:=fun t ht=>by
  obtain⟨he,hk⟩:=Rd.aR ht;obtain⟨h1,h2,h3,h4,_⟩:=Rd.bC h he;have SE:r.down.tok=r.tok:=by unfold Rd.tok;rw[h3,h4]
  obtain⟨s1,e1⟩:=Rd.bk h1 (by rw[SE];exact hk);have:=s1.inv h1;have hb:=Rd.behind h1 (by rw[SE];exact hk);refine⟨he,h1,this,?_⟩;unfold Rd.rem;rw[if_pos he];have:r.down.inc.i=r.i+1:=by show r.down.i+1=_;rw[h3]
  have hl:r.down.inc.l=r.l:=h4;rw[this,hl];rw[h3,h4]at hb;split<;>omega
 by_cases hm:r.is (⟨#[45]⟩:PL)=true
 ·obtain⟨he,h1,h2,h3⟩:=sg _ hm;have s2:=(rY n).2.1 _ h2;have h4:=s2.inv h2;have h5:(gO n r.down.inc).1.up.Inv:=(Rd.fk h he ((Rd.bk h1 (by obtain⟨_,_,h3,h4,_⟩:=Rd.bC h he;unfold Rd.tok;rw[h3,h4];exact(Rd.aR hm).2)).1.trans s2)).inv h;have Yt:=h2.od;have Yu:=h2.o3;have Sh:=h1.lt;have Ul:=h1.len;have Yv:=h1.pos;have Yw:=h4.od;have Yx:=h4.o3;rw[gO,if_pos hm];refine aQ func183 ntmps183 ?_;refine S ?_
  (have W:=hm;repeat' (first|refine ax fun K hK=>?_|refine az ?_|(refine hK _ _ ?_;clear hK K)|(refine aw ?_ ?_<;>intro hc<;>try exact jz)|refine cm (gB r (bq h)) ?_|refine cm (ga r _ (bq h)) ?_|refine cm (sy r (bq h)) ?_|refine cm (hf r.down.inc h2 jB) ?_|refine cm (kf (gO n r.down.inc).1.up _ _ _ _ [(gO n r.down.inc).2] _ gj.sl (bq h5)) ?_|refine ay ?_|exact jI|(clear hK K)))
  (refine bQ [.tmp 2] ?_ ?_<;>(try simp only[go_sem]))
 ·have XI:r.is (⟨#[45]⟩:PL)=false:=by simpa using hm
  by_cases hq:r.is (⟨#[33]⟩:PL)=true
  ·obtain⟨he,h1,h2,h3⟩:=sg _ hq;have s2:=(rY n).2.1 _ h2;have h4:=s2.inv h2;have h5:(gO n r.down.inc).1.up.Inv:=(Rd.fk h he ((Rd.bk h1 (by obtain⟨_,_,h3,h4,_⟩:=Rd.bC h he;unfold Rd.tok;rw[h3,h4];exact(Rd.aR hq).2)).1.trans s2)).inv h;have Yt:=h2.od;have Yu:=h2.o3;have Sh:=h1.lt;have Ul:=h1.len;have Yv:=h1.pos;have Yw:=h4.od;have Yx:=h4.o3;rw[gO,if_neg hm,if_pos hq];refine aQ func183 ntmps183 ?_;refine S ?_
   (have W:=jA XI hq;repeat' (first|refine ax fun K hK=>?_|refine az ?_|(refine hK _ _ ?_;clear hK K)|(refine aw ?_ ?_<;>intro hc<;>try exact jz)|refine cm (gB r (bq h)) ?_|refine cm (ga r _ (bq h)) ?_|refine cm (sy r (bq h)) ?_|refine cm (hf r.down.inc h2 jB) ?_|refine cm (kf (gO n r.down.inc).1.up _ _ _ _ [(gO n r.down.inc).2] _ gj.sl (bq h5)) ?_|refine ay ?_|exact jI|(clear hK K)))
   (refine bQ [.tmp 2] ?_ ?_<;>(try simp only[go_sem]))
  ·have Yy:r.is (⟨#[33]⟩:PL)=false:=by simpa using hq
   rw[gO,if_neg hm,if_neg hq];refine aQ func183 ntmps183 ?_;refine S ?_
   (have W:=jA XI Yy;repeat' (first|refine ax fun K hK=>?_|refine az ?_|(refine hK _ _ ?_;clear hK K)|(refine aw ?_ ?_<;>intro hc<;>try exact jz)|refine cm (gB r (bq h)) ?_|refine cm (ga r _ (bq h)) ?_|refine cm (ha r h jB) ?_|refine ay ?_|exact jI|(clear hK K)))
   (refine bQ [.tmp 2] ?_ ?_<;>(try simp only[go_sem]))
def OS(n:Nat)(hf:xA n)(Th:∀m,m<=n->wW m):wW (n+1):=by
 intro lv r hlv h hn;have O':∀(m:Nat) (q:Rd),m<=n->lv+1<=5->q.Inv->8*q.rem+7-lv<=m->ai prog 175 [pR,rI ((lv:Int)+1)] (bZ q) (fun v l=>v=rI (dw m (lv+1) q).2/\l=bZ (dw m (lv+1) q).1):=fun m q hm hl hq hr=>by have:=Th m hm (lv+1) q hl hq jB;rw[show((lv+1:Nat):Int)=(lv:Int)+1 from jB]at this;exact this
 by_cases h5:lv=5
 ·subst h5;rw[dw,if_pos rfl];refine aQ func175 ntmps175 ?_;refine S ?_
  (repeat' (first|refine ax fun K hK=>?_|refine az ?_|(refine hK _ _ ?_;clear hK K)|(refine aw ?_ ?_<;>intro hc<;>try exact jz)|refine cm (hf r h jB) ?_|refine ay ?_|exact jI|(clear hK K)))
  (refine bQ [.tmp 4] ?_ ?_<;>(try simp only[go_sem]))
 ·rw[dw,if_neg h5];have s1:=(rY n).2.2.1 (lv+1) r h;have h1:=s1.inv h;have RZ:=s1.rem;refine aQ func175 ntmps175 ?_;refine S ?_
  (repeat' (first|refine ax fun K hK=>?_|refine az ?_|(refine hK _ _ ?_;clear hK K)|(refine aw ?_ ?_<;>intro hc<;>try exact jz)|refine cm (gB r (bq h)) ?_|refine cm (O' n r jl jB h jB) ?_|refine ay ?_|exact jI|(clear hK K)))
  refine dR (S:=Nat×Rd×Int) [(4,1),(6,3),(19,27)] (fun s=>s.2.1.Inv/\8*s.2.1.rem+7-lv<=s.1/\s.1<=n/\nQ s.1 lv r.cu s.2=nQ n lv r.cu (dw n (lv+1) r)) (fun s=>[(6,rI s.2.2)]) (fun s=>⟨[0,1],bZ s.2.1⟩) (fun s=>s.1) (n,dw n (lv+1) r) ⟨h1,jJ,Nat.le_refl _,rfl⟩ (dS rfl cc) ?_;rintro⟨m,q,x⟩ ⟨hq,R0,Rq,QS⟩ Kr P3;simp only at hq R0 Rq QS;rw[<-QS];obtain⟨m,rfl⟩:∃k,m=k+1:=⟨m-1,jB⟩;have UA:=hq.lt;have Wf:=hq.pos;have Wg:=hq.len;by_cases hx:q.next lv=⟨#[]⟩
  ·rw[nQ,if_pos hx];refine S ?_
   (have W:=hx;repeat' (first|refine ax fun K hK=>?_|refine az ?_|(refine hK _ _ ?_;clear hK K)|(refine aw ?_ ?_<;>intro hc<;>try exact jz)|refine cm (Gu q lv (bq hq)) ?_|refine ay ?_|exact jI|(clear hK K)))
   (refine bQ [.tmp 4] ?_ ?_<;>(try simp only[go_sem]))
  ·have hk:=Rd.aR (Rd.kP hx);obtain⟨t1,e1⟩:=Rd.bk hq hk.2;have hi:=t1.inv hq;have Wh:=Rd.cI hq hk;have t2:=(rY m).2.2.1 (lv+1) _ hi;have hj:=t2.inv hi;have hrj:=t2.rem;have t3:=fun L=>Rd.cF (t1.trans t2) (by have:=t2.dn;omega) 9 r.cu 0 (q.next lv) L
   rw[nQ,if_neg hx];refine S ?_
   (have W:=hx;repeat' (first|refine ax fun K hK=>?_|refine az ?_|(refine hK _ _ ?_;clear hK K)|(refine aw ?_ ?_<;>intro hc<;>try exact jz)|refine cm (Gu q lv (bq hq)) ?_|refine cm (O' m q.inc jB jB hi jB) ?_|refine cm (kf (dw m (lv+1) q.inc).1 _ _ _ _ [x,(dw m (lv+1) q.inc).2] _ gj.sl (bq hj)) ?_|refine ay ?_|exact jI|(clear hK K)))
   ·have h2:lv=2:=jB
    (refine bQ [.tmp 4] ?_ ?_<;>(try simp only[go_sem]))
    ·simp only[if_pos h2]
    ·simp only[if_pos h2]
   ·have h2:¬lv=2:=jB;refine P3 _ _ (dZ (m,(dw m (lv+1) q.inc).1.put 9 r.cu 0 (q.next lv) [x,(dw m (lv+1) q.inc).2]) ⟨(t3 _).inv hq,?_,jJ,?_⟩ jJ rfl cc)
    ·have h6:∀L,((dw m (lv+1) q.inc).1.put 9 r.cu 0 (q.next lv) L).1.rem=(dw m (lv+1) q.inc).1.rem:=fun L=>rfl
     simp only[h6];omega
    ·rw[<-QS,nQ,if_neg hx,if_neg h2]
end Go.Proofs.YtghoellpinmenaaGreatDoor