/- The plain law of the document's parser: what a tree looks like. The plain law of the document's parser: what a tree looks like, statements and all. The document's checker, as a function. What expressions tell, as functions. No conditions. -/
import Derived.Test.YtfkgcobaheegbaaGreatDoorLxT
set_option linter.all false
namespace Go.Gd
open Go
theorem jbe {α:Type} [Inhabited α] {a b:List α} {i:Nat} (h:i < a.length):nth (a++b) i=nth a i:=by
 simp [nth,List.getD_eq_getElem?_getD,List.getElem?_append_left h]
theorem jdc {α:Type} [Inhabited α] (a:List α) (x:α):nth (a++[x]) a.length=x:=by
 simp [nth,List.getD_eq_getElem?_getD]
def jaj (t:List GNode) (i:Int):Int:=(nth t i.toNat).kind
def isE (k:Int):Prop:=1≤k∧k≤9
def isR (k:Int):Prop:=isE k∨k=19∨k=20∨k=21
def isS (k:Int):Prop:=10≤k∧k≤17
def je9:List ByteArray:=[(⟨#[124,124]⟩:ByteArray),(⟨#[38,38]⟩:ByteArray),(⟨#[60]⟩:ByteArray),(⟨#[60,61]⟩:ByteArray),(⟨#[61,61]⟩:ByteArray),(⟨#[33,61]⟩:ByteArray),(⟨#[43]⟩:ByteArray),(⟨#[45]⟩:ByteArray),(⟨#[42]⟩:ByteArray),(⟨#[47]⟩:ByteArray),(⟨#[37]⟩:ByteArray)]
structure Shape (t:List GNode) (n:GNode):Prop where
 any:1≤n.kind∧n.kind≤21
 zero:n.kind=1∨n.kind=2∨n.kind=3∨n.kind=4∨n.kind=19→n.l=[]
 one:n.kind=5∨n.kind=6∨n.kind=7∨n.kind=8∨n.kind=14∨n.kind=20→∃ a,n.l=[a]∧isE (jaj t a)
 two:n.kind=9∨n.kind=12→∃ a b,n.l=[a,b]∧isE (jaj t a)∧isE (jaj t b)
 right:n.kind=10∨n.kind=11→∃ a,n.l=[a]∧isR (jaj t a)
 do_:n.kind=13→∃ a,n.l=[a]∧jaj t a=21
 if_:n.kind=15→∃ a b,isE (jaj t a)∧jaj t b=18∧(n.l=[a,b]∨∃ d,n.l=[a,b,d]∧jaj t d=18)
 while_:n.kind=16→∃ a b,n.l=[a,b]∧isE (jaj t a)∧jaj t b=18
 ret:n.kind=17→n.l=[]∨∃ a,n.l=[a]∧isE (jaj t a)
 block:n.kind=18→∀ a∈n.l,isS (jaj t a)
 call:n.kind=21→∀ a∈n.l,isE (jaj t a)
 num:n.kind=1→∃ s,jfT s∧n.n=ji5 s
 bool:n.kind=2→n.n=0∨n.n=1
 text:n.kind=3→n.name.size≤12
 sign:n.kind=9→n.name∈je9
inductive Chain (t:List GNode):Nat→List Int→Nat→Prop
 | nil (k:Nat):Chain t k [] k
 | cons {lo c hi:Nat} {L:List Int} (hc:c < t.length) (h1:Chain t lo (nth t c).l c) (h2:Chain t (c+1) L hi):Chain t lo ((c:Int)::L) hi
theorem Chain.le {t:List GNode} {lo hi:Nat} {L:List Int} (h:Chain t lo L hi):lo≤hi:=by
 induction h with
 | nil=>exact Nat.le_refl _
 | cons _ _ _ i1 i2=>omega
theorem Chain.mem {t:List GNode} {lo hi:Nat} {L:List Int} (h:Chain t lo L hi):∀ a∈L,0≤a∧lo≤a.toNat∧a.toNat < hi∧a.toNat < t.length:=by
 induction h with
 | nil=>intro a ha;simp at ha
 | @cons lo c hi L hc h1 h2 i1 i2=>
  intro a ha
  have l1:=h1.le
  have l2:=h2.le
  rcases List.mem_cons.1 ha with rfl | ha
  ·exact ⟨by omega,by simpa using l1,by simp;omega,by simpa using hc⟩
  ·have:=i2 a ha;omega
theorem Chain.mono {t u:List GNode} {lo hi:Nat} {L:List Int} (h:Chain t lo L hi):Chain (t++u) lo L hi:=by
 induction h with
 | nil k=>exact .nil k
 | cons hc _ _ i1 i2=>exact .cons (by simp;omega) (by rw [jbe hc];exact i1) i2
theorem Chain.append {t:List GNode} {lo mid hi:Nat} {L M:List Int} (h:Chain t lo L mid):Chain t mid M hi→Chain t lo (L++M) hi:=by
 induction h with
 | nil=>intro k;exact k
 | cons hc h1 _ _ i2=>intro k;exact .cons hc h1 (i2 k)
theorem Chain.one {t:List GNode} {lo c:Nat} (hc:c < t.length) (h:Chain t lo (nth t c).l c):Chain t lo [(c:Int)] (c+1):=.cons hc h (.nil _)
theorem jaZ {t u:List GNode} {a:Int} (h:a.toNat < t.length):jaj (t++u) a=jaj t a:=by unfold jaj;rw [jbe h]
theorem Shape.mono {t u:List GNode} {n:GNode} (h:Shape t n) (hl:∀ a∈n.l,a.toNat < t.length):Shape (t++u) n where
 any:=h.any
 zero:=h.zero
 one:=fun e=>by
  obtain ⟨a,h1,h2⟩:=h.one e
  exact ⟨a,h1,by rw [jaZ (hl a (by rw [h1];simp))];exact h2⟩
 two:=fun e=>by
  obtain ⟨a,b,h1,h2,h3⟩:=h.two e
  exact ⟨a,b,h1,by rw [jaZ (hl a (by rw [h1];simp))];exact h2,by rw [jaZ (hl b (by rw [h1];simp))];exact h3⟩
 right:=fun e=>by
  obtain ⟨a,h1,h2⟩:=h.right e
  exact ⟨a,h1,by rw [jaZ (hl a (by rw [h1];simp))];exact h2⟩
 do_:=fun e=>by
  obtain ⟨a,h1,h2⟩:=h.do_ e
  exact ⟨a,h1,by rw [jaZ (hl a (by rw [h1];simp))];exact h2⟩
 if_:=fun e=>by
  obtain ⟨a,b,h1,h2,h3⟩:=h.if_ e
  rcases h3 with h3 | ⟨d,h3,h4⟩
  ·exact ⟨a,b,by rw [jaZ (hl a (by rw [h3];simp))];exact h1,by rw [jaZ (hl b (by rw [h3];simp))];exact h2,.inl h3⟩
  ·exact ⟨a,b,by rw [jaZ (hl a (by rw [h3];simp))];exact h1,by rw [jaZ (hl b (by rw [h3];simp))];exact h2,.inr ⟨d,h3,by rw [jaZ (hl d (by rw [h3];simp))];exact h4⟩⟩
 while_:=fun e=>by
  obtain ⟨a,b,h1,h2,h3⟩:=h.while_ e
  exact ⟨a,b,h1,by rw [jaZ (hl a (by rw [h1];simp))];exact h2,by rw [jaZ (hl b (by rw [h1];simp))];exact h3⟩
 ret:=fun e=>by
  rcases h.ret e with h1 | ⟨a,h1,h2⟩
  ·exact .inl h1
  ·exact .inr ⟨a,h1,by rw [jaZ (hl a (by rw [h1];simp))];exact h2⟩
 block:=fun e a ha=>by rw [jaZ (hl a ha)];exact h.block e a ha
 call:=fun e a ha=>by rw [jaZ (hl a ha)];exact h.call e a ha
 num:=h.num
 bool:=h.bool
 text:=h.text
 sign:=h.sign
theorem Chain.len {t:List GNode} {lo hi:Nat} {L:List Int} (h:Chain t lo L hi):L.length+lo≤hi:=by
 induction h with
 | nil=>simp
 | @cons lo c hi L hc h1 h2 i1 i2=>
  have:=h1.le
  simp only [List.length_cons]
  omega
structure Mk (t t':List GNode) (L:List Int):Prop where
 pre:∃ u,t'=t++u
 chain:Chain t' t.length L t'.length
 shape:∀ k,t.length≤k→k < t'.length→Shape t' (nth t' k)∧(∀ a∈(nth t' k).l,0≤a∧a.toNat < k)∧∃ lo,Chain t' lo (nth t' k).l k
theorem Mk.refl (t:List GNode):Mk t t []:=⟨⟨[],by simp⟩,.nil _,fun k h1 h2=>by omega⟩
theorem Mk.trans {a b c:List GNode} {L M:List Int} (h:Mk a b L) (k:Mk b c M):Mk a c (L++M):=by
 obtain ⟨⟨u,rfl⟩,h2,h3⟩:=h
 obtain ⟨⟨v,rfl⟩,k2,k3⟩:=k
 refine ⟨⟨u++v,by simp⟩,h2.mono.append k2,fun i h4 h5=>?_⟩
 by_cases hi:i < (a++u).length
 ·obtain ⟨g1,g2,lo,g3⟩:=h3 i h4 hi
  rw [jbe hi]
  exact ⟨g1.mono fun x hx=>by have:=g2 x hx;omega,g2,lo,g3.mono⟩
 ·exact k3 i (by omega) h5
theorem Mk.put {a b:List GNode} {L:List Int} (h:Mk a b L) (n:GNode) (hn:n.l=L) (hs:Shape b n):Mk a (b++[n]) [(b.length:Int)]:=by
 obtain ⟨⟨u,rfl⟩,h2,h3⟩:=h
 have hm:∀ x∈n.l,0≤x∧x.toNat < (a++u).length:=fun x hx=>by rw [hn] at hx;exact ⟨(h2.mem x hx).1,(h2.mem x hx).2.2.1⟩
 refine ⟨⟨u++[n],by simp⟩,?_,fun i h4 h5=>?_⟩
 ·have e:((a++u)++[n]).length=(a++u).length+1:=by simp only [List.length_append,List.length_cons,List.length_nil]
  rw [e]
  refine Chain.one (by simp) ?_
  rw [jdc,hn]
  exact h2.mono
 ·by_cases hi:i < (a++u).length
  ·obtain ⟨g1,g2,lo,g3⟩:=h3 i h4 hi
   rw [jbe hi]
   exact ⟨g1.mono fun x hx=>by have:=g2 x hx;omega,g2,lo,g3.mono⟩
  ·have:i=(a++u).length:=by simp at h5 hi ⊢;omega
   subst this
   rw [jdc]
   exact ⟨hs.mono fun x hx=>(hm x hx).2,hm,a.length,by rw [hn];exact h2.mono⟩
theorem Mk.kind {a b c:List GNode} {L M:List Int} (h:Mk a b L) (k:Mk b c M) {x:Int} (hx:x∈L):jaj c x=jaj b x:=by
 obtain ⟨⟨v,rfl⟩,_,_⟩:=k
 exact jaZ (h.chain.mem x hx).2.2.2
theorem jpE (t:List GNode) (n:GNode):jaj (t++[n]) (t.length:Int)=n.kind:=by unfold jaj;rw [Int.toNat_natCast,jdc]
def jdL (l:List GToken):Prop:=∀ k,k < l.length→(nth l k).kind=2→(nth l k).text.size≤12
def Made (r r':Rd) (L:List Int) (C:Int→Prop):Prop:=r'.e=0→Mk r.nodes r'.nodes L∧∀ a∈L,C (jaj r'.nodes a)
structure Still (r r':Rd):Prop where
 nodes:r'.nodes=r.nodes
 err:r'.e=0→r.e=0
 l:r'.l=r.l
theorem Still.refl (r:Rd):Still r r:=⟨rfl,id,rfl⟩
theorem Still.trans {a b c:Rd} (h:Still a b) (k:Still b c):Still a c:=⟨k.nodes.trans h.nodes,fun e=>h.err (k.err e),k.l.trans h.l⟩
theorem jep (r:Rd) {e:Int} (he:e≠0):Still r (r.fails e):=⟨Rd.fails_nodes _ _,fun h=>(Rd.fails_e he h).elim,Rd.fails_l _ _⟩
theorem jbC (r:Rd):Still r r.inc:=⟨rfl,id,rfl⟩
theorem jii (r:Rd):Still r r.up:=⟨rfl,id,rfl⟩
theorem jaI (r:Rd) (t:ByteArray):Still r (r.must t):=by
 unfold Rd.must
 split
 ·exact jbC r
 ·exact jep r (by decide)
theorem jdf (r:Rd):Still r r.name.1:=by
 unfold Rd.name
 split
 ·exact jbC r
 ·exact jep r (by decide)
theorem jfd (r:Rd):Still r r.down:=by
 unfold Rd.down
 split
 ·have:=jep r (e:=21) (by decide)
  exact ⟨this.nodes,this.err,this.l⟩
 ·exact ⟨rfl,id,rfl⟩
theorem Made.pre {r a b:Rd} {L:List Int} {C:Int→Prop} (s:Still r a) (h:Made a b L C):Made r b L C:=fun e=>by have:=h e;rwa [s.nodes] at this
theorem Made.post {r a b:Rd} {L:List Int} {C:Int→Prop} (h:Made r a L C) (s:Still a b):Made r b L C:=fun e=>by have:=h (s.err e);rwa [s.nodes]
theorem Made.nil (r:Rd) (C:Int→Prop):Made r r [] C:=fun _=>⟨Mk.refl _,fun a ha=>by simp at ha⟩
theorem Made.weak {r a:Rd} {L:List Int} {C D:Int→Prop} (h:Made r a L C) (hc:∀ k,C k→D k):Made r a L D:=fun e=>⟨(h e).1,fun a ha=>hc _ ((h e).2 a ha)⟩
theorem Made.seq {a b c:Rd} {L M:List Int} {C D:Int→Prop} (h:Made a b L C) (k:Made b c M D) (he:c.e=0→b.e=0):c.e=0→Mk a.nodes c.nodes (L++M)∧(∀ x∈L,C (jaj c.nodes x))∧∀ x∈M,D (jaj c.nodes x):=fun e=>by
 obtain ⟨h1,h2⟩:=h (he e)
 obtain ⟨k1,k2⟩:=k e
 exact ⟨h1.trans k1,fun x hx=>by rw [h1.kind k1 hx];exact h2 x hx,k2⟩
theorem Made.both {a b c:Rd} {L M:List Int} {C:Int→Prop} (h:Made a b L C) (k:Made b c M C) (he:c.e=0→b.e=0):Made a c (L++M) C:=fun e=>by
 obtain ⟨h1,h2,h3⟩:=h.seq k he e
 exact ⟨h1,fun x hx=>(List.mem_append.1 hx).elim (h2 x) (h3 x)⟩
theorem jbb {r a:Rd} {L:List Int} {C:Int→Prop} (k ln n:Int) (nm:ByteArray) (h:a.e=0→Mk r.nodes a.nodes L∧Shape a.nodes ⟨k,ln,n,nm,L⟩∧C k):Made r (a.put k ln n nm L).1 [(a.put k ln n nm L).2] C:=fun e=>by
 obtain ⟨h1,h2,h3⟩:=h e
 refine ⟨h1.put _ rfl h2,fun x hx=>?_⟩
 rw [List.mem_singleton.1 hx]
 show C (jaj (a.nodes++[_]) (a.nodes.length:Int))
 rw [jpE]
 exact h3
theorem jjf {t:List GNode} {k ln n:Int} {nm:ByteArray} (hk:k=1∨k=2∨k=3∨k=4∨k=17∨k=19) (h1:k=1→∃ s,jfT s∧n=ji5 s) (h2:k=2→n=0∨n=1) (h3:k=3→nm.size≤12):Shape t ⟨k,ln,n,nm,[]⟩:=by
 constructor<;>(try simp only)<;>intros<;>first | (clear h1 h2 h3;omega) | (clear h1 h2 h3;exfalso;omega) | trivial | rfl | (exact .inl rfl) | (exact .inl trivial) | (refine h1 ?_;assumption) | (refine h2 ?_;assumption) | (refine h3 ?_;assumption) | fail
theorem jkm {t:List GNode} {k ln n a:Int} {nm:ByteArray} (hk:k=5∨k=6∨k=7∨k=8∨k=14∨k=17∨k=20) (h:isE (jaj t a)):Shape t ⟨k,ln,n,nm,[a]⟩:=by
 constructor<;>(try simp only)<;>intros<;>first | omega | (exfalso;omega) | trivial | (exact ⟨a,rfl,h⟩) | (exact .inr ⟨a,rfl,h⟩)
theorem juw {t:List GNode} {k ln n a:Int} {nm:ByteArray} (hk:k=10∨k=11) (h:isR (jaj t a)):Shape t ⟨k,ln,n,nm,[a]⟩:=by
 constructor<;>(try simp only)<;>intros<;>first | omega | (exfalso;omega) | trivial | (exact ⟨a,rfl,h⟩)
theorem jzl {t:List GNode} {ln n a:Int} {nm:ByteArray} (h:jaj t a=21):Shape t ⟨13,ln,n,nm,[a]⟩:=by
 constructor<;>(try simp only)<;>intros<;>first | omega | (exfalso;omega) | trivial | (exact ⟨a,rfl,h⟩)
theorem juv {t:List GNode} {k ln n a b:Int} {nm:ByteArray} (hk:k=12∨k=9∧nm∈je9) (h:isE (jaj t a)) (h':isE (jaj t b)):Shape t ⟨k,ln,n,nm,[a,b]⟩:=by
 constructor<;>(try simp only)<;>intros<;>first | omega | (exfalso;omega) | trivial | (exact ⟨a,b,rfl,h,h'⟩) | (rcases hk with hk | hk;omega;exact hk.2) | fail
theorem jzn {t:List GNode} {ln n a b:Int} {nm:ByteArray} (h:isE (jaj t a)) (h':jaj t b=18):Shape t ⟨16,ln,n,nm,[a,b]⟩:=by
 constructor<;>(try simp only)<;>intros<;>first | omega | (exfalso;omega) | trivial | (exact ⟨a,b,rfl,h,h'⟩)
theorem jzm {t:List GNode} {ln n a b:Int} {nm:ByteArray} (h:isE (jaj t a)) (h':jaj t b=18):Shape t ⟨15,ln,n,nm,[a,b]⟩:=by
 constructor<;>(try simp only)<;>intros<;>first | omega | (exfalso;omega) | trivial | (exact ⟨a,b,h,h',.inl rfl⟩)
theorem jwd {t:List GNode} {ln n a b d:Int} {nm:ByteArray} (h:isE (jaj t a)) (h':jaj t b=18) (h'':jaj t d=18):Shape t ⟨15,ln,n,nm,[a,b,d]⟩:=by
 constructor<;>(try simp only)<;>intros<;>first | omega | (exfalso;omega) | trivial | (exact ⟨a,b,h,h',.inr ⟨d,rfl,h''⟩⟩)
theorem jzj {t:List GNode} {ln n:Int} {nm:ByteArray} {L:List Int} (h:∀ a∈L,isS (jaj t a)):Shape t ⟨18,ln,n,nm,L⟩:=by
 constructor<;>(try simp only)<;>intros<;>first | omega | (exfalso;omega) | trivial | (refine h _ ?_;assumption) | fail
theorem jzk {t:List GNode} {ln n:Int} {nm:ByteArray} {L:List Int} (h:∀ a∈L,isE (jaj t a)):Shape t ⟨21,ln,n,nm,L⟩:=by
 constructor<;>(try simp only)<;>intros<;>first | omega | (exfalso;omega) | trivial | (refine h _ ?_;assumption) | fail
theorem jra {r:Rd} {lv:Int} (h:r.next lv≠⟨#[]⟩):r.next lv∈je9:=by
 unfold Rd.next at h ⊢
 cases e:(jdn lv).find? (fun s=>r.is s) with
 | none=>rw [e] at h;exact (h rfl).elim
 | some s=>
  have:=List.mem_of_find?_eq_some e
  unfold jdn at this
  simp only
  unfold je9
  split at this
  ·simp at this ⊢;simp [this]
  split at this
  ·simp at this ⊢;simp [this]
  split at this
  ·simp at this ⊢;rcases this with h | h | h | h<;>simp [h]
  split at this
  ·simp at this ⊢;rcases this with h | h<;>simp [h]
  ·simp at this ⊢;rcases this with h | h | h<;>simp [h]
theorem jeN {r r':Rd} (s:Rd.St r r'):r'.e=0→r.e=0:=fun h=>Classical.byContradiction fun e=>s.err e h
theorem jlO {r:Rd} {e:Int} {L:List Int} {C:Int→Prop} (he:e≠0):Made r (r.fails e) L C:=fun h=>(Rd.fails_e he h).elim
theorem jqA:∀ n,(∀ r:Rd,r.Inv→jdL r.l→8 * r.rem+1≤n→Made r (jjE n r).1 [(jjE n r).2] isE)∧(∀ r:Rd,r.Inv→jdL r.l→8 * r.rem+2≤n→Made r (jba n r).1 [(jba n r).2] isE)∧
  (∀ lv (r:Rd),r.Inv→jdL r.l→lv≤5→8 * r.rem+8≤n+lv→Made r (jaG n lv r).1 [(jaG n lv r).2] isE)∧
  (∀ lv ln (r:Rd) (p:Rd×Int),p.1.Inv→jdL p.1.l→lv≤4→8 * p.1.rem+7≤n+lv→Made r p.1 [p.2] isE→Made r (jgU n lv ln p).1 [(jgU n lv ln p).2] isE)
 | 0=>⟨fun r h ht hn=>by omega,fun r h ht hn=>by omega,fun lv r h ht h5 hn=>by omega,fun lv ln r p h ht h5 hn hp=>by omega⟩
 | n+1=>by
  obtain ⟨ia,if_,ic,il⟩:=jqA n
  have ist:=jez n
  have deeper:∀ (r:Rd) (t u:ByteArray),r.Inv→jdL r.l→r.e=0→8 * r.rem+1≤n+1→(r.is t=true∨8 * r.rem+8≤n)→Made r ((jaG n 0 (r.down.must t)).1.must u).up [(jaG n 0 (r.down.must t)).2] isE:=fun r t u h ht he hn hx=>by
   have h1:=(Rd.down_inv h he).1
   have s1:=Rd.st_must h1 t
   have hr:8 * (r.down.must t).rem+8≤n+0:=by
    rcases hx with hx | hx
    ·have:=(Rd.down_must h hx).1;omega
    ·have:=s1.rem
     have hdr:r.down.rem≤r.rem:=by
      unfold Rd.rem
      obtain ⟨_,_,h3,h4,_⟩:=Rd.down_inv h he
      rw [h3,h4,if_pos he];split<;>omega
     omega
   have st:=(jfd r).trans (jaI r.down t)
   have:=ic 0 (r.down.must t) (s1.inv h1) (by rw [st.l];exact ht) (by omega) hr
   exact ((this.pre st).post (jaI _ _)).post (jii _)
  refine ⟨fun r h ht hn=>?_,fun r h ht hn=>?_,fun lv r h ht h5 hn=>?_,fun lv ln r p h ht h5 hn hp=>?_⟩
  ·unfold jjE
   split
   ·rename_i he;exact fun h=>(he h).elim
   rename_i he
   have he:r.e=0:=by omega
   have htk:r.i.toNat < r.l.length:=by have:=h.lt;have:=h.pos;omega
   split
   ·rename_i hk
    exact jbb _ _ _ _ fun _=>⟨Mk.refl _,jjf (by omega) (fun _=>⟨_,h.num _ htk hk,rfl⟩) (by intro;omega) (by intro;omega),by unfold isE;omega⟩
   split
   ·rename_i hk
    exact jbb _ _ _ _ fun _=>⟨Mk.refl _,jjf (by omega) (by intro;omega) (by intro;omega) (fun _=>ht _ htk hk),by unfold isE;omega⟩
   split
   ·rename_i hk
    have hki:r.e=0∧r.tok.kind≠0:=⟨he,by omega⟩
    split
    ·have hi:=(Rd.st_inc h hki.2).1.inv h
     have hr:=Rd.rem_inc h hki
     have hm:=deeper r.inc (⟨#[91]⟩:ByteArray) (⟨#[93]⟩:ByteArray) hi ht he (by omega) (.inl (by assumption))
     exact jbb _ _ _ _ fun e=>⟨(hm e).1,jkm (by omega) ((hm e).2 _ (by simp)),by unfold isE;omega⟩
    ·exact jbb _ _ _ _ fun _=>⟨Mk.refl _,jjf (by omega) (by intro;omega) (by intro;omega) (by intro;omega),by unfold isE;omega⟩
   split
   ·exact jbb _ _ _ _ fun _=>⟨Mk.refl _,jjf (by omega) (by intro;omega) (fun _=>.inr rfl) (by intro;omega),by unfold isE;omega⟩
   split
   ·exact jbb _ _ _ _ fun _=>⟨Mk.refl _,jjf (by omega) (by intro;omega) (fun _=>.inl rfl) (by intro;omega),by unfold isE;omega⟩
   split
   ·rename_i hs
    have hki:=Rd.is_kind hs
    split
    ·have hi:=(Rd.st_inc h hki.2).1.inv h
     have hr:=Rd.rem_inc h hki
     have hm:=deeper r.inc (⟨#[40]⟩:ByteArray) (⟨#[41]⟩:ByteArray) hi ht he (by omega) (.inl (by assumption))
     exact jbb _ _ _ _ fun e=>⟨(hm e).1,jkm (by omega) ((hm e).2 _ (by simp)),by unfold isE;omega⟩
    ·exact fun e=>(Rd.fails_e (by decide) e).elim
   split
   ·exact deeper r (⟨#[40]⟩:ByteArray) (⟨#[41]⟩:ByteArray) h ht he hn (.inl (by assumption))
   ·exact jlO (by decide)
  ·unfold jba
   have sg:∀ t,r.is t=true→∀ k ln nm,(k=7∨k=8)→Made r (((jba n r.down.inc).1.up).put k ln 0 nm [(jba n r.down.inc).2]).1 [(((jba n r.down.inc).1.up).put k ln 0 nm [(jba n r.down.inc).2]).2] isE:=fun t ht' k ln nm hk=>by
    obtain ⟨he,hkk⟩:=Rd.is_kind ht'
    obtain ⟨h1,h2,h3,h4,h5,h6⟩:=Rd.down_inv h he
    have htk:r.down.tok=r.tok:=by unfold Rd.tok;rw [h3,h4]
    have s1:=(Rd.st_inc h1 (by rw [htk];exact hkk)).1
    have st:=(jfd r).trans (jbC r.down)
    have hr:8 * r.down.inc.rem+2≤n:=by
     have hb:=Rd.behind h hkk
     unfold Rd.rem at hn ⊢
     rw [if_pos he] at hn
     have e1:r.down.inc.i=r.i+1:=by show r.down.i+1=_;rw [h3]
     have e2:r.down.inc.l=r.l:=h4
     rw [e1,e2]
     have:=h.pos
     split<;>omega
    have hm:=((if_ r.down.inc (s1.inv h1) (by rw [st.l];exact ht) hr).pre st).post (jii _)
    exact jbb _ _ _ _ fun e=>⟨(hm e).1,jkm (by omega) ((hm e).2 _ (by simp)),by unfold isE;omega⟩
   split
   ·rename_i ht';exact sg _ ht' _ _ _ (.inl rfl)
   split
   ·rename_i ht';exact sg _ ht' _ _ _ (.inr rfl)
   ·exact ia r h ht (by omega)
  ·unfold jaG
   split
   ·exact if_ r h ht (by omega)
   ·have s1:=ist.2.2.1 (lv+1) r h
    exact il lv _ r _ (s1.inv h) (by rw [s1.l];exact ht) (by omega) (by have:=s1.rem;omega) (ic (lv+1) r h ht (by omega) (by omega))
  ·unfold jgU
   split
   ·exact hp
   rename_i hnx
   have hki:=Rd.is_kind (Rd.next_is hnx)
   have s1:=(Rd.st_inc h hki.2).1
   have hr:=Rd.rem_inc h hki
   have s2:=ist.2.2.1 (lv+1) _ (s1.inv h)
   have hm:=ic (lv+1) p.1.inc (s1.inv h) (by rw [s1.l];exact ht) (by omega) (by omega)
   have h12:=(hp.post (jbC _)).seq hm (jeN s2)
   have hput:Made r ((jaG n (lv+1) p.1.inc).1.put 9 ln 0 (p.1.next lv) [p.2,(jaG n (lv+1) p.1.inc).2]).1 [((jaG n (lv+1) p.1.inc).1.put 9 ln 0 (p.1.next lv) [p.2,(jaG n (lv+1) p.1.inc).2]).2] isE:=
    jbb _ _ _ _ fun e=>⟨(h12 e).1,juv (.inr ⟨rfl,jra hnx⟩) ((h12 e).2.1 _ (by simp)) ((h12 e).2.2 _ (by simp)),by unfold isE;omega⟩
   split
   ·exact hput
   ·have s3:=Rd.st_put (s1.trans s2) (by have:=s2.pot;have:=(Rd.st_inc h hki.2).2;omega) 9 ln 0 (p.1.next lv) [p.2,(jaG n (lv+1) p.1.inc).2]
    exact il lv ln r _ (s3.inv h) (by rw [s3.l];exact ht) h5 (by
     have e:((jaG n (lv+1) p.1.inc).1.put 9 ln 0 (p.1.next lv) [p.2,(jaG n (lv+1) p.1.inc).2]).1.rem=(jaG n (lv+1) p.1.inc).1.rem:=rfl
     show 8 * ((jaG n (lv+1) p.1.inc).1.put 9 ln 0 (p.1.next lv) [p.2,(jaG n (lv+1) p.1.inc).2]).1.rem+7≤_
     rw [e]
     have:=s2.rem
     omega) hput
theorem jc8 {r:Rd} (h:r.Inv) (ht:jdL r.l):Made r (jaU r).1 [(jaU r).2] isE:=(jqA _).2.2.1 0 r h ht (by omega) (by omega)
theorem St.txt {r r':Rd} (s:Rd.St r r') (h:jdL r.l):jdL r'.l:=by rw [s.l];exact h
theorem jnT:∀ (n:Nat) (b:Bool) (r0 r:Rd) (L:List Int),r.Inv→jdL r.l→Made r0 r L isE→Made r0 (jfy n b r L).1 (jfy n b r L).2 isE
 | 0,_,r0,r,L,h,ht,hm=>by unfold jfy;exact hm
 | n+1,false,r0,r,L,h,ht,hm=>by unfold jfy;exact hm
 | n+1,true,r0,r,L,h,ht,hm=>by
  have s1:=ja9 h
  have h1:=s1.inv h
  have m1:=hm.both (jc8 h ht) (jeN s1)
  unfold jfy
  split
  ·rename_i hs
   have s2:=(Rd.st_inc h1 (Rd.is_kind hs).2).1
   exact jnT n _ r0 _ _ (s2.inv h1) (St.txt s2 (St.txt s1 ht)) (m1.post (jbC _))
  ·exact m1
theorem jnY {r:Rd} (h:r.Inv) (ht:jdL r.l):Made r (jfj r).1 [(jfj r).2] (fun k=>k=21):=by
 have hs:=jh1 h
 have st:=(jdf r).trans (jaI r.name.1 (⟨#[40]⟩:ByteArray))
 have hm:Made r (jfX r).1 (jfX r).2 isE:=jnT _ _ r _ _ (hs.inv h) (St.txt hs ht) ((Made.nil _ _).pre st)
 have hm:=hm.post (jaI (jfX r).1 (⟨#[41]⟩:ByteArray))
 exact jbb _ _ _ _ fun e=>⟨(hm e).1,jzk (hm e).2,rfl⟩
theorem jmr {r:Rd} (h:r.Inv) (ht:jdL r.l):Made r (jcE r).1 [(jcE r).2] isR:=by
 unfold jcE
 split
 ·exact jbb _ _ _ _ fun _=>⟨Mk.refl _,jjf (by omega) (by intro;omega) (by intro;omega) (by intro;omega),by unfold isR;omega⟩
 split
 ·rename_i hs
  have s1:=(Rd.st_inc h (Rd.is_kind hs).2).1
  have s2:=s1.trans (Rd.st_must (s1.inv h) (⟨#[40]⟩:ByteArray))
  have hm:=((jc8 (s2.inv h) (St.txt s2 ht)).pre ((jbC r).trans (jaI _ _))).post (jaI _ (⟨#[41]⟩:ByteArray))
  exact jbb _ _ _ _ fun e=>⟨(hm e).1,jkm (by omega) ((hm e).2 _ (by simp)),by unfold isR;omega⟩
 split
 ·exact (jnY h ht).weak fun k hk=>by unfold isR;omega
 ·exact (jc8 h ht).weak fun k hk=>.inl hk
theorem jzd {r:Rd} (h:r.Inv) (ht:jdL r.l) (he:r.e=0):Made r (ptA r).1 [(ptA r).2] isE:=by
 have h1:=(Rd.down_inv h he).1
 have s1:=Rd.st_must h1 (⟨#[91]⟩:ByteArray)
 have st:=(jfd r).trans (jaI r.down (⟨#[91]⟩:ByteArray))
 exact (jc8 (s1.inv h1) (by rw [st.l];exact ht)).pre st
theorem jq7 {r:Rd} (h:r.Inv) (ht:jdL r.l) (he:r.e=0) (ln:Int):Made r (jeI r ln).1 [(jeI r ln).2] isS:=by
 unfold jeI
 split
 ·have hm:=(jnY h ht).post (jaI _ (⟨#[59]⟩:ByteArray))
  exact jbb _ _ _ _ fun e=>⟨(hm e).1,jzl ((hm e).2 _ (by simp)),by unfold isS;omega⟩
 have s0:=Rd.st_name h
 have h0:=s0.inv h
 split
 ·rename_i hs
  have he0:=(Rd.is_kind hs).1
  have m1:=jzd h0 (St.txt s0 ht) he0
  obtain ⟨t1,t2⟩:=joS h0 hs
  have sB:Rd.St r.name.1 ((ptA r.name.1).1.must (⟨#[93]⟩:ByteArray)).up:=(jri h0 hs).2
  have stl:Still (ptA r.name.1).1 (((ptA r.name.1).1.must (⟨#[93]⟩:ByteArray)).up.must (⟨#[61]⟩:ByteArray)):=((jaI _ _).trans (jii _)).trans (jaI _ _)
  have m2:Made (((ptA r.name.1).1.must (⟨#[93]⟩:ByteArray)).up.must (⟨#[61]⟩:ByteArray)) (ptB r.name.1).1 [(ptB r.name.1).2] isE:=jc8 (t1.inv h0) (St.txt t1 (St.txt s0 ht))
  have hm:=((m1.post stl).both m2 (jeN (ja9 (t1.inv h0)))).post (jaI _ (⟨#[59]⟩:ByteArray))
  have hm:=hm.pre (jdf r)
  exact jbb _ _ _ _ fun e=>⟨(hm e).1,juv (.inl rfl) ((hm e).2 _ (by simp)) ((hm e).2 _ (by simp)),by unfold isS;omega⟩
 ·have s1:=s0.trans (Rd.st_must h0 (⟨#[61]⟩:ByteArray))
  have hm:=((jmr (s1.inv h) (St.txt s1 ht)).pre ((jdf r).trans (jaI _ _))).post (jaI _ (⟨#[59]⟩:ByteArray))
  exact jbb _ _ _ _ fun e=>⟨(hm e).1,juw (.inr rfl) ((hm e).2 _ (by simp)),by unfold isS;omega⟩
theorem jrR:∀ n,(∀ r:Rd,r.Inv→jdL r.l→4 * r.rem+1≤n→Made r (jbg n r).1 [(jbg n r).2] (fun k=>k=18))∧
  (∀ (r0 r:Rd) L,r.Inv→jdL r.l→4 * r.rem+3≤n→Made r0 r L isS→Made r0 (jc4 n r L).1 (jc4 n r L).2 isS)∧
  (∀ r:Rd,r.Inv→jdL r.l→r.e=0→4 * r.rem+2≤n→Made r (jgt n r).1 [(jgt n r).2] isS)
 | 0=>⟨fun r h ht hn=>by omega,fun r0 r L h ht hn hm=>by omega,fun r h ht he hn=>by omega⟩
 | n+1=>by
  obtain ⟨ib,il,is_⟩:=jrR n
  have ist:=jeP n
  refine ⟨fun r h ht hn=>?_,fun r0 r L h ht hn hm=>?_,fun r h ht he hn=>?_⟩
  ·unfold jbg
   split
   ·rename_i hx
    have he:=(Rd.is_kind hx).1
    have hd:=(Rd.down_inv h he).1
    have s1:=Rd.st_must hd (⟨#[123]⟩:ByteArray)
    have st:=(jfd r).trans (jaI r.down (⟨#[123]⟩:ByteArray))
    have hr:=(Rd.down_must h hx).1
    have hm:=il r (r.down.must (⟨#[123]⟩:ByteArray)) [] (s1.inv hd) (by rw [st.l];exact ht) (by omega) ((Made.nil _ _).pre st)
    have hm:=(hm.post (jaI _ (⟨#[125]⟩:ByteArray))).post (jii _)
    exact jbb _ _ _ _ fun e=>⟨(hm e).1,jzj (hm e).2,rfl⟩
   ·exact jlO (by decide)
  ·unfold jc4
   split
   ·rename_i hc
    have hn0:0 < n:=by omega
    obtain ⟨s1,s2⟩:=ist.2.2 r h hc.1 hn0
    have hm2:=hm.both (is_ r h ht hc.1 (by omega)) (jeN s1)
    exact il r0 _ _ (s1.inv h) (St.txt s1 ht) (by omega) hm2
   ·exact hm
  ·unfold jgt
   have word:∀ w:ByteArray,w≠⟨#[]⟩→r.word=w→r.inc.Inv∧r.inc.rem+1≤r.rem∧Rd.St r r.inc:=fun w h0 hw=>by
    have hk:=Rd.kind_kind (Rd.word_kind hw h0) (by decide)
    exact ⟨(Rd.st_inc h hk.2).1.inv h,Rd.rem_inc h hk,(Rd.st_inc h hk.2).1⟩
   split
   ·rename_i hw
    obtain ⟨h1,h2,s1⟩:=word _ (by decide) hw
    have s2:=Rd.st_name h1
    have s3:=s2.trans (Rd.st_must (s2.inv h1) (⟨#[61]⟩:ByteArray))
    have hm:=((jmr (s3.inv h1) (St.txt s3 ht)).pre ((jbC r).trans ((jdf r.inc).trans (jaI _ _)))).post (jaI _ (⟨#[59]⟩:ByteArray))
    exact jbb _ _ _ _ fun e=>⟨(hm e).1,juw (.inl rfl) ((hm e).2 _ (by simp)),by unfold isS;omega⟩
   split
   ·rename_i hw
    obtain ⟨h1,h2,s1⟩:=word _ (by decide) hw
    have hm:=((jc8 h1 (St.txt s1 ht)).pre (jbC r)).post (jaI _ (⟨#[59]⟩:ByteArray))
    exact jbb _ _ _ _ fun e=>⟨(hm e).1,jkm (by omega) ((hm e).2 _ (by simp)),by unfold isS;omega⟩
   split
   ·rename_i hw
    obtain ⟨h1,h2,s1⟩:=word _ (by decide) hw
    have s2:=ja9 h1
    have s3:=ist.1 _ (s2.inv h1)
    have hm:=((jc8 h1 (St.txt s1 ht)).pre (jbC r)).seq (ib (jaU r.inc).1 (s2.inv h1) (St.txt s2 (St.txt s1 ht)) (by have:=s2.rem;omega)) (jeN s3)
    exact jbb _ _ _ _ fun e=>⟨(hm e).1,jzn ((hm e).2.1 _ (by simp)) ((hm e).2.2 _ (by simp)),by unfold isS;omega⟩
   split
   ·rename_i hw
    obtain ⟨h1,h2,s1⟩:=word _ (by decide) hw
    have s2:=ja9 h1
    have h3:=s2.inv h1
    have s3:=ist.1 _ h3
    have h4:=s3.inv h3
    have hm:=((jc8 h1 (St.txt s1 ht)).pre (jbC r)).seq (ib (jaU r.inc).1 h3 (St.txt s2 (St.txt s1 ht)) (by have:=s2.rem;omega)) (jeN s3)
    split
    ·rename_i hx
     have hk:=Rd.is_kind hx
     have s5:=(Rd.st_inc h4 hk.2).1
     have hr5:=Rd.rem_inc h4 hk
     have h5:=s5.inv h4
     have s6:=ist.1 _ h5
     have m3:=(ib (jbg n (jaU r.inc).1).1.inc h5 (St.txt s5 (St.txt s3 (St.txt s2 (St.txt s1 ht)))) (by have:=s2.rem;have:=s3.rem;omega)).pre (jbC _)
     have he5:=fun e=>jeN s5 (jeN s6 e)
     exact jbb _ _ _ _ fun e=>by
      obtain ⟨a1,a2,a3⟩:=hm (he5 e)
      obtain ⟨b1,b2⟩:=m3 e
      exact ⟨a1.trans b1,jwd (by rw [a1.kind b1 (by simp)];exact a2 _ (by simp)) (by rw [a1.kind b1 (by simp)];exact a3 _ (by simp)) (b2 _ (by simp)),by unfold isS;omega⟩
    ·exact jbb _ _ _ _ fun e=>⟨(hm e).1,jzm ((hm e).2.1 _ (by simp)) ((hm e).2.2 _ (by simp)),by unfold isS;omega⟩
   split
   ·rename_i hw
    obtain ⟨h1,h2,s1⟩:=word _ (by decide) hw
    split
    ·have hm:=((Made.nil r.inc isE).pre (jbC r)).post (jaI _ (⟨#[59]⟩:ByteArray))
     exact jbb _ _ _ _ fun e=>⟨(hm e).1,jjf (by omega) (by intro;omega) (by intro;omega) (by intro;omega),by unfold isS;omega⟩
    ·have hm:=((jc8 h1 (St.txt s1 ht)).pre (jbC r)).post (jaI _ (⟨#[59]⟩:ByteArray))
     exact jbb _ _ _ _ fun e=>⟨(hm e).1,jkm (by omega) ((hm e).2 _ (by simp)),by unfold isS;omega⟩
   ·exact jq7 h ht he _
theorem jsA {r:Rd} (h:r.Inv) (ht:jdL r.l):Made r (jgD r).1 [(jgD r).2] (fun k=>k=18):=(jrR _).1 r h ht (by omega)
-- functions
structure FnOk (f:GFunc):Prop where
 ps:∀ p∈f.params,1≤p.ty∧p.ty≤4
 ret:0≤f.ret∧f.ret≤4
theorem jrY (w:ByteArray):0≤jhG w∧jhG w≤4:=by
 unfold jhG
 repeat' split
 all_goals omega
theorem jjq (r:Rd):Still r (jbT r).1:=by
 unfold jbT
 split
 ·exact jep r (by decide)
 ·exact jbC r
theorem jpb {r:Rd} (he:(jbT r).1.e=0):1≤(jbT r).2∧(jbT r).2≤4:=by
 unfold jbT at he ⊢
 split
 ·rename_i h
  rw [if_pos h] at he
  exact (Rd.fails_e (by decide) he).elim
 ·have:=jrY r.word
  simp only
  omega
theorem jmg:∀ (n:Nat) (b:Bool) (r:Rd) (L:List GParam),Still r (jca n b r L).1∧((jca n b r L).1.e=0→(∀ p∈L,1≤p.ty∧p.ty≤4)→∀ p∈(jca n b r L).2,1≤p.ty∧p.ty≤4)
 | 0,_,r,L=>by unfold jca;exact ⟨.refl r,fun _ h=>h⟩
 | n+1,false,r,L=>by unfold jca;exact ⟨.refl r,fun _ h=>h⟩
 | n+1,true,r,L=>by
  have st:Still r (jeL r):=(jdf r).trans (jjq _)
  have hL:(jeL r).e=0→(∀ p∈L,1≤p.ty∧p.ty≤4)→∀ p∈L++[⟨r.name.2,(jbT r.name.1).2⟩],1≤p.ty∧p.ty≤4:=fun e h p hp=>by
   rcases List.mem_append.1 hp with hp | hp
   ·exact h p hp
   ·rw [List.mem_singleton.1 hp];exact jpb e
  unfold jca
  split
  ·obtain ⟨a,b⟩:=jmg n true (jeL r).inc (L++[⟨r.name.2,(jbT r.name.1).2⟩])
   exact ⟨st.trans ((jbC _).trans a),fun e h=>b e (hL (a.err e) h)⟩
  ·exact ⟨st,hL⟩
theorem jyG {r:Rd} (h:r.Inv) (ht:jdL r.l):Made r (fnF r).1 [(fnF r).2.body] (fun k=>k=18)∧((fnF r).1.e=0→FnOk (fnF r).2):=by
 have h1:=(jfr h).1.inv h
 have h2:=(joc h).inv h1
 obtain ⟨a,b⟩:=jmg ((fnA r).rem+2) (more (fnA r)) (fnA r) []
 have stA:Still r (fnA r):=((jaI r (⟨#[102,110]⟩:ByteArray)).trans (jdf _)).trans (jaI _ _)
 have stC:Still r (fnC r):=(stA.trans a).trans (jaI _ _)
 have stD:Still (fnC r) (fnD r).1:=by
  unfold fnD
  split
  ·exact .refl _
  ·exact jjq _
 have hb:=jsA h2 (by rw [(stC.trans stD).l];exact ht)
 refine ⟨hb.pre (stC.trans stD),fun e=>?_⟩
 have e2:(fnD r).1.e=0:=jeN (jkB h2) e
 have e1:(fnC r).e=0:=stD.err e2
 have e0:(fnB r).1.e=0:=(jaI _ _).err e1
 refine ⟨b e0 (fun p hp=>by simp at hp),?_⟩
 show 0≤(fnD r).2∧(fnD r).2≤4
 unfold fnD at e2 ⊢
 split
 ·simp
 ·rename_i hc
  rw [if_neg hc] at e2
  have:=jpb e2
  omega
theorem jqE:∀ (n:Nat) (r0 r:Rd) (L:List GFunc),r.Inv→jdL r.l→Made r0 r (L.map (·.body)) (fun k=>k=18)→(r.e=0→∀ f∈L,FnOk f)→
  Made r0 (jsd n r L).1 ((jsd n r L).2.map (·.body)) (fun k=>k=18)∧((jsd n r L).1.e=0→∀ f∈(jsd n r L).2,FnOk f)
 | 0,r0,r,L,h,ht,hm,hf=>by unfold jsd;exact ⟨hm,hf⟩
 | n+1,r0,r,L,h,ht,hm,hf=>by
  unfold jsd
  split
  ·have s1:=(jua h).1
   obtain ⟨a,b⟩:=jyG h ht
   refine jqE n r0 _ _ (s1.inv h) (St.txt s1 ht) ?_ fun e f hf'=>?_
   ·rw [List.map_append]
    exact hm.both a (jeN s1)
   ·rcases List.mem_append.1 hf' with h' | h'
    ·exact hf (jeN s1 e) f h'
    ·rw [List.mem_singleton.1 h'];exact b e
  ·exact ⟨hm,hf⟩
structure TreeOk (t:GTree):Prop where
 chain:Chain t.nodes 0 (t.fns.map (·.body)) t.nodes.length
 shape:∀ k,k < t.nodes.length→Shape t.nodes (nth t.nodes k)∧(∀ a∈(nth t.nodes k).l,0≤a∧a.toNat < k)∧∃ lo,Chain t.nodes lo (nth t.nodes k).l k
 body:∀ f∈t.fns,jaj t.nodes f.body=18
 fn:∀ f∈t.fns,FnOk f∧f.params.length≤3
 many:t.nodes.length≤300
 fns:t.fns.length≤6
theorem jp2 {s:ByteArray} {a:Nat} (h:(jhb s a).2.2=0):(jhb s a).1.size≤12:=by
 unfold jhb at h ⊢
 simp only at h ⊢
 split at h<;>rename_i h1
 ·rw [if_pos h1]
  split at h<;>rename_i h2
  ·cases h
  ·rw [if_neg h2]
   simp only [ByteArray.size_extract]
   omega
 ·cases h
theorem jwv {s:ByteArray} {a:Nat} (h:(jbD s a).2.2=0) (hk:(jbD s a).1.kind=2):(jbD s a).1.text.size≤12:=by
 unfold jbD at h hk ⊢
 split at h<;>rename_i h1
 ·rw [if_pos h1] at hk ⊢
  split at h<;>rename_i h2
  ·rw [if_pos h2] at hk;cases hk
  ·cases h
 rw [if_neg h1] at hk ⊢
 split at h<;>rename_i h2
 ·rw [if_pos h2] at hk ⊢
  split at h<;>rename_i h3
  ·rw [if_pos h3] at hk;cases hk
  ·rw [if_neg h3] at hk ⊢
   split at h<;>rename_i h4
   ·cases h
   ·rw [if_neg h4] at hk;cases hk
 rw [if_neg h2] at hk ⊢
 split at h<;>rename_i h3
 ·rw [if_pos h3] at hk ⊢
  exact jp2 h
 ·rw [if_neg h3] at hk
  split at h<;>rename_i h4
  ·cases h
  ·rw [if_neg h4] at hk;cases hk
theorem jow (s:ByteArray):∀ (n i:Nat) (out:List GToken),(jk5 s n i out).2.2=0→(∀ t∈out,t.kind=2→t.text.size≤12)→∀ t∈(jk5 s n i out).1,t.kind=2→t.text.size≤12
 | 0,i,out,he,ho=>by unfold jk5;exact ho
 | n+1,i,out,he,ho=>by
  unfold jk5 at he ⊢
  split at he<;>rename_i hi
  ·rw [if_pos hi]
   split at he<;>rename_i h3
   ·rw [if_pos h3]
    refine jow s n _ _ he fun t ht=>?_
    rcases List.mem_append.1 ht with ht | ht
    ·exact ho t ht
    ·rw [List.mem_singleton.1 ht];exact jwv h3
   ·exact (h3 he).elim
  ·rw [if_neg hi]
   intro t ht
   rcases List.mem_append.1 ht with ht | ht
   ·exact ho t ht
   ·rw [List.mem_singleton.1 ht];intro h;cases h
theorem jpK {s:ByteArray} (he:(jce s).2.2=0):jdL (rd0 s).l:=by
 have:∀ t∈(jce s).1,t.kind=2→t.text.size≤12:=by
  unfold jce at he ⊢
  split at he<;>rename_i h
  ·cases he
  ·rw [if_neg h]
   exact jow s _ _ _ he (fun t ht=>by simp at ht)
 intro k hk
 exact this _ (jaw hk)
theorem je4 {s:ByteArray} (h:(jaL s).2.2=0):TreeOk (jaL s).1:=by
 unfold jaL at h ⊢
 split at h<;>rename_i h1
 ·exact (h1 h).elim
 rw [if_neg h1]
 split at h<;>rename_i h2
 ·exact (h2 h).elim
 rw [if_neg h2]
 split at h<;>rename_i h3
 ·cases h
 rw [if_neg h3]
 have he:(jce s).2.2=0:=by omega
 have hf:(jdv s).1.e=0:=by omega
 obtain ⟨a,b⟩:=jqE ((rd0 s).rem+1) (rd0 s) (rd0 s) [] (jrx he) (jpK he) (Made.nil _ _) (fun _ f hf=>by simp at hf)
 obtain ⟨a1,a2⟩:=a hf
 simp only [juX,Bool.or_eq_true,decide_eq_true_eq,not_or,List.any_eq_true,not_exists,not_and] at h3
 refine ⟨a1.chain,fun k hk=>a1.shape k (Nat.zero_le _) hk,fun f hf=>a2 _ (List.mem_map.2 ⟨f,hf,rfl⟩),fun f hff=>⟨b hf f hff,by have:=h3.2 f hff;omega⟩,by show (jdv s).1.nodes.length≤300;omega,by show (jdv s).2.length≤6;omega⟩
structure Ck where
 tree:GTree
 types:List Int
 slots:List Int
 fns:List Int
 size_:List Int
 fn:Int
 vars:List GVar
 more:List GVar
 size:Int
 e:Int
 at_:Int
 deriving Inhabited
def jb4 {α:Type} (f:α→ByteArray) (name:ByteArray):List α→Int→Int
 | [],_=>-1
 | v::l,i=>if f v=name then i else jb4 f name l (i+1)
def jda {α:Type} (f:α→ByteArray) (name:ByteArray):List α→Int→Int→Int
 | [],_,k=>k
 | v::l,i,k=>jda f name l (i+1) (if f v=name then i else k)
def jgA (sign:ByteArray) (a b:Int):Int:=
 if a≠b then 0
 else if sign=(⟨#[124,124]⟩:ByteArray)∨sign=(⟨#[38,38]⟩:ByteArray) then (if a=2 then 2 else 0)
 else if sign=(⟨#[60]⟩:ByteArray)∨sign=(⟨#[60,61]⟩:ByteArray) then (if a=1 then 2 else 0)
 else if sign=(⟨#[61,61]⟩:ByteArray)∨sign=(⟨#[33,61]⟩:ByteArray) then (if a=1∨a=2∨a=3 then 2 else 0)
 else if sign=(⟨#[43]⟩:ByteArray) then (if a=1∨a=3 then a else 0)
 else (if a=1 then 1 else 0)
namespace Ck
def node (c:Ck) (a:Int):GNode:=nth c.tree.nodes a.toNat
def kid (c:Ck) (a:Int) (i:Nat):Int:=nth (c.node a).l i
def fails (c:Ck) (e a:Int):Ck:=if c.e=0 then { c with e:=e,at_:=a } else c
def must (c:Ck) (ok:Bool) (a:Int):Ck:=if ok=true then c else c.fails 42 a
def find (c:Ck) (name:ByteArray):Int:=jb4 GVar.name name c.vars 0
def slot (c:Ck) (a s:Int):Ck:={ c with slots:=c.slots.set a.toNat s }
def named (c:Ck) (a:Int):Ck×Int:=
 if c.find (c.node a).name < 0 then (c.fails 40 a,0)
 else (c.slot a (nth c.vars (c.find (c.node a).name).toNat).slot,(nth c.vars (c.find (c.node a).name).toNat).ty)
def note (c:Ck) (a t:Int):Ck:={ c with types:=c.types.set a.toNat t,fns:=c.fns.set a.toNat c.fn }
def noteF (c:Ck) (a:Int):Ck:={ c with fns:=c.fns.set a.toNat c.fn }
end Ck
def jbV (ex:Ck→Int→Ck×Int):Ck→List Int→List Int→Ck×List Int
 | c,[],ts=>(c,ts)
 | c,a::l,ts=>if c.e=0 then jbV ex (ex c a).1 l (ts++[(ex c a).2]) else (c,ts)
def jbx (a:Int):Ck→List Int→List GParam→Ck
 | c,t::ts,p::ps=>if c.e=0 then jbx a (c.must (decide (t=p.ty)) a) ts ps else c
 | c,_,_=>c
def jaF (c:Ck) (a:Int):Int:=jda GFunc.name (c.node a).name c.tree.fns 0 (-1)
def jb3 (ex:Ck→Int→Ck×Int) (c:Ck) (a:Int):Ck×Int:=
 if jaF c a < 0 then (c.fails 40 a,0)
 else
  let f:=nth c.tree.fns (jaF c a).toNat
  let p:=jbV ex c (c.node a).l []
  let c1:=if (c.node a).l.length≠f.params.length then p.1.fails 43 a else p.1
  (jbx a c1 p.2 f.params,f.ret)
def jam (ex:Ck→Int→Ck×Int) (c:Ck) (a:Int):Ck×Int:=
 let k:=(c.node a).kind
 if k=1∨k=19 then (c,1)
 else if k=2 then (c,2)
 else if k=3 then (c,3)
 else if k=4 then c.named a
 else if k=21 then jb3 ex c a
 else if k=5 then
  let p:=c.named a
  let x:=ex p.1 (c.kid a 0)
  (x.1.must (decide (p.2=4) && decide (x.2=1)) a,1)
 else if k=9 then
  let x:=ex c (c.kid a 0)
  let y:=ex x.1 (c.kid a 1)
  let t:=jgA (c.node a).name x.2 y.2
  (y.1.must (!decide (t=0)) a,t)
 else
  let x:=ex c (c.kid a 0)
  if k=6 then (x.1.must (decide (x.2=3) || decide (x.2=4)) a,1)
  else if k=7 then (x.1.must (decide (x.2=1)) a,1)
  else if k=8 then (x.1.must (decide (x.2=2)) a,2)
  else (x.1.must (decide (x.2=1)) a,4)
def jac:Nat→Ck→Int→Ck×Int
 | 0,c,_=>(c,0)
 | n+1,c,a=>if c.e≠0 then (c,0) else ((jam (jac n) c a).1.note a (jam (jac n) c a).2,(jam (jac n) c a).2)
def jpJ (ex:Ck→Int→Ck×Int) (c:Ck) (a:Int):Ck:=
 let x:=ex c (c.kid a 0)
 let c1:=x.1.must (!decide (x.2=0)) a
 let c2:=if 0≤c1.find (c.node a).name then c1.fails 41 a else c1
 let c3:=if 24≤c2.size then c2.fails 4 a else c2
 { (c3.slot a c3.size) with vars:=c3.vars++[⟨(c.node a).name,x.2,c3.size⟩],more:=c3.more.drop 1,size:=c3.size+1 }
def jbd (ex:Ck→Int→Ck×Int) (c:Ck) (a:Int):Ck:=
 let ret:=(nth c.tree.fns c.fn.toNat).ret
 let l:=(c.node a).l
 if decide (l.length=1)≠(!decide (ret=0)) then c.fails 43 a
 else if l.length=1 then
  let x:=ex c (c.kid a 0)
  x.1.must (decide (x.2=ret)) a
 else c
def jaz (st:Ck→Int→Ck):Ck→List Int→Ck
 | c,[]=>c
 | c,a::l=>if c.e=0 then jaz st (st c a) l else c
def jaJ (st:Ck→Int→Ck) (c:Ck) (a:Int):Ck:=
 let c1:=jaz st (c.noteF a) (c.node a).l
 { c1 with vars:=c1.vars.take (min c.vars.length c1.vars.length),more:=c1.vars.drop (min c.vars.length c1.vars.length)++c1.more }
def jab:Nat→Ck→Int→Ck
 | 0,c,_=>c
 | n+1,c0,a=>
  let c:=c0.noteF a
  let k:=(c.node a).kind
  if k=10 then jpJ (jac n) c a
  else if k=11 then
   let p:=c.named a
   let x:=jac n p.1 (c.kid a 0)
   x.1.must (decide (p.2=x.2)) a
  else if k=12 then
   let p:=c.named a
   let x:=jac n p.1 (c.kid a 0)
   let y:=jac n x.1 (c.kid a 1)
   y.1.must (decide (p.2=4) && decide (x.2=1) && decide (y.2=1)) a
  else if k=13 then (jac n c (c.kid a 0)).1
  else if k=14 then
   let x:=jac n c (c.kid a 0)
   x.1.must (!decide (x.2=4)) a
  else if k=17 then jbd (jac n) c a
  else
   let x:=jac n c (c.kid a 0)
   jaz (jaJ (jab n)) (x.1.must (decide (x.2=2)) a) ((c.node a).l.drop 1)
def jav (body:Int):Ck→List GParam→Int→Ck
 | c,[],_=>c
 | c,p::ps,i=>
  let c1:=if 0≤c.find p.name then c.fails 41 body else c
  jav body { c1 with vars:=c1.vars++[⟨p.name,p.ty,i⟩],more:=c1.more.drop 1,size:=c1.size+1 } ps (i+1)
def jar (c:Ck) (k:Nat):Ck:=
 let f:=nth c.tree.fns k
 let c1:=jav f.body { c with fn:=k,vars:=[],more:=[],size:=0 } f.params 0
 let c2:=if c1.e=0 then jaJ (jab c.tree.nodes.length) c1 f.body else c1
 { c2 with size_:=c2.size_++[c2.size],vars:=[],more:=[] }
def jcL (x:GFunc):Ck→List GFunc→Ck
 | c,[]=>c
 | c,f::l=>jcL x (if f.name=x.name then c.fails 41 x.body else c) l
def jj8 (f:GFunc):Bool:=decide (f.name=(⟨#[109,97,105,110]⟩:ByteArray)) && decide ((f.params.length:Int)=0) && decide (f.ret=0)
def jcu (fns:List GFunc):Ck→Bool→Nat→Nat→Ck×Bool
 | c,m,_,0=>(c,m)
 | c,m,i,n+1=>jcu fns (jcL (nth fns i) c (fns.take i)) (m || jj8 (nth fns i)) (i+1) n
def jbX (c:Ck):Ck:=
 let p:=jcu c.tree.fns c false 0 c.tree.fns.length
 if p.2=true then p.1 else p.1.fails 44 0
def jan:Ck→Nat→Nat→Ck
 | c,_,0=>c
 | c,i,n+1=>if c.e=0 then jan (jar c i) (i+1) n else c
def ck0 (t:GTree):Ck:=⟨t,t.nodes.map fun _=>0,t.nodes.map fun _=>-1,t.nodes.map fun _=>0,[],0,[],[],0,0,0⟩
def jcz (t:GTree):Ck:=jan (jbX (ck0 t)) 0 t.fns.length
def jd0:GProg:=⟨⟨[],[]⟩,[],[],[],[]⟩
def Ck.prog (c:Ck):GProg:=⟨c.tree,c.types,c.slots,c.fns,c.size_⟩
def jaP (t:GTree):GProg×Int×Int:=if (jcz t).e≠0 then (jd0,(jcz t).at_,(jcz t).e) else ((jcz t).prog,0,0)
def jaX (s:ByteArray):GProg×Int×Int:=
 if (jaL s).2.2≠0 then (jd0,(jaL s).2.1,(jaL s).2.2)
 else
  let q:=jaP (jaL s).1
  if q.2.2=44 then (jd0,0,44)
  else if q.2.2≠0 then (jd0,(nth (jaL s).1.nodes q.2.1.toNat).line,q.2.2)
  else (q.1,0,0)
def jfs (slots:List GValue) (k t:Int):GValue:=
 if k < 0∨(slots.length:Int)≤k then vZ t
 else if jhw (nth slots k.toNat)=true∧(nth slots k.toNat).ty=t then nth slots k.toNat else vZ t
def jcn (heap:List (List Int)) (v:GValue):List Int:=if v.ty≠4∨v.n < 1∨(heap.length:Int) < v.n then [] else nth heap (v.n - 1).toNat
def isX (n:GNode):Bool:=decide (1≤n.kind) && decide (n.kind≤9)
def jbi (p:GProg) (slots:List GValue) (heap:List (List Int)):Nat→Int→GValue×Int
 | 0,_=>(v0,0)
 | n+1,a=>
  let nd:=nth p.tree.nodes a.toNat
  let x:=jbi p slots heap n (nth nd.l 0)
  let y:=jbi p slots heap n (nth nd.l 1)
  if nd.kind=1 then (vI nd.n,0)
  else if nd.kind=2 then (vB (decide (nd.n=1)),0)
  else if nd.kind=3 then (vT nd.name,0)
  else if nd.kind=4 then (jfs slots (nth p.slots a.toNat) (nth p.types a.toNat),0)
  else if x.2≠0 then (v0,x.2)
  else if nd.kind=5 then
   (if x.1.n < 0∨((jcn heap (jfs slots (nth p.slots a.toNat) 4)).length:Int)≤x.1.n then (v0,2) else (vI (nth (jcn heap (jfs slots (nth p.slots a.toNat) 4)) x.1.n.toNat),0))
  else if nd.kind=9 then
   (if (nd.name=(⟨#[124,124]⟩:ByteArray)∧x.1.n=1)∨(nd.name=(⟨#[38,38]⟩:ByteArray)∧x.1.n=0) then (x.1,0)
   else if y.2≠0 then (v0,y.2) else jlF nd.name x.1 y.1)
  else if nd.kind=6 then (if x.1.ty=3 then (vI x.1.s.size,0) else (vI (jcn heap x.1).length,0))
  else if nd.kind=7 then (jfm (⟨#[45]⟩:ByteArray) x.1,0)
  else (jfm (⟨#[33]⟩:ByteArray) x.1,0)
end Go.Gd
