/- The plain law of the document's parser: what a tree looks like. The plain law of the document's parser: what a tree looks like, statements and all. The document's checker, as a function. What expressions tell, as functions. No conditions. -/
import Derived.Test.YtfkgcobaheegbaaGreatDoorLxT
set_option linter.all false
namespace Go.Gd
open Go
theorem jbb {α:Type} [Inhabited α] {a b:List α} {i:Nat} (h:i < a.length):nth (a++b) i=nth a i:=by
 simp [nth,List.getD_eq_getElem?_getD,List.getElem?_append_left h]
theorem jcL {α:Type} [Inhabited α] (a:List α) (x:α):nth (a++[x]) a.length=x:=by
 simp [nth,List.getD_eq_getElem?_getD]
def jan (t:List GNode) (i:Int):Int:=(nth t i.toNat).kind
def isE (k:Int):Prop:=1≤k∧k≤9
def isR (k:Int):Prop:=isE k∨k=19∨k=20∨k=21
def isS (k:Int):Prop:=10≤k∧k≤17
def jeU:List ByteArray:=[(⟨#[124,124]⟩:ByteArray),(⟨#[38,38]⟩:ByteArray),(⟨#[60]⟩:ByteArray),(⟨#[60,61]⟩:ByteArray),(⟨#[61,61]⟩:ByteArray),(⟨#[33,61]⟩:ByteArray),(⟨#[43]⟩:ByteArray),(⟨#[45]⟩:ByteArray),(⟨#[42]⟩:ByteArray),(⟨#[47]⟩:ByteArray),(⟨#[37]⟩:ByteArray)]
structure Shape (t:List GNode) (n:GNode):Prop where
 any:1≤n.kind∧n.kind≤21
 zero:n.kind=1∨n.kind=2∨n.kind=3∨n.kind=4∨n.kind=19→n.l=[]
 one:n.kind=5∨n.kind=6∨n.kind=7∨n.kind=8∨n.kind=14∨n.kind=20→∃ a,n.l=[a]∧isE (jan t a)
 two:n.kind=9∨n.kind=12→∃ a b,n.l=[a,b]∧isE (jan t a)∧isE (jan t b)
 right:n.kind=10∨n.kind=11→∃ a,n.l=[a]∧isR (jan t a)
 do_:n.kind=13→∃ a,n.l=[a]∧jan t a=21
 if_:n.kind=15→∃ a b,isE (jan t a)∧jan t b=18∧(n.l=[a,b]∨∃ d,n.l=[a,b,d]∧jan t d=18)
 while_:n.kind=16→∃ a b,n.l=[a,b]∧isE (jan t a)∧jan t b=18
 ret:n.kind=17→n.l=[]∨∃ a,n.l=[a]∧isE (jan t a)
 block:n.kind=18→∀ a∈n.l,isS (jan t a)
 call:n.kind=21→∀ a∈n.l,isE (jan t a)
 num:n.kind=1→∃ s,jfy s∧n.n=jik s
 bool:n.kind=2→n.n=0∨n.n=1
 text:n.kind=3→n.name.size≤12
 sign:n.kind=9→n.name∈jeU
inductive Chain (t:List GNode):Nat→List Int→Nat→Prop
 | nil (k:Nat):Chain t k [] k
 | cons {lo c hi:Nat} {L:List Int} (hc:c < t.length) (h1:Chain t lo (nth t c).l c) (h2:Chain t (c+1) L hi):Chain t lo ((c:Int)::L) hi
theorem Chain.le {t:List GNode} {lo hi:Nat} {L:List Int} (h:Chain t lo L hi):lo≤hi:=by
 induction h with
 | nil=>exact Nat.le_refl _
 | cons _ _ _ i1 i2=>omega
theorem Chain.mem {t:List GNode} {lo hi:Nat} {L:List Int} (h:Chain t lo L hi):∀ a∈L,0≤a∧lo≤a.toNat∧a.toNat < hi∧a.toNat < t.length:=by
 induction h with
 | nil=>intro a ha;simp at ha
 | @cons lo c hi L hc h1 h2 i1 i2=>
  intro a ha
  have l1:=h1.le
  have l2:=h2.le
  rcases List.mem_cons.1 ha with rfl | ha
  ·exact ⟨by omega,by simpa using l1,by simp;omega,by simpa using hc⟩
  ·have:=i2 a ha;omega
theorem Chain.mono {t u:List GNode} {lo hi:Nat} {L:List Int} (h:Chain t lo L hi):Chain (t++u) lo L hi:=by
 induction h with
 | nil k=>exact .nil k
 | cons hc _ _ i1 i2=>exact .cons (by simp;omega) (by rw [jbb hc];exact i1) i2
theorem Chain.append {t:List GNode} {lo mid hi:Nat} {L M:List Int} (h:Chain t lo L mid):Chain t mid M hi→Chain t lo (L++M) hi:=by
 induction h with
 | nil=>intro k;exact k
 | cons hc h1 _ _ i2=>intro k;exact .cons hc h1 (i2 k)
theorem Chain.one {t:List GNode} {lo c:Nat} (hc:c < t.length) (h:Chain t lo (nth t c).l c):Chain t lo [(c:Int)] (c+1):=.cons hc h (.nil _)
theorem jaZ {t u:List GNode} {a:Int} (h:a.toNat < t.length):jan (t++u) a=jan t a:=by unfold jan;rw [jbb h]
theorem Shape.mono {t u:List GNode} {n:GNode} (h:Shape t n) (hl:∀ a∈n.l,a.toNat < t.length):Shape (t++u) n where
 any:=h.any
 zero:=h.zero
 one:=fun e=>by
  obtain ⟨a,h1,h2⟩:=h.one e
  exact ⟨a,h1,by rw [jaZ (hl a (by rw [h1];simp))];exact h2⟩
 two:=fun e=>by
  obtain ⟨a,b,h1,h2,h3⟩:=h.two e
  exact ⟨a,b,h1,by rw [jaZ (hl a (by rw [h1];simp))];exact h2,by rw [jaZ (hl b (by rw [h1];simp))];exact h3⟩
 right:=fun e=>by
  obtain ⟨a,h1,h2⟩:=h.right e
  exact ⟨a,h1,by rw [jaZ (hl a (by rw [h1];simp))];exact h2⟩
 do_:=fun e=>by
  obtain ⟨a,h1,h2⟩:=h.do_ e
  exact ⟨a,h1,by rw [jaZ (hl a (by rw [h1];simp))];exact h2⟩
 if_:=fun e=>by
  obtain ⟨a,b,h1,h2,h3⟩:=h.if_ e
  rcases h3 with h3 | ⟨d,h3,h4⟩
  ·exact ⟨a,b,by rw [jaZ (hl a (by rw [h3];simp))];exact h1,by rw [jaZ (hl b (by rw [h3];simp))];exact h2,.inl h3⟩
  ·exact ⟨a,b,by rw [jaZ (hl a (by rw [h3];simp))];exact h1,by rw [jaZ (hl b (by rw [h3];simp))];exact h2,.inr ⟨d,h3,by rw [jaZ (hl d (by rw [h3];simp))];exact h4⟩⟩
 while_:=fun e=>by
  obtain ⟨a,b,h1,h2,h3⟩:=h.while_ e
  exact ⟨a,b,h1,by rw [jaZ (hl a (by rw [h1];simp))];exact h2,by rw [jaZ (hl b (by rw [h1];simp))];exact h3⟩
 ret:=fun e=>by
  rcases h.ret e with h1 | ⟨a,h1,h2⟩
  ·exact .inl h1
  ·exact .inr ⟨a,h1,by rw [jaZ (hl a (by rw [h1];simp))];exact h2⟩
 block:=fun e a ha=>by rw [jaZ (hl a ha)];exact h.block e a ha
 call:=fun e a ha=>by rw [jaZ (hl a ha)];exact h.call e a ha
 num:=h.num
 bool:=h.bool
 text:=h.text
 sign:=h.sign
theorem Chain.len {t:List GNode} {lo hi:Nat} {L:List Int} (h:Chain t lo L hi):L.length+lo≤hi:=by
 induction h with
 | nil=>simp
 | @cons lo c hi L hc h1 h2 i1 i2=>
  have:=h1.le
  simp only [List.length_cons]
  omega
structure Mk (t t':List GNode) (L:List Int):Prop where
 pre:∃ u,t'=t++u
 chain:Chain t' t.length L t'.length
 shape:∀ k,t.length≤k→k < t'.length→Shape t' (nth t' k)∧(∀ a∈(nth t' k).l,0≤a∧a.toNat < k)∧∃ lo,Chain t' lo (nth t' k).l k
theorem Mk.refl (t:List GNode):Mk t t []:=⟨⟨[],by simp⟩,.nil _,fun k h1 h2=>by omega⟩
theorem Mk.trans {a b c:List GNode} {L M:List Int} (h:Mk a b L) (k:Mk b c M):Mk a c (L++M):=by
 obtain ⟨⟨u,rfl⟩,h2,h3⟩:=h
 obtain ⟨⟨v,rfl⟩,k2,k3⟩:=k
 refine ⟨⟨u++v,by simp⟩,h2.mono.append k2,fun i h4 h5=>?_⟩
 by_cases hi:i < (a++u).length
 ·obtain ⟨g1,g2,lo,g3⟩:=h3 i h4 hi
  rw [jbb hi]
  exact ⟨g1.mono fun x hx=>by have:=g2 x hx;omega,g2,lo,g3.mono⟩
 ·exact k3 i (by omega) h5
theorem Mk.put {a b:List GNode} {L:List Int} (h:Mk a b L) (n:GNode) (hn:n.l=L) (hs:Shape b n):Mk a (b++[n]) [(b.length:Int)]:=by
 obtain ⟨⟨u,rfl⟩,h2,h3⟩:=h
 have hm:∀ x∈n.l,0≤x∧x.toNat < (a++u).length:=fun x hx=>by rw [hn] at hx;exact ⟨(h2.mem x hx).1,(h2.mem x hx).2.2.1⟩
 refine ⟨⟨u++[n],by simp⟩,?_,fun i h4 h5=>?_⟩
 ·have e:((a++u)++[n]).length=(a++u).length+1:=by simp only [List.length_append,List.length_cons,List.length_nil]
  rw [e]
  refine Chain.one (by simp) ?_
  rw [jcL,hn]
  exact h2.mono
 ·by_cases hi:i < (a++u).length
  ·obtain ⟨g1,g2,lo,g3⟩:=h3 i h4 hi
   rw [jbb hi]
   exact ⟨g1.mono fun x hx=>by have:=g2 x hx;omega,g2,lo,g3.mono⟩
  ·have:i=(a++u).length:=by simp at h5 hi ⊢;omega
   subst this
   rw [jcL]
   exact ⟨hs.mono fun x hx=>(hm x hx).2,hm,a.length,by rw [hn];exact h2.mono⟩
theorem Mk.kind {a b c:List GNode} {L M:List Int} (h:Mk a b L) (k:Mk b c M) {x:Int} (hx:x∈L):jan c x=jan b x:=by
 obtain ⟨⟨v,rfl⟩,_,_⟩:=k
 exact jaZ (h.chain.mem x hx).2.2.2
theorem joM (t:List GNode) (n:GNode):jan (t++[n]) (t.length:Int)=n.kind:=by unfold jan;rw [Int.toNat_natCast,jcL]
def jdG (l:List GToken):Prop:=∀ k,k < l.length→(nth l k).kind=2→(nth l k).text.size≤12
def Made (r r':Rd) (L:List Int) (C:Int→Prop):Prop:=r'.e=0→Mk r.nodes r'.nodes L∧∀ a∈L,C (jan r'.nodes a)
structure Still (r r':Rd):Prop where
 nodes:r'.nodes=r.nodes
 err:r'.e=0→r.e=0
 l:r'.l=r.l
theorem Still.refl (r:Rd):Still r r:=⟨rfl,id,rfl⟩
theorem Still.trans {a b c:Rd} (h:Still a b) (k:Still b c):Still a c:=⟨k.nodes.trans h.nodes,fun e=>h.err (k.err e),k.l.trans h.l⟩
theorem jef (r:Rd) {e:Int} (he:e≠0):Still r (r.fails e):=⟨Rd.fails_nodes _ _,fun h=>(Rd.fails_e he h).elim,Rd.fails_l _ _⟩
theorem jbx (r:Rd):Still r r.inc:=⟨rfl,id,rfl⟩
theorem jhJ (r:Rd):Still r r.up:=⟨rfl,id,rfl⟩
theorem jaD (r:Rd) (t:ByteArray):Still r (r.must t):=by
 unfold Rd.must
 split
 ·exact jbx r
 ·exact jef r (by decide)
theorem jdd (r:Rd):Still r r.name.1:=by
 unfold Rd.name
 split
 ·exact jbx r
 ·exact jef r (by decide)
theorem jeY (r:Rd):Still r r.down:=by
 unfold Rd.down
 split
 ·have:=jef r (e:=21) (by decide)
  exact ⟨this.nodes,this.err,this.l⟩
 ·exact ⟨rfl,id,rfl⟩
theorem Made.pre {r a b:Rd} {L:List Int} {C:Int→Prop} (s:Still r a) (h:Made a b L C):Made r b L C:=fun e=>by have:=h e;rwa [s.nodes] at this
theorem Made.post {r a b:Rd} {L:List Int} {C:Int→Prop} (h:Made r a L C) (s:Still a b):Made r b L C:=fun e=>by have:=h (s.err e);rwa [s.nodes]
theorem Made.nil (r:Rd) (C:Int→Prop):Made r r [] C:=fun _=>⟨Mk.refl _,fun a ha=>by simp at ha⟩
theorem Made.weak {r a:Rd} {L:List Int} {C D:Int→Prop} (h:Made r a L C) (hc:∀ k,C k→D k):Made r a L D:=fun e=>⟨(h e).1,fun a ha=>hc _ ((h e).2 a ha)⟩
theorem Made.seq {a b c:Rd} {L M:List Int} {C D:Int→Prop} (h:Made a b L C) (k:Made b c M D) (he:c.e=0→b.e=0):c.e=0→Mk a.nodes c.nodes (L++M)∧(∀ x∈L,C (jan c.nodes x))∧∀ x∈M,D (jan c.nodes x):=fun e=>by
 obtain ⟨h1,h2⟩:=h (he e)
 obtain ⟨k1,k2⟩:=k e
 exact ⟨h1.trans k1,fun x hx=>by rw [h1.kind k1 hx];exact h2 x hx,k2⟩
theorem Made.both {a b c:Rd} {L M:List Int} {C:Int→Prop} (h:Made a b L C) (k:Made b c M C) (he:c.e=0→b.e=0):Made a c (L++M) C:=fun e=>by
 obtain ⟨h1,h2,h3⟩:=h.seq k he e
 exact ⟨h1,fun x hx=>(List.mem_append.1 hx).elim (h2 x) (h3 x)⟩
theorem jba {r a:Rd} {L:List Int} {C:Int→Prop} (k ln n:Int) (nm:ByteArray) (h:a.e=0→Mk r.nodes a.nodes L∧Shape a.nodes ⟨k,ln,n,nm,L⟩∧C k):Made r (a.put k ln n nm L).1 [(a.put k ln n nm L).2] C:=fun e=>by
 obtain ⟨h1,h2,h3⟩:=h e
 refine ⟨h1.put _ rfl h2,fun x hx=>?_⟩
 rw [List.mem_singleton.1 hx]
 show C (jan (a.nodes++[_]) (a.nodes.length:Int))
 rw [joM]
 exact h3
theorem jiu {t:List GNode} {k ln n:Int} {nm:ByteArray} (hk:k=1∨k=2∨k=3∨k=4∨k=17∨k=19) (h1:k=1→∃ s,jfy s∧n=jik s) (h2:k=2→n=0∨n=1) (h3:k=3→nm.size≤12):Shape t ⟨k,ln,n,nm,[]⟩:=by
 constructor<;>(try simp only)<;>intros<;>first | (clear h1 h2 h3;omega) | (clear h1 h2 h3;exfalso;omega) | trivial | rfl | (exact .inl rfl) | (exact .inl trivial) | (refine h1 ?_;assumption) | (refine h2 ?_;assumption) | (refine h3 ?_;assumption) | fail
theorem jjC {t:List GNode} {k ln n a:Int} {nm:ByteArray} (hk:k=5∨k=6∨k=7∨k=8∨k=14∨k=17∨k=20) (h:isE (jan t a)):Shape t ⟨k,ln,n,nm,[a]⟩:=by
 constructor<;>(try simp only)<;>intros<;>first | omega | (exfalso;omega) | trivial | (exact ⟨a,rfl,h⟩) | (exact .inr ⟨a,rfl,h⟩)
theorem jtT {t:List GNode} {k ln n a:Int} {nm:ByteArray} (hk:k=10∨k=11) (h:isR (jan t a)):Shape t ⟨k,ln,n,nm,[a]⟩:=by
 constructor<;>(try simp only)<;>intros<;>first | omega | (exfalso;omega) | trivial | (exact ⟨a,rfl,h⟩)
theorem jyu {t:List GNode} {ln n a:Int} {nm:ByteArray} (h:jan t a=21):Shape t ⟨13,ln,n,nm,[a]⟩:=by
 constructor<;>(try simp only)<;>intros<;>first | omega | (exfalso;omega) | trivial | (exact ⟨a,rfl,h⟩)
theorem jtS {t:List GNode} {k ln n a b:Int} {nm:ByteArray} (hk:k=12∨k=9∧nm∈jeU) (h:isE (jan t a)) (h':isE (jan t b)):Shape t ⟨k,ln,n,nm,[a,b]⟩:=by
 constructor<;>(try simp only)<;>intros<;>first | omega | (exfalso;omega) | trivial | (exact ⟨a,b,rfl,h,h'⟩) | (rcases hk with hk | hk;omega;exact hk.2) | fail
theorem jyw {t:List GNode} {ln n a b:Int} {nm:ByteArray} (h:isE (jan t a)) (h':jan t b=18):Shape t ⟨16,ln,n,nm,[a,b]⟩:=by
 constructor<;>(try simp only)<;>intros<;>first | omega | (exfalso;omega) | trivial | (exact ⟨a,b,rfl,h,h'⟩)
theorem jyv {t:List GNode} {ln n a b:Int} {nm:ByteArray} (h:isE (jan t a)) (h':jan t b=18):Shape t ⟨15,ln,n,nm,[a,b]⟩:=by
 constructor<;>(try simp only)<;>intros<;>first | omega | (exfalso;omega) | trivial | (exact ⟨a,b,h,h',.inl rfl⟩)
theorem jvp {t:List GNode} {ln n a b d:Int} {nm:ByteArray} (h:isE (jan t a)) (h':jan t b=18) (h'':jan t d=18):Shape t ⟨15,ln,n,nm,[a,b,d]⟩:=by
 constructor<;>(try simp only)<;>intros<;>first | omega | (exfalso;omega) | trivial | (exact ⟨a,b,h,h',.inr ⟨d,rfl,h''⟩⟩)
theorem jys {t:List GNode} {ln n:Int} {nm:ByteArray} {L:List Int} (h:∀ a∈L,isS (jan t a)):Shape t ⟨18,ln,n,nm,L⟩:=by
 constructor<;>(try simp only)<;>intros<;>first | omega | (exfalso;omega) | trivial | (refine h _ ?_;assumption) | fail
theorem jyt {t:List GNode} {ln n:Int} {nm:ByteArray} {L:List Int} (h:∀ a∈L,isE (jan t a)):Shape t ⟨21,ln,n,nm,L⟩:=by
 constructor<;>(try simp only)<;>intros<;>first | omega | (exfalso;omega) | trivial | (refine h _ ?_;assumption) | fail
theorem jqr {r:Rd} {lv:Int} (h:r.next lv≠⟨#[]⟩):r.next lv∈jeU:=by
 unfold Rd.next at h ⊢
 cases e:(jdj lv).find? (fun s=>r.is s) with
 | none=>rw [e] at h;exact (h rfl).elim
 | some s=>
  have:=List.mem_of_find?_eq_some e
  unfold jdj at this
  simp only
  unfold jeU
  split at this
  ·simp at this ⊢;simp [this]
  split at this
  ·simp at this ⊢;simp [this]
  split at this
  ·simp at this ⊢;rcases this with h | h | h | h<;>simp [h]
  split at this
  ·simp at this ⊢;rcases this with h | h<;>simp [h]
  ·simp at this ⊢;rcases this with h | h | h<;>simp [h]
theorem jeB {r r':Rd} (s:Rd.St r r'):r'.e=0→r.e=0:=fun h=>Classical.byContradiction fun e=>s.err e h
theorem jk2 {r:Rd} {e:Int} {L:List Int} {C:Int→Prop} (he:e≠0):Made r (r.fails e) L C:=fun h=>(Rd.fails_e he h).elim
theorem jpU:∀ n,(∀ r:Rd,r.Inv→jdG r.l→8 * r.rem+1≤n→Made r (jiT n r).1 [(jiT n r).2] isE)∧(∀ r:Rd,r.Inv→jdG r.l→8 * r.rem+2≤n→Made r (ja8 n r).1 [(ja8 n r).2] isE)∧
  (∀ lv (r:Rd),r.Inv→jdG r.l→lv≤5→8 * r.rem+8≤n+lv→Made r (jaC n lv r).1 [(jaC n lv r).2] isE)∧
  (∀ lv ln (r:Rd) (p:Rd×Int),p.1.Inv→jdG p.1.l→lv≤4→8 * p.1.rem+7≤n+lv→Made r p.1 [p.2] isE→Made r (jgx n lv ln p).1 [(jgx n lv ln p).2] isE)
 | 0=>⟨fun r h ht hn=>by omega,fun r h ht hn=>by omega,fun lv r h ht h5 hn=>by omega,fun lv ln r p h ht h5 hn hp=>by omega⟩
 | n+1=>by
  obtain ⟨ia,if_,ic,il⟩:=jpU n
  have ist:=jep n
  have deeper:∀ (r:Rd) (t u:ByteArray),r.Inv→jdG r.l→r.e=0→8 * r.rem+1≤n+1→(r.is t=true∨8 * r.rem+8≤n)→Made r ((jaC n 0 (r.down.must t)).1.must u).up [(jaC n 0 (r.down.must t)).2] isE:=fun r t u h ht he hn hx=>by
   have h1:=(Rd.down_inv h he).1
   have s1:=Rd.st_must h1 t
   have hr:8 * (r.down.must t).rem+8≤n+0:=by
    rcases hx with hx | hx
    ·have:=(Rd.down_must h hx).1;omega
    ·have:=s1.rem
     have hdr:r.down.rem≤r.rem:=by
      unfold Rd.rem
      obtain ⟨_,_,h3,h4,_⟩:=Rd.down_inv h he
      rw [h3,h4,if_pos he];split<;>omega
     omega
   have st:=(jeY r).trans (jaD r.down t)
   have:=ic 0 (r.down.must t) (s1.inv h1) (by rw [st.l];exact ht) (by omega) hr
   exact ((this.pre st).post (jaD _ _)).post (jhJ _)
  refine ⟨fun r h ht hn=>?_,fun r h ht hn=>?_,fun lv r h ht h5 hn=>?_,fun lv ln r p h ht h5 hn hp=>?_⟩
  ·unfold jiT
   split
   ·rename_i he;exact fun h=>(he h).elim
   rename_i he
   have he:r.e=0:=by omega
   have htk:r.i.toNat < r.l.length:=by have:=h.lt;have:=h.pos;omega
   split
   ·rename_i hk
    exact jba _ _ _ _ fun _=>⟨Mk.refl _,jiu (by omega) (fun _=>⟨_,h.num _ htk hk,rfl⟩) (by intro;omega) (by intro;omega),by unfold isE;omega⟩
   split
   ·rename_i hk
    exact jba _ _ _ _ fun _=>⟨Mk.refl _,jiu (by omega) (by intro;omega) (by intro;omega) (fun _=>ht _ htk hk),by unfold isE;omega⟩
   split
   ·rename_i hk
    have hki:r.e=0∧r.tok.kind≠0:=⟨he,by omega⟩
    split
    ·have hi:=(Rd.st_inc h hki.2).1.inv h
     have hr:=Rd.rem_inc h hki
     have hm:=deeper r.inc (⟨#[91]⟩:ByteArray) (⟨#[93]⟩:ByteArray) hi ht he (by omega) (.inl (by assumption))
     exact jba _ _ _ _ fun e=>⟨(hm e).1,jjC (by omega) ((hm e).2 _ (by simp)),by unfold isE;omega⟩
    ·exact jba _ _ _ _ fun _=>⟨Mk.refl _,jiu (by omega) (by intro;omega) (by intro;omega) (by intro;omega),by unfold isE;omega⟩
   split
   ·exact jba _ _ _ _ fun _=>⟨Mk.refl _,jiu (by omega) (by intro;omega) (fun _=>.inr rfl) (by intro;omega),by unfold isE;omega⟩
   split
   ·exact jba _ _ _ _ fun _=>⟨Mk.refl _,jiu (by omega) (by intro;omega) (fun _=>.inl rfl) (by intro;omega),by unfold isE;omega⟩
   split
   ·rename_i hs
    have hki:=Rd.is_kind hs
    split
    ·have hi:=(Rd.st_inc h hki.2).1.inv h
     have hr:=Rd.rem_inc h hki
     have hm:=deeper r.inc (⟨#[40]⟩:ByteArray) (⟨#[41]⟩:ByteArray) hi ht he (by omega) (.inl (by assumption))
     exact jba _ _ _ _ fun e=>⟨(hm e).1,jjC (by omega) ((hm e).2 _ (by simp)),by unfold isE;omega⟩
    ·exact fun e=>(Rd.fails_e (by decide) e).elim
   split
   ·exact deeper r (⟨#[40]⟩:ByteArray) (⟨#[41]⟩:ByteArray) h ht he hn (.inl (by assumption))
   ·exact jk2 (by decide)
  ·unfold ja8
   have sg:∀ t,r.is t=true→∀ k ln nm,(k=7∨k=8)→Made r (((ja8 n r.down.inc).1.up).put k ln 0 nm [(ja8 n r.down.inc).2]).1 [(((ja8 n r.down.inc).1.up).put k ln 0 nm [(ja8 n r.down.inc).2]).2] isE:=fun t ht' k ln nm hk=>by
    obtain ⟨he,hkk⟩:=Rd.is_kind ht'
    obtain ⟨h1,h2,h3,h4,h5,h6⟩:=Rd.down_inv h he
    have htk:r.down.tok=r.tok:=by unfold Rd.tok;rw [h3,h4]
    have s1:=(Rd.st_inc h1 (by rw [htk];exact hkk)).1
    have st:=(jeY r).trans (jbx r.down)
    have hr:8 * r.down.inc.rem+2≤n:=by
     have hb:=Rd.behind h hkk
     unfold Rd.rem at hn ⊢
     rw [if_pos he] at hn
     have e1:r.down.inc.i=r.i+1:=by show r.down.i+1=_;rw [h3]
     have e2:r.down.inc.l=r.l:=h4
     rw [e1,e2]
     have:=h.pos
     split<;>omega
    have hm:=((if_ r.down.inc (s1.inv h1) (by rw [st.l];exact ht) hr).pre st).post (jhJ _)
    exact jba _ _ _ _ fun e=>⟨(hm e).1,jjC (by omega) ((hm e).2 _ (by simp)),by unfold isE;omega⟩
   split
   ·rename_i ht';exact sg _ ht' _ _ _ (.inl rfl)
   split
   ·rename_i ht';exact sg _ ht' _ _ _ (.inr rfl)
   ·exact ia r h ht (by omega)
  ·unfold jaC
   split
   ·exact if_ r h ht (by omega)
   ·have s1:=ist.2.2.1 (lv+1) r h
    exact il lv _ r _ (s1.inv h) (by rw [s1.l];exact ht) (by omega) (by have:=s1.rem;omega) (ic (lv+1) r h ht (by omega) (by omega))
  ·unfold jgx
   split
   ·exact hp
   rename_i hnx
   have hki:=Rd.is_kind (Rd.next_is hnx)
   have s1:=(Rd.st_inc h hki.2).1
   have hr:=Rd.rem_inc h hki
   have s2:=ist.2.2.1 (lv+1) _ (s1.inv h)
   have hm:=ic (lv+1) p.1.inc (s1.inv h) (by rw [s1.l];exact ht) (by omega) (by omega)
   have h12:=(hp.post (jbx _)).seq hm (jeB s2)
   have hput:Made r ((jaC n (lv+1) p.1.inc).1.put 9 ln 0 (p.1.next lv) [p.2,(jaC n (lv+1) p.1.inc).2]).1 [((jaC n (lv+1) p.1.inc).1.put 9 ln 0 (p.1.next lv) [p.2,(jaC n (lv+1) p.1.inc).2]).2] isE:=
    jba _ _ _ _ fun e=>⟨(h12 e).1,jtS (.inr ⟨rfl,jqr hnx⟩) ((h12 e).2.1 _ (by simp)) ((h12 e).2.2 _ (by simp)),by unfold isE;omega⟩
   split
   ·exact hput
   ·have s3:=Rd.st_put (s1.trans s2) (by have:=s2.pot;have:=(Rd.st_inc h hki.2).2;omega) 9 ln 0 (p.1.next lv) [p.2,(jaC n (lv+1) p.1.inc).2]
    exact il lv ln r _ (s3.inv h) (by rw [s3.l];exact ht) h5 (by
     have e:((jaC n (lv+1) p.1.inc).1.put 9 ln 0 (p.1.next lv) [p.2,(jaC n (lv+1) p.1.inc).2]).1.rem=(jaC n (lv+1) p.1.inc).1.rem:=rfl
     show 8 * ((jaC n (lv+1) p.1.inc).1.put 9 ln 0 (p.1.next lv) [p.2,(jaC n (lv+1) p.1.inc).2]).1.rem+7≤_
     rw [e]
     have:=s2.rem
     omega) hput
theorem jc3 {r:Rd} (h:r.Inv) (ht:jdG r.l):Made r (jaS r).1 [(jaS r).2] isE:=(jpU _).2.2.1 0 r h ht (by omega) (by omega)
theorem St.txt {r r':Rd} (s:Rd.St r r') (h:jdG r.l):jdG r'.l:=by rw [s.l];exact h
theorem jna:∀ (n:Nat) (b:Bool) (r0 r:Rd) (L:List Int),r.Inv→jdG r.l→Made r0 r L isE→Made r0 (jfg n b r L).1 (jfg n b r L).2 isE
 | 0,_,r0,r,L,h,ht,hm=>by unfold jfg;exact hm
 | n+1,false,r0,r,L,h,ht,hm=>by unfold jfg;exact hm
 | n+1,true,r0,r,L,h,ht,hm=>by
  have s1:=ja7 h
  have h1:=s1.inv h
  have m1:=hm.both (jc3 h ht) (jeB s1)
  unfold jfg
  split
  ·rename_i hs
   have s2:=(Rd.st_inc h1 (Rd.is_kind hs).2).1
   exact jna n _ r0 _ _ (s2.inv h1) (St.txt s2 (St.txt s1 ht)) (m1.post (jbx _))
  ·exact m1
theorem jne {r:Rd} (h:r.Inv) (ht:jdG r.l):Made r (je5 r).1 [(je5 r).2] (fun k=>k=21):=by
 have hs:=jhv h
 have st:=(jdd r).trans (jaD r.name.1 (⟨#[40]⟩:ByteArray))
 have hm:Made r (jfC r).1 (jfC r).2 isE:=jna _ _ r _ _ (hs.inv h) (St.txt hs ht) ((Made.nil _ _).pre st)
 have hm:=hm.post (jaD (jfC r).1 (⟨#[41]⟩:ByteArray))
 exact jba _ _ _ _ fun e=>⟨(hm e).1,jyt (hm e).2,rfl⟩
theorem jlG {r:Rd} (h:r.Inv) (ht:jdG r.l):Made r (jcw r).1 [(jcw r).2] isR:=by
 unfold jcw
 split
 ·exact jba _ _ _ _ fun _=>⟨Mk.refl _,jiu (by omega) (by intro;omega) (by intro;omega) (by intro;omega),by unfold isR;omega⟩
 split
 ·rename_i hs
  have s1:=(Rd.st_inc h (Rd.is_kind hs).2).1
  have s2:=s1.trans (Rd.st_must (s1.inv h) (⟨#[40]⟩:ByteArray))
  have hm:=((jc3 (s2.inv h) (St.txt s2 ht)).pre ((jbx r).trans (jaD _ _))).post (jaD _ (⟨#[41]⟩:ByteArray))
  exact jba _ _ _ _ fun e=>⟨(hm e).1,jjC (by omega) ((hm e).2 _ (by simp)),by unfold isR;omega⟩
 split
 ·exact (jne h ht).weak fun k hk=>by unfold isR;omega
 ·exact (jc3 h ht).weak fun k hk=>.inl hk
theorem jyk {r:Rd} (h:r.Inv) (ht:jdG r.l) (he:r.e=0):Made r (ptA r).1 [(ptA r).2] isE:=by
 have h1:=(Rd.down_inv h he).1
 have s1:=Rd.st_must h1 (⟨#[91]⟩:ByteArray)
 have st:=(jeY r).trans (jaD r.down (⟨#[91]⟩:ByteArray))
 exact (jc3 (s1.inv h1) (by rw [st.l];exact ht)).pre st
theorem jqp {r:Rd} (h:r.Inv) (ht:jdG r.l) (he:r.e=0) (ln:Int):Made r (jex r ln).1 [(jex r ln).2] isS:=by
 unfold jex
 split
 ·have hm:=(jne h ht).post (jaD _ (⟨#[59]⟩:ByteArray))
  exact jba _ _ _ _ fun e=>⟨(hm e).1,jyu ((hm e).2 _ (by simp)),by unfold isS;omega⟩
 have s0:=Rd.st_name h
 have h0:=s0.inv h
 split
 ·rename_i hs
  have he0:=(Rd.is_kind hs).1
  have m1:=jyk h0 (St.txt s0 ht) he0
  obtain ⟨t1,t2⟩:=jn0 h0 hs
  have sB:Rd.St r.name.1 ((ptA r.name.1).1.must (⟨#[93]⟩:ByteArray)).up:=(jqA h0 hs).2
  have stl:Still (ptA r.name.1).1 (((ptA r.name.1).1.must (⟨#[93]⟩:ByteArray)).up.must (⟨#[61]⟩:ByteArray)):=((jaD _ _).trans (jhJ _)).trans (jaD _ _)
  have m2:Made (((ptA r.name.1).1.must (⟨#[93]⟩:ByteArray)).up.must (⟨#[61]⟩:ByteArray)) (ptB r.name.1).1 [(ptB r.name.1).2] isE:=jc3 (t1.inv h0) (St.txt t1 (St.txt s0 ht))
  have hm:=((m1.post stl).both m2 (jeB (ja7 (t1.inv h0)))).post (jaD _ (⟨#[59]⟩:ByteArray))
  have hm:=hm.pre (jdd r)
  exact jba _ _ _ _ fun e=>⟨(hm e).1,jtS (.inl rfl) ((hm e).2 _ (by simp)) ((hm e).2 _ (by simp)),by unfold isS;omega⟩
 ·have s1:=s0.trans (Rd.st_must h0 (⟨#[61]⟩:ByteArray))
  have hm:=((jlG (s1.inv h) (St.txt s1 ht)).pre ((jdd r).trans (jaD _ _))).post (jaD _ (⟨#[59]⟩:ByteArray))
  exact jba _ _ _ _ fun e=>⟨(hm e).1,jtT (.inr rfl) ((hm e).2 _ (by simp)),by unfold isS;omega⟩
theorem jq8:∀ n,(∀ r:Rd,r.Inv→jdG r.l→4 * r.rem+1≤n→Made r (jbd n r).1 [(jbd n r).2] (fun k=>k=18))∧
  (∀ (r0 r:Rd) L,r.Inv→jdG r.l→4 * r.rem+3≤n→Made r0 r L isS→Made r0 (jcY n r L).1 (jcY n r L).2 isS)∧
  (∀ r:Rd,r.Inv→jdG r.l→r.e=0→4 * r.rem+2≤n→Made r (jga n r).1 [(jga n r).2] isS)
 | 0=>⟨fun r h ht hn=>by omega,fun r0 r L h ht hn hm=>by omega,fun r h ht he hn=>by omega⟩
 | n+1=>by
  obtain ⟨ib,il,is_⟩:=jq8 n
  have ist:=jeC n
  refine ⟨fun r h ht hn=>?_,fun r0 r L h ht hn hm=>?_,fun r h ht he hn=>?_⟩
  ·unfold jbd
   split
   ·rename_i hx
    have he:=(Rd.is_kind hx).1
    have hd:=(Rd.down_inv h he).1
    have s1:=Rd.st_must hd (⟨#[123]⟩:ByteArray)
    have st:=(jeY r).trans (jaD r.down (⟨#[123]⟩:ByteArray))
    have hr:=(Rd.down_must h hx).1
    have hm:=il r (r.down.must (⟨#[123]⟩:ByteArray)) [] (s1.inv hd) (by rw [st.l];exact ht) (by omega) ((Made.nil _ _).pre st)
    have hm:=(hm.post (jaD _ (⟨#[125]⟩:ByteArray))).post (jhJ _)
    exact jba _ _ _ _ fun e=>⟨(hm e).1,jys (hm e).2,rfl⟩
   ·exact jk2 (by decide)
  ·unfold jcY
   split
   ·rename_i hc
    have hn0:0 < n:=by omega
    obtain ⟨s1,s2⟩:=ist.2.2 r h hc.1 hn0
    have hm2:=hm.both (is_ r h ht hc.1 (by omega)) (jeB s1)
    exact il r0 _ _ (s1.inv h) (St.txt s1 ht) (by omega) hm2
   ·exact hm
  ·unfold jga
   have word:∀ w:ByteArray,w≠⟨#[]⟩→r.word=w→r.inc.Inv∧r.inc.rem+1≤r.rem∧Rd.St r r.inc:=fun w h0 hw=>by
    have hk:=Rd.kind_kind (Rd.word_kind hw h0) (by decide)
    exact ⟨(Rd.st_inc h hk.2).1.inv h,Rd.rem_inc h hk,(Rd.st_inc h hk.2).1⟩
   split
   ·rename_i hw
    obtain ⟨h1,h2,s1⟩:=word _ (by decide) hw
    have s2:=Rd.st_name h1
    have s3:=s2.trans (Rd.st_must (s2.inv h1) (⟨#[61]⟩:ByteArray))
    have hm:=((jlG (s3.inv h1) (St.txt s3 ht)).pre ((jbx r).trans ((jdd r.inc).trans (jaD _ _)))).post (jaD _ (⟨#[59]⟩:ByteArray))
    exact jba _ _ _ _ fun e=>⟨(hm e).1,jtT (.inl rfl) ((hm e).2 _ (by simp)),by unfold isS;omega⟩
   split
   ·rename_i hw
    obtain ⟨h1,h2,s1⟩:=word _ (by decide) hw
    have hm:=((jc3 h1 (St.txt s1 ht)).pre (jbx r)).post (jaD _ (⟨#[59]⟩:ByteArray))
    exact jba _ _ _ _ fun e=>⟨(hm e).1,jjC (by omega) ((hm e).2 _ (by simp)),by unfold isS;omega⟩
   split
   ·rename_i hw
    obtain ⟨h1,h2,s1⟩:=word _ (by decide) hw
    have s2:=ja7 h1
    have s3:=ist.1 _ (s2.inv h1)
    have hm:=((jc3 h1 (St.txt s1 ht)).pre (jbx r)).seq (ib (jaS r.inc).1 (s2.inv h1) (St.txt s2 (St.txt s1 ht)) (by have:=s2.rem;omega)) (jeB s3)
    exact jba _ _ _ _ fun e=>⟨(hm e).1,jyw ((hm e).2.1 _ (by simp)) ((hm e).2.2 _ (by simp)),by unfold isS;omega⟩
   split
   ·rename_i hw
    obtain ⟨h1,h2,s1⟩:=word _ (by decide) hw
    have s2:=ja7 h1
    have h3:=s2.inv h1
    have s3:=ist.1 _ h3
    have h4:=s3.inv h3
    have hm:=((jc3 h1 (St.txt s1 ht)).pre (jbx r)).seq (ib (jaS r.inc).1 h3 (St.txt s2 (St.txt s1 ht)) (by have:=s2.rem;omega)) (jeB s3)
    split
    ·rename_i hx
     have hk:=Rd.is_kind hx
     have s5:=(Rd.st_inc h4 hk.2).1
     have hr5:=Rd.rem_inc h4 hk
     have h5:=s5.inv h4
     have s6:=ist.1 _ h5
     have m3:=(ib (jbd n (jaS r.inc).1).1.inc h5 (St.txt s5 (St.txt s3 (St.txt s2 (St.txt s1 ht)))) (by have:=s2.rem;have:=s3.rem;omega)).pre (jbx _)
     have he5:=fun e=>jeB s5 (jeB s6 e)
     exact jba _ _ _ _ fun e=>by
      obtain ⟨a1,a2,a3⟩:=hm (he5 e)
      obtain ⟨b1,b2⟩:=m3 e
      exact ⟨a1.trans b1,jvp (by rw [a1.kind b1 (by simp)];exact a2 _ (by simp)) (by rw [a1.kind b1 (by simp)];exact a3 _ (by simp)) (b2 _ (by simp)),by unfold isS;omega⟩
    ·exact jba _ _ _ _ fun e=>⟨(hm e).1,jyv ((hm e).2.1 _ (by simp)) ((hm e).2.2 _ (by simp)),by unfold isS;omega⟩
   split
   ·rename_i hw
    obtain ⟨h1,h2,s1⟩:=word _ (by decide) hw
    split
    ·have hm:=((Made.nil r.inc isE).pre (jbx r)).post (jaD _ (⟨#[59]⟩:ByteArray))
     exact jba _ _ _ _ fun e=>⟨(hm e).1,jiu (by omega) (by intro;omega) (by intro;omega) (by intro;omega),by unfold isS;omega⟩
    ·have hm:=((jc3 h1 (St.txt s1 ht)).pre (jbx r)).post (jaD _ (⟨#[59]⟩:ByteArray))
     exact jba _ _ _ _ fun e=>⟨(hm e).1,jjC (by omega) ((hm e).2 _ (by simp)),by unfold isS;omega⟩
   ·exact jqp h ht he _
theorem jrS {r:Rd} (h:r.Inv) (ht:jdG r.l):Made r (jgj r).1 [(jgj r).2] (fun k=>k=18):=(jq8 _).1 r h ht (by omega)
-- functions
structure FnOk (f:GFunc):Prop where
 ps:∀ p∈f.params,1≤p.ty∧p.ty≤4
 ret:0≤f.ret∧f.ret≤4
theorem jri (w:ByteArray):0≤jhf w∧jhf w≤4:=by
 unfold jhf
 repeat' split
 all_goals omega
theorem jiF (r:Rd):Still r (jbP r).1:=by
 unfold jbP
 split
 ·exact jef r (by decide)
 ·exact jbx r
theorem joo {r:Rd} (he:(jbP r).1.e=0):1≤(jbP r).2∧(jbP r).2≤4:=by
 unfold jbP at he ⊢
 split
 ·rename_i h
  rw [if_pos h] at he
  exact (Rd.fails_e (by decide) he).elim
 ·have:=jri r.word
  simp only
  omega
theorem jlu:∀ (n:Nat) (b:Bool) (r:Rd) (L:List GParam),Still r (jca n b r L).1∧((jca n b r L).1.e=0→(∀ p∈L,1≤p.ty∧p.ty≤4)→∀ p∈(jca n b r L).2,1≤p.ty∧p.ty≤4)
 | 0,_,r,L=>by unfold jca;exact ⟨.refl r,fun _ h=>h⟩
 | n+1,false,r,L=>by unfold jca;exact ⟨.refl r,fun _ h=>h⟩
 | n+1,true,r,L=>by
  have st:Still r (jez r):=(jdd r).trans (jiF _)
  have hL:(jez r).e=0→(∀ p∈L,1≤p.ty∧p.ty≤4)→∀ p∈L++[⟨r.name.2,(jbP r.name.1).2⟩],1≤p.ty∧p.ty≤4:=fun e h p hp=>by
   rcases List.mem_append.1 hp with hp | hp
   ·exact h p hp
   ·rw [List.mem_singleton.1 hp];exact joo e
  unfold jca
  split
  ·obtain ⟨a,b⟩:=jlu n true (jez r).inc (L++[⟨r.name.2,(jbP r.name.1).2⟩])
   exact ⟨st.trans ((jbx _).trans a),fun e h=>b e (hL (a.err e) h)⟩
  ·exact ⟨st,hL⟩
theorem jxQ {r:Rd} (h:r.Inv) (ht:jdG r.l):Made r (fnF r).1 [(fnF r).2.body] (fun k=>k=18)∧((fnF r).1.e=0→FnOk (fnF r).2):=by
 have h1:=(je9 h).1.inv h
 have h2:=(jnr h).inv h1
 obtain ⟨a,b⟩:=jlu ((fnA r).rem+2) (more (fnA r)) (fnA r) []
 have stA:Still r (fnA r):=((jaD r (⟨#[102,110]⟩:ByteArray)).trans (jdd _)).trans (jaD _ _)
 have stC:Still r (fnC r):=(stA.trans a).trans (jaD _ _)
 have stD:Still (fnC r) (fnD r).1:=by
  unfold fnD
  split
  ·exact .refl _
  ·exact jiF _
 have hb:=jrS h2 (by rw [(stC.trans stD).l];exact ht)
 refine ⟨hb.pre (stC.trans stD),fun e=>?_⟩
 have e2:(fnD r).1.e=0:=jeB (jjP h2) e
 have e1:(fnC r).e=0:=stD.err e2
 have e0:(fnB r).1.e=0:=(jaD _ _).err e1
 refine ⟨b e0 (fun p hp=>by simp at hp),?_⟩
 show 0≤(fnD r).2∧(fnD r).2≤4
 unfold fnD at e2 ⊢
 split
 ·simp
 ·rename_i hc
  rw [if_neg hc] at e2
  have:=joo e2
  omega
theorem jpX:∀ (n:Nat) (r0 r:Rd) (L:List GFunc),r.Inv→jdG r.l→Made r0 r (L.map (·.body)) (fun k=>k=18)→(r.e=0→∀ f∈L,FnOk f)→
  Made r0 (jrx n r L).1 ((jrx n r L).2.map (·.body)) (fun k=>k=18)∧((jrx n r L).1.e=0→∀ f∈(jrx n r L).2,FnOk f)
 | 0,r0,r,L,h,ht,hm,hf=>by unfold jrx;exact ⟨hm,hf⟩
 | n+1,r0,r,L,h,ht,hm,hf=>by
  unfold jrx
  split
  ·have s1:=(jtA h).1
   obtain ⟨a,b⟩:=jxQ h ht
   refine jpX n r0 _ _ (s1.inv h) (St.txt s1 ht) ?_ fun e f hf'=>?_
   ·rw [List.map_append]
    exact hm.both a (jeB s1)
   ·rcases List.mem_append.1 hf' with h' | h'
    ·exact hf (jeB s1 e) f h'
    ·rw [List.mem_singleton.1 h'];exact b e
  ·exact ⟨hm,hf⟩
structure TreeOk (t:GTree):Prop where
 chain:Chain t.nodes 0 (t.fns.map (·.body)) t.nodes.length
 shape:∀ k,k < t.nodes.length→Shape t.nodes (nth t.nodes k)∧(∀ a∈(nth t.nodes k).l,0≤a∧a.toNat < k)∧∃ lo,Chain t.nodes lo (nth t.nodes k).l k
 body:∀ f∈t.fns,jan t.nodes f.body=18
 fn:∀ f∈t.fns,FnOk f∧f.params.length≤3
 many:t.nodes.length≤300
 fns:t.fns.length≤6
theorem jpd {s:ByteArray} {a:Nat} (h:(jgM s a).2.2=0):(jgM s a).1.size≤12:=by
 unfold jgM at h ⊢
 simp only at h ⊢
 split at h<;>rename_i h1
 ·rw [if_pos h1]
  split at h<;>rename_i h2
  ·cases h
  ·rw [if_neg h2]
   simp only [ByteArray.size_extract]
   omega
 ·cases h
theorem jvJ {s:ByteArray} {a:Nat} (h:(jby s a).2.2=0) (hk:(jby s a).1.kind=2):(jby s a).1.text.size≤12:=by
 unfold jby at h hk ⊢
 split at h<;>rename_i h1
 ·rw [if_pos h1] at hk ⊢
  split at h<;>rename_i h2
  ·rw [if_pos h2] at hk;cases hk
  ·cases h
 rw [if_neg h1] at hk ⊢
 split at h<;>rename_i h2
 ·rw [if_pos h2] at hk ⊢
  split at h<;>rename_i h3
  ·rw [if_pos h3] at hk;cases hk
  ·rw [if_neg h3] at hk ⊢
   split at h<;>rename_i h4
   ·cases h
   ·rw [if_neg h4] at hk;cases hk
 rw [if_neg h2] at hk ⊢
 split at h<;>rename_i h3
 ·rw [if_pos h3] at hk ⊢
  exact jpd h
 ·rw [if_neg h3] at hk
  split at h<;>rename_i h4
  ·cases h
  ·rw [if_neg h4] at hk;cases hk
theorem jnF (s:ByteArray):∀ (n i:Nat) (out:List GToken),(jke s n i out).2.2=0→(∀ t∈out,t.kind=2→t.text.size≤12)→∀ t∈(jke s n i out).1,t.kind=2→t.text.size≤12
 | 0,i,out,he,ho=>by unfold jke;exact ho
 | n+1,i,out,he,ho=>by
  unfold jke at he ⊢
  split at he<;>rename_i hi
  ·rw [if_pos hi]
   split at he<;>rename_i h3
   ·rw [if_pos h3]
    refine jnF s n _ _ he fun t ht=>?_
    rcases List.mem_append.1 ht with ht | ht
    ·exact ho t ht
    ·rw [List.mem_singleton.1 ht];exact jvJ h3
   ·exact (h3 he).elim
  ·rw [if_neg hi]
   intro t ht
   rcases List.mem_append.1 ht with ht | ht
   ·exact ho t ht
   ·rw [List.mem_singleton.1 ht];intro h;cases h
theorem joQ {s:ByteArray} (he:(jcf s).2.2=0):jdG (rd0 s).l:=by
 have:∀ t∈(jcf s).1,t.kind=2→t.text.size≤12:=by
  unfold jcf at he ⊢
  split at he<;>rename_i h
  ·cases he
  ·rw [if_neg h]
   exact jnF s _ _ _ he (fun t ht=>by simp at ht)
 intro k hk
 exact this _ (jaP hk)
theorem jnX {s:ByteArray} (h:(jaR s).2.2=0):TreeOk (jaR s).1:=by
 unfold jaR at h ⊢
 split at h<;>rename_i h1
 ·exact (h1 h).elim
 rw [if_neg h1]
 split at h<;>rename_i h2
 ·exact (h2 h).elim
 rw [if_neg h2]
 split at h<;>rename_i h3
 ·cases h
 rw [if_neg h3]
 have he:(jcf s).2.2=0:=by omega
 have hf:(jdt s).1.e=0:=by omega
 obtain ⟨a,b⟩:=jpX ((rd0 s).rem+1) (rd0 s) (rd0 s) [] (jqP he) (joQ he) (Made.nil _ _) (fun _ f hf=>by simp at hf)
 obtain ⟨a1,a2⟩:=a hf
 simp only [jui,Bool.or_eq_true,decide_eq_true_eq,not_or,List.any_eq_true,not_exists,not_and] at h3
 refine ⟨a1.chain,fun k hk=>a1.shape k (Nat.zero_le _) hk,fun f hf=>a2 _ (List.mem_map.2 ⟨f,hf,rfl⟩),fun f hff=>⟨b hf f hff,by have:=h3.2 f hff;omega⟩,by show (jdt s).1.nodes.length≤300;omega,by show (jdt s).2.length≤6;omega⟩
structure Ck where
 tree:GTree
 types:List Int
 slots:List Int
 fns:List Int
 size_:List Int
 fn:Int
 vars:List GVar
 more:List GVar
 size:Int
 e:Int
 at_:Int
 deriving Inhabited
def jcR {α:Type} (f:α→ByteArray) (name:ByteArray):List α→Int→Int
 | [],_=>-1
 | v::l,i=>if f v=name then i else jcR f name l (i+1)
def jdh {α:Type} (f:α→ByteArray) (name:ByteArray):List α→Int→Int→Int
 | [],_,k=>k
 | v::l,i,k=>jdh f name l (i+1) (if f v=name then i else k)
def jgT (sign:ByteArray) (a b:Int):Int:=
 if a≠b then 0
 else if sign=(⟨#[124,124]⟩:ByteArray)∨sign=(⟨#[38,38]⟩:ByteArray) then (if a=2 then 2 else 0)
 else if sign=(⟨#[60]⟩:ByteArray)∨sign=(⟨#[60,61]⟩:ByteArray) then (if a=1 then 2 else 0)
 else if sign=(⟨#[61,61]⟩:ByteArray)∨sign=(⟨#[33,61]⟩:ByteArray) then (if a=1∨a=2∨a=3 then 2 else 0)
 else if sign=(⟨#[43]⟩:ByteArray) then (if a=1∨a=3 then a else 0)
 else (if a=1 then 1 else 0)
namespace Ck
def node (c:Ck) (a:Int):GNode:=nth c.tree.nodes a.toNat
def kid (c:Ck) (a:Int) (i:Nat):Int:=nth (c.node a).l i
def fails (c:Ck) (e a:Int):Ck:=if c.e=0 then { c with e:=e,at_:=a } else c
def must (c:Ck) (ok:Bool) (a:Int):Ck:=if ok=true then c else c.fails 42 a
def find (c:Ck) (name:ByteArray):Int:=jcR GVar.name name c.vars 0
def slot (c:Ck) (a s:Int):Ck:={ c with slots:=c.slots.set a.toNat s }
def named (c:Ck) (a:Int):Ck×Int:=
 if c.find (c.node a).name < 0 then (c.fails 40 a,0)
 else (c.slot a (nth c.vars (c.find (c.node a).name).toNat).slot,(nth c.vars (c.find (c.node a).name).toNat).ty)
def note (c:Ck) (a t:Int):Ck:={ c with types:=c.types.set a.toNat t,fns:=c.fns.set a.toNat c.fn }
def noteF (c:Ck) (a:Int):Ck:={ c with fns:=c.fns.set a.toNat c.fn }
end Ck
def jcu (ex:Ck→Int→Ck×Int):Ck→List Int→List Int→Ck×List Int
 | c,[],ts=>(c,ts)
 | c,a::l,ts=>if c.e=0 then jcu ex (ex c a).1 l (ts++[(ex c a).2]) else (c,ts)
def jbV (a:Int):Ck→List Int→List GParam→Ck
 | c,t::ts,p::ps=>if c.e=0 then jbV a (c.must (decide (t=p.ty)) a) ts ps else c
 | c,_,_=>c
def jaG (c:Ck) (a:Int):Int:=jdh GFunc.name (c.node a).name c.tree.fns 0 (-1)
def jdo (ex:Ck→Int→Ck×Int) (c:Ck) (a:Int):Ck×Int:=
 if jaG c a < 0 then (c.fails 40 a,0)
 else
  let f:=nth c.tree.fns (jaG c a).toNat
  let p:=jcu ex c (c.node a).l []
  let c1:=if (c.node a).l.length≠f.params.length then p.1.fails 43 a else p.1
  (jbV a c1 p.2 f.params,f.ret)
def jap (ex:Ck→Int→Ck×Int) (c:Ck) (a:Int):Ck×Int:=
 let k:=(c.node a).kind
 if k=1∨k=19 then (c,1)
 else if k=2 then (c,2)
 else if k=3 then (c,3)
 else if k=4 then c.named a
 else if k=21 then jdo ex c a
 else if k=5 then
  let p:=c.named a
  let x:=ex p.1 (c.kid a 0)
  (x.1.must (decide (p.2=4) && decide (x.2=1)) a,1)
 else if k=9 then
  let x:=ex c (c.kid a 0)
  let y:=ex x.1 (c.kid a 1)
  let t:=jgT (c.node a).name x.2 y.2
  (y.1.must (!decide (t=0)) a,t)
 else
  let x:=ex c (c.kid a 0)
  if k=6 then (x.1.must (decide (x.2=3) || decide (x.2=4)) a,1)
  else if k=7 then (x.1.must (decide (x.2=1)) a,1)
  else if k=8 then (x.1.must (decide (x.2=2)) a,2)
  else (x.1.must (decide (x.2=1)) a,4)
def jae:Nat→Ck→Int→Ck×Int
 | 0,c,_=>(c,0)
 | n+1,c,a=>if c.e≠0 then (c,0) else ((jap (jae n) c a).1.note a (jap (jae n) c a).2,(jap (jae n) c a).2)
def jrB (ex:Ck→Int→Ck×Int) (c:Ck) (a:Int):Ck:=
 let x:=ex c (c.kid a 0)
 let c1:=x.1.must (!decide (x.2=0)) a
 let c2:=if 0≤c1.find (c.node a).name then c1.fails 41 a else c1
 let c3:=if 24≤c2.size then c2.fails 4 a else c2
 { (c3.slot a c3.size) with vars:=c3.vars++[⟨(c.node a).name,x.2,c3.size⟩],more:=c3.more.drop 1,size:=c3.size+1 }
def jbD (ex:Ck→Int→Ck×Int) (c:Ck) (a:Int):Ck:=
 let ret:=(nth c.tree.fns c.fn.toNat).ret
 let l:=(c.node a).l
 if decide (l.length=1)≠(!decide (ret=0)) then c.fails 43 a
 else if l.length=1 then
  let x:=ex c (c.kid a 0)
  x.1.must (decide (x.2=ret)) a
 else c
def jaI (st:Ck→Int→Ck):Ck→List Int→Ck
 | c,[]=>c
 | c,a::l=>if c.e=0 then jaI st (st c a) l else c
def ja0 (st:Ck→Int→Ck) (c:Ck) (a:Int):Ck:=
 let c1:=jaI st (c.noteF a) (c.node a).l
 { c1 with vars:=c1.vars.take (min c.vars.length c1.vars.length),more:=c1.vars.drop (min c.vars.length c1.vars.length)++c1.more }
def jaf:Nat→Ck→Int→Ck
 | 0,c,_=>c
 | n+1,c0,a=>
  let c:=c0.noteF a
  let k:=(c.node a).kind
  if k=10 then jrB (jae n) c a
  else if k=11 then
   let p:=c.named a
   let x:=jae n p.1 (c.kid a 0)
   x.1.must (decide (p.2=x.2)) a
  else if k=12 then
   let p:=c.named a
   let x:=jae n p.1 (c.kid a 0)
   let y:=jae n x.1 (c.kid a 1)
   y.1.must (decide (p.2=4) && decide (x.2=1) && decide (y.2=1)) a
  else if k=13 then (jae n c (c.kid a 0)).1
  else if k=14 then
   let x:=jae n c (c.kid a 0)
   x.1.must (!decide (x.2=4)) a
  else if k=17 then jbD (jae n) c a
  else
   let x:=jae n c (c.kid a 0)
   jaI (ja0 (jaf n)) (x.1.must (decide (x.2=2)) a) ((c.node a).l.drop 1)
def jaQ (body:Int):Ck→List GParam→Int→Ck
 | c,[],_=>c
 | c,p::ps,i=>
  let c1:=if 0≤c.find p.name then c.fails 41 body else c
  jaQ body { c1 with vars:=c1.vars++[⟨p.name,p.ty,i⟩],more:=c1.more.drop 1,size:=c1.size+1 } ps (i+1)
def jaF (c:Ck) (k:Nat):Ck:=
 let f:=nth c.tree.fns k
 let c1:=jaQ f.body { c with fn:=k,vars:=[],more:=[],size:=0 } f.params 0
 let c2:=if c1.e=0 then ja0 (jaf c.tree.nodes.length) c1 f.body else c1
 { c2 with size_:=c2.size_++[c2.size],vars:=[],more:=[] }
def jdl (x:GFunc):Ck→List GFunc→Ck
 | c,[]=>c
 | c,f::l=>jdl x (if f.name=x.name then c.fails 41 x.body else c) l
def jjn (f:GFunc):Bool:=decide (f.name=(⟨#[109,97,105,110]⟩:ByteArray)) && decide ((f.params.length:Int)=0) && decide (f.ret=0)
def jcS (fns:List GFunc):Ck→Bool→Nat→Nat→Ck×Bool
 | c,m,_,0=>(c,m)
 | c,m,i,n+1=>jcS fns (jdl (nth fns i) c (fns.take i)) (m || jjn (nth fns i)) (i+1) n
def jcp (c:Ck):Ck:=
 let p:=jcS c.tree.fns c false 0 c.tree.fns.length
 if p.2=true then p.1 else p.1.fails 44 0
def jaz:Ck→Nat→Nat→Ck
 | c,_,0=>c
 | c,i,n+1=>if c.e=0 then jaz (jaF c i) (i+1) n else c
def ck0 (t:GTree):Ck:=⟨t,t.nodes.map fun _=>0,t.nodes.map fun _=>-1,t.nodes.map fun _=>0,[],0,[],[],0,0,0⟩
def jcQ (t:GTree):Ck:=jaz (jcp (ck0 t)) 0 t.fns.length
def jdW:GProg:=⟨⟨[],[]⟩,[],[],[],[]⟩
def Ck.prog (c:Ck):GProg:=⟨c.tree,c.types,c.slots,c.fns,c.size_⟩
def ja4 (t:GTree):GProg×Int×Int:=if (jcQ t).e≠0 then (jdW,(jcQ t).at_,(jcQ t).e) else ((jcQ t).prog,0,0)
def jbO (s:ByteArray):GProg×Int×Int:=
 if (jaR s).2.2≠0 then (jdW,(jaR s).2.1,(jaR s).2.2)
 else
  let q:=ja4 (jaR s).1
  if q.2.2=44 then (jdW,0,44)
  else if q.2.2≠0 then (jdW,(nth (jaR s).1.nodes q.2.1.toNat).line,q.2.2)
  else (q.1,0,0)
def jgh (slots:List GValue) (k t:Int):GValue:=
 if k < 0∨(slots.length:Int)≤k then vZ t
 else if jl1 (nth slots k.toNat)=true∧(nth slots k.toNat).ty=t then nth slots k.toNat else vZ t
def jb2 (heap:List (List Int)) (v:GValue):List Int:=if v.ty≠4∨v.n < 1∨(heap.length:Int) < v.n then [] else nth heap (v.n - 1).toNat
def isX (n:GNode):Bool:=decide (1≤n.kind) && decide (n.kind≤9)
def jaY (p:GProg) (slots:List GValue) (heap:List (List Int)):Nat→Int→GValue×Int
 | 0,_=>(v0,0)
 | n+1,a=>
  let nd:=nth p.tree.nodes a.toNat
  let x:=jaY p slots heap n (nth nd.l 0)
  let y:=jaY p slots heap n (nth nd.l 1)
  if nd.kind=1 then (vI nd.n,0)
  else if nd.kind=2 then (vB (decide (nd.n=1)),0)
  else if nd.kind=3 then (vT nd.name,0)
  else if nd.kind=4 then (jgh slots (nth p.slots a.toNat) (nth p.types a.toNat),0)
  else if x.2≠0 then (v0,x.2)
  else if nd.kind=5 then
   (if x.1.n < 0∨((jb2 heap (jgh slots (nth p.slots a.toNat) 4)).length:Int)≤x.1.n then (v0,2) else (vI (nth (jb2 heap (jgh slots (nth p.slots a.toNat) 4)) x.1.n.toNat),0))
  else if nd.kind=9 then
   (if (nd.name=(⟨#[124,124]⟩:ByteArray)∧x.1.n=1)∨(nd.name=(⟨#[38,38]⟩:ByteArray)∧x.1.n=0) then (x.1,0)
   else if y.2≠0 then (v0,y.2) else jjf nd.name x.1 y.1)
  else if nd.kind=6 then (if x.1.ty=3 then (vI x.1.s.size,0) else (vI (jb2 heap x.1).length,0))
  else if nd.kind=7 then (jem (⟨#[45]⟩:ByteArray) x.1,0)
  else (jem (⟨#[33]⟩:ByteArray) x.1,0)
end Go.Gd
