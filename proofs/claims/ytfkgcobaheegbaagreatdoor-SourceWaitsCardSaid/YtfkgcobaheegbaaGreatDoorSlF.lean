/- The plain law of the document's checker: which slots are noted. The plain law of the document's checker: which slots are noted, by statements and functions. The plain law of the document's checker: functions, their slots and their names. No conditions. -/
import Derived.Test.YtfkgcobaheegbaaGreatDoorTyF
set_option linter.all false
namespace Go.Proofs.YtfkgcobaheegbaaGreatDoor
open Go Go.Gd
def jd7 (k:Int):Prop:=k=4∨k=5∨k=10∨k=11∨k=12
def VarsS (c:Ck):Prop:=0≤c.size∧∀ v∈c.vars,0≤v.slot∧v.slot < c.size
structure SlR (t:GTree) (lo hi:Nat) (c c':Ck):Prop where
 sw:∀ k,(k < lo∨hi≤k)→nth c'.slots k=nth c.slots k
 all:∀ k,lo≤k→k < hi→jd7 (nth t.nodes k).kind→0≤nth c'.slots k∧nth c'.slots k < c'.size
 size:c.size≤c'.size
theorem SlR.post {t:GTree} {lo hi:Nat} {a b c:Ck} (h:SlR t lo hi a b) (e:c.slots=b.slots) (z:c.size=b.size):SlR t lo hi a c:=⟨fun k hk=>by rw [e];exact h.sw k hk,fun k h1 h2 h3=>by rw [e,z];exact h.all k h1 h2 h3,by rw [z];exact h.size⟩
theorem SlR.pre {t:GTree} {lo hi:Nat} {a b c:Ck} (e:b.slots=a.slots) (z:b.size=a.size) (h:SlR t lo hi b c):SlR t lo hi a c:=⟨fun k hk=>by rw [← e];exact h.sw k hk,h.all,by rw [← z];exact h.size⟩
theorem SlR.refl (t:GTree) (lo:Nat) (c:Ck):SlR t lo lo c c:=⟨fun _ _=>rfl,fun k h1 h2=>by omega,Int.le_refl _⟩
theorem SlR.seq {t:GTree} {lo mid hi:Nat} {a b c:Ck} (h0:lo≤mid) (h1:mid≤hi) (h:SlR t lo mid a b) (k:SlR t mid hi b c):SlR t lo hi a c:=by
 have:=k.size
 refine ⟨fun i hi'=>(k.sw i (by omega)).trans (h.sw i (by omega)),fun i g1 g2 g3=>?_,by have:=h.size;omega⟩
 by_cases e:i < mid
 ·rw [k.sw i (.inl e)]
  have:=h.all i g1 e g3
  omega
 ·exact k.all i (by omega) g2 g3
theorem SlR.node {t:GTree} {lo n:Nat} {c c':Ck} (h:SlR t lo n c c') (hn:jd7 (nth t.nodes n).kind→0≤nth c'.slots n∧nth c'.slots n < c'.size):SlR t lo (n+1) c c':=
 ⟨fun k hk=>h.sw k (by omega),fun k h1 h2 h3=>by
  by_cases e:k < n
  ·exact h.all k h1 e h3
  ·have:k=n:=by omega
   subst this
   exact hn h3,h.size⟩
theorem jh0 (c:Ck) (e a:Int):(c.fails e a).slots=c.slots∧(c.fails e a).size=c.size:=by unfold Ck.fails;split<;>exact ⟨rfl,rfl⟩
theorem jdc (c:Ck) (b:Bool) (a:Int):(c.must b a).slots=c.slots∧(c.must b a).size=c.size:=by unfold Ck.must;split;exact ⟨rfl,rfl⟩;exact jh0 _ _ _
theorem SlR.must {t:GTree} {lo hi:Nat} {a c:Ck} {b:Bool} {x:Int} (h:SlR t lo hi a c):SlR t lo hi a (c.must b x):=h.post (jdc c b x).1 (jdc c b x).2
theorem VarsS.ev {c c':Ck} (h:VarsS c) (s:Ev c c'):VarsS c':=by unfold VarsS;rw [s.vars,s.size];exact h
theorem jgz {c:Ck} (h:VarsS c) {a:Int} {n:Nat} (hn:a.toNat=n) (hl:n < c.slots.length) (he:(c.named a).1.e=0):(∀ k,k≠n→nth (c.named a).1.slots k=nth c.slots k)∧0≤nth (c.named a).1.slots n∧nth (c.named a).1.slots n < c.size:=by
 unfold Ck.named at he ⊢
 split
 ·rename_i hf
  rw [if_pos hf] at he
  exact (jcK (by decide) he).elim
 ·rename_i hf
  have hv:nth c.vars (c.find (c.node a).name).toNat∈c.vars:=by
   rcases jj6 GVar.name (c.node a).name c.vars 0 (by omega) with ⟨h1,_⟩ | h1
   ·exact (hf (by show jcR GVar.name (c.node a).name c.vars 0 < 0;rw [h1];decide)).elim
   ·exact jaP (by show (jcR GVar.name (c.node a).name c.vars 0).toNat < _;omega)
  have hs:∀ k,nth (c.slot a (nth c.vars (c.find (c.node a).name).toNat).slot).slots k=if n=k∧k < c.slots.length then (nth c.vars (c.find (c.node a).name).toNat).slot else nth c.slots k:=fun k=>by
   show nth (c.slots.set a.toNat _) k=_
   rw [jig,hn]
  refine ⟨fun k hk=>by show nth (c.slot a _).slots k=_;rw [hs,if_neg (by omega)],?_⟩
  show 0≤nth (c.slot a _).slots n∧nth (c.slot a _).slots n < _
  rw [hs,if_pos ⟨rfl,hl⟩]
  exact h.2 _ hv
def ExS (t:GTree) (n:Nat):Prop:=∀ (c:Ck) (a:Int) (lo:Nat),CkIn c→c.tree=t→VarsS c→0≤a→a < t.nodes.length→a.toNat < n→isR (jan t.nodes a)→Chain t.nodes lo (nth t.nodes a.toNat).l a.toNat→(jae n c a).1.e=0→SlR t lo (a.toNat+1) c (jae n c a).1
theorem jqV {t:GTree} {n:Nat} (hx:ExS t n):∀ (L:List Int) (c:Ck) (ts:List Int) (lo hi:Nat),CkIn c→c.tree=t→VarsS c→hi≤n→(∀ x∈L,isR (jan t.nodes x))→Chain t.nodes lo L hi→(jcu (jae n) c L ts).1.e=0→SlR t lo hi c (jcu (jae n) c L ts).1
 | [],c,ts,lo,hi,h,hc,hv,hn,hr,hch,he=>by
  cases hch
  unfold jcu
  exact .refl _ _ _
 | a::L,c,ts,lo,hi,h,hc,hv,hn,hr,hch,he=>by
  have e0:=(jfi (jaA n) (a::L) c ts).e0 he
  unfold jcu at he ⊢
  rw [if_pos e0] at he ⊢
  obtain ⟨c1,c2,c3,c4,c5,c6⟩:=jei hch
  have ev:=jaA n c a
  have e1:=(jfi (jaA n) L _ _).e0 he
  have r1:=hx c a lo h hc hv c1 c2 (by omega) (hr a (by simp)) c5 e1
  exact r1.seq (by omega) (by omega) (jqV hx L _ _ _ hi (h.ev ev) (ev.tree.trans hc) (hv.ev ev) hn (fun x hx=>hr x (by simp [hx])) c6 he)
theorem jiK (a:Int):∀ (ts:List Int) (ps:List GParam) (c:Ck),(jbV a c ts ps).slots=c.slots∧(jbV a c ts ps).size=c.size
 | [],ps,c=>by rw [jd2];exact ⟨rfl,rfl⟩
 | _::_,[],c=>by rw [jd3];exact ⟨rfl,rfl⟩
 | x::ts,p::ps,c=>by
  unfold jbV
  split
  ·have:=jiK a ts ps (c.must (decide (x=p.ty)) a)
   exact ⟨this.1.trans (jdc _ _ _).1,this.2.trans (jdc _ _ _).2⟩
  ·exact ⟨rfl,rfl⟩
theorem jiv {t:GTree} (ht:TreeOk t):∀ n,ExS t n
 | 0=>fun c a lo h hc hv h0 h1 hn=>by omega
 | n+1=>fun c a lo h hc hv h0 h1 hn hr hch he=>by
  have hx:=jiv ht n
  have e0:=(jaA (n+1) c a).e0 he
  unfold jae at he ⊢
  rw [if_neg (by omega)] at he ⊢
  simp only at he ⊢
  have he:(jap (jae n) c a).1.e=0:=he
  have hnode:c.node a=nth t.nodes a.toNat:=by unfold Ck.node;rw [hc]
  have sh:=(ht.shape a.toNat (by omega)).1
  suffices hs:SlR t lo (a.toNat+1) c (jap (jae n) c a).1 from hs.post rfl rfl
  have hlo:=hch.le
  have leaf:(nth t.nodes a.toNat).l=[]→SlR t lo a.toNat c c:=fun hl=>by
   rw [hl] at hch
   have:lo=a.toNat:=by cases hch;rfl
   subst this
   exact .refl _ _ _
  have kid1:∀ x,(nth t.nodes a.toNat).l=[x]→isR (jan t.nodes x)→(jae n c x).1.e=0→SlR t lo a.toNat c (jae n c x).1:=fun x hl hxr hxe=>by
   rw [hl] at hch
   obtain ⟨c1,c2,c3,c4,c5⟩:=jfE hch
   rw [c4]
   exact hx c x lo h hc hv c1 c2 (by omega) hxr c5 hxe
  have kd:∀ i,c.kid a i=nth (nth t.nodes a.toNat).l i:=fun i=>by unfold Ck.kid;rw [hnode]
  have hkr:(nth t.nodes a.toNat).kind=1∨(nth t.nodes a.toNat).kind=2∨(nth t.nodes a.toNat).kind=3∨(nth t.nodes a.toNat).kind=4∨(nth t.nodes a.toNat).kind=5∨(nth t.nodes a.toNat).kind=6∨(nth t.nodes a.toNat).kind=7∨(nth t.nodes a.toNat).kind=8∨(nth t.nodes a.toNat).kind=9∨(nth t.nodes a.toNat).kind=19∨(nth t.nodes a.toNat).kind=20∨(nth t.nodes a.toNat).kind=21:=by
   have:isR (nth t.nodes a.toNat).kind:=hr
   unfold isR isE at this
   omega
  have hno:∀ {q:Prop},¬ ((nth t.nodes a.toNat).kind=4∨(nth t.nodes a.toNat).kind=5)→jd7 (nth t.nodes a.toNat).kind→q:=fun h1 h2=>by
   unfold jd7 at h2
   have:isR (nth t.nodes a.toNat).kind:=hr
   unfold isR isE at this
   omega
  have hsl:a.toNat < c.slots.length:=by rw [h.slots,hc];omega
  rcases hkr with k | k | k | k | k | k | k | k | k | k | k | k
  ·have e:jap (jae n) c a=(c,1):=by unfold jap;simp only;rw [hnode,k];rfl
   rw [e];exact (leaf (sh.zero (by omega))).node (hno (by omega))
  ·have e:jap (jae n) c a=(c,2):=by unfold jap;simp only;rw [hnode,k];rfl
   rw [e];exact (leaf (sh.zero (by omega))).node (hno (by omega))
  ·have e:jap (jae n) c a=(c,3):=by unfold jap;simp only;rw [hnode,k];rfl
   rw [e];exact (leaf (sh.zero (by omega))).node (hno (by omega))
  ·have e:jap (jae n) c a=c.named a:=by unfold jap;simp only;rw [hnode,k];rfl
   rw [e] at he ⊢
   obtain ⟨g1,g2⟩:=jgz hv rfl hsl he
   have hz:=(jb0 c a).size
   have hl:=sh.zero (by omega)
   rw [hl] at hch
   have:lo=a.toNat:=by cases hch;rfl
   subst this
   exact ⟨fun k hk=>g1 k (by omega),fun k h1 h2 _=>by
    have:k=a.toNat:=by omega
    subst this
    rw [hz];exact g2,by rw [hz];exact Int.le_refl _⟩
  ·have e:jap (jae n) c a=((jae n (c.named a).1 (c.kid a 0)).1.must (decide ((c.named a).2=4) && decide ((jae n (c.named a).1 (c.kid a 0)).2=1)) a,1):=by unfold jap;simp only;rw [hnode,k];rfl
   obtain ⟨x,hl,hxe⟩:=sh.one (by omega)
   have hk0:c.kid a 0=x:=by rw [kd,hl];rfl
   rw [e] at he ⊢
   rw [hk0] at he ⊢
   obtain ⟨b1,b2⟩:=jbt he
   have en:=jb0 c a
   obtain ⟨g1,g2⟩:=jgz hv rfl hsl ((jaA n _ x).e0 b2)
   rw [hl] at hch
   obtain ⟨c1,c2,c3,c4,c5⟩:=jfE hch
   have r:=hx (c.named a).1 x lo (h.ev en) (en.tree.trans hc) (hv.ev en) c1 c2 (by omega) (.inl hxe) c5 b2
   have hz:=en.size
   have hrz:=r.size
   rw [← c4] at r
   refine SlR.must ⟨fun k hk=>(r.sw k (by omega)).trans (g1 k (by omega)),fun k h1 h2 h3=>?_,by omega⟩
   by_cases hka:k < a.toNat
   ·exact r.all k h1 hka h3
   ·have:k=a.toNat:=by omega
    subst this
    rw [r.sw _ (.inr (by omega))]
    omega
  ·have e:jap (jae n) c a=((jae n c (c.kid a 0)).1.must (decide ((jae n c (c.kid a 0)).2=3) || decide ((jae n c (c.kid a 0)).2=4)) a,1):=by unfold jap;simp only;rw [hnode,k];rfl
   obtain ⟨x,hl,hxe⟩:=sh.one (by omega)
   have hk0:c.kid a 0=x:=by rw [kd,hl];rfl
   rw [e] at he ⊢
   rw [hk0] at he ⊢
   exact ((kid1 x hl (.inl hxe) (jbt he).2).must).node (hno (by omega))
  ·have e:jap (jae n) c a=((jae n c (c.kid a 0)).1.must (decide ((jae n c (c.kid a 0)).2=1)) a,1):=by unfold jap;simp only;rw [hnode,k];rfl
   obtain ⟨x,hl,hxe⟩:=sh.one (by omega)
   have hk0:c.kid a 0=x:=by rw [kd,hl];rfl
   rw [e] at he ⊢
   rw [hk0] at he ⊢
   exact ((kid1 x hl (.inl hxe) (jbt he).2).must).node (hno (by omega))
  ·have e:jap (jae n) c a=((jae n c (c.kid a 0)).1.must (decide ((jae n c (c.kid a 0)).2=2)) a,2):=by unfold jap;simp only;rw [hnode,k];rfl
   obtain ⟨x,hl,hxe⟩:=sh.one (by omega)
   have hk0:c.kid a 0=x:=by rw [kd,hl];rfl
   rw [e] at he ⊢
   rw [hk0] at he ⊢
   exact ((kid1 x hl (.inl hxe) (jbt he).2).must).node (hno (by omega))
  ·have e:jap (jae n) c a=((jae n (jae n c (c.kid a 0)).1 (c.kid a 1)).1.must (!decide (jgT (c.node a).name (jae n c (c.kid a 0)).2 (jae n (jae n c (c.kid a 0)).1 (c.kid a 1)).2=0)) a,jgT (c.node a).name (jae n c (c.kid a 0)).2 (jae n (jae n c (c.kid a 0)).1 (c.kid a 1)).2):=by unfold jap;simp only;rw [hnode,k];rfl
   obtain ⟨x,y,hl,hxe,hye⟩:=sh.two (by omega)
   have hk0:c.kid a 0=x:=by rw [kd,hl];rfl
   have hk1:c.kid a 1=y:=by rw [kd,hl];rfl
   rw [e] at he ⊢
   rw [hk0,hk1] at he ⊢
   obtain ⟨b1,b2⟩:=jbt he
   have ev:=jaA n c x
   rw [hl] at hch
   obtain ⟨c1,c2,c3,c4,c5,c6⟩:=jei hch
   obtain ⟨d1,d2,d3,d4,d5⟩:=jfE c6
   have r1:=hx c x lo h hc hv c1 c2 (by omega) (.inl hxe) c5 ((jaA n _ y).e0 b2)
   have r2:=hx (jae n c x).1 y (x.toNat+1) (h.ev ev) (ev.tree.trans hc) (hv.ev ev) d1 d2 (by omega) (.inl hye) d5 b2
   rw [← d4] at r2
   exact ((r1.seq (by omega) (by omega) r2).must).node (hno (by omega))
  ·have e:jap (jae n) c a=(c,1):=by unfold jap;simp only;rw [hnode,k];rfl
   rw [e];exact (leaf (sh.zero (by omega))).node (hno (by omega))
  ·have e:jap (jae n) c a=((jae n c (c.kid a 0)).1.must (decide ((jae n c (c.kid a 0)).2=1)) a,4):=by unfold jap;simp only;rw [hnode,k];rfl
   obtain ⟨x,hl,hxe⟩:=sh.one (by omega)
   have hk0:c.kid a 0=x:=by rw [kd,hl];rfl
   rw [e] at he ⊢
   rw [hk0] at he ⊢
   exact ((kid1 x hl (.inl hxe) (jbt he).2).must).node (hno (by omega))
  ·have e:jap (jae n) c a=jdo (jae n) c a:=by unfold jap;simp only;rw [hnode,k];rfl
   rw [e] at he ⊢
   have hcall:=sh.call k
   unfold jdo at he ⊢
   split at he
   ·exact (jcK (by decide) he).elim
   rename_i hf
   rw [if_neg hf]
   simp only at he ⊢
   have e1:=(jhx a _ _ _).e0 he
   split at e1
   ·exact (jcK (by decide) e1).elim
   rename_i hl
   rw [if_neg hl]
   have r:=jqV hx (c.node a).l c [] lo a.toNat h hc hv (by omega) (fun x hx'=>.inl (hcall x (by rw [← hnode];exact hx'))) (by rw [hnode];exact hch) e1
   have q:=jiK a (jcu (jae n) c (c.node a).l []).2 (nth c.tree.fns (jaG c a).toNat).params (jcu (jae n) c (c.node a).l []).1
   exact (r.post q.1 q.2).node (hno (by omega))
def StS (t:GTree) (n:Nat):Prop:=∀ (c:Ck) (a:Int) (lo:Nat),CkIn c→c.tree=t→VarsS c→c.e=0→0≤a→a < t.nodes.length→a.toNat < n→isS (jan t.nodes a)→Chain t.nodes lo (nth t.nodes a.toNat).l a.toNat→(jaf n c a).e=0→
 SlR t lo (a.toNat+1) c (jaf n c a)∧VarsS (jaf n c a)
theorem jkv {t:GTree} {st:Ck→Int→Ck} {C:Int→Prop} {n:Nat} (hs:∀ c a,CkIn c→c.e=0→Sv c (st c a))
  (hst:∀ (c:Ck) (a:Int) (lo:Nat),CkIn c→c.tree=t→VarsS c→c.e=0→0≤a→a < t.nodes.length→a.toNat < n→C (jan t.nodes a)→Chain t.nodes lo (nth t.nodes a.toNat).l a.toNat→(st c a).e=0→SlR t lo (a.toNat+1) c (st c a)∧VarsS (st c a)) :
  ∀ (L:List Int) (c:Ck) (lo hi:Nat),CkIn c→c.tree=t→VarsS c→hi≤n→(∀ x∈L,C (jan t.nodes x))→Chain t.nodes lo L hi→(jaI st c L).e=0→SlR t lo hi c (jaI st c L)∧VarsS (jaI st c L)
 | [],c,lo,hi,h,hc,hv,hn,hr,hch,he=>by
  cases hch
  unfold jaI
  exact ⟨.refl _ _ _,hv⟩
 | a::L,c,lo,hi,h,hc,hv,hn,hr,hch,he=>by
  have e0:=(jc8 hs (a::L) c h).e0 he
  unfold jaI at he ⊢
  rw [if_pos e0] at he ⊢
  obtain ⟨c1,c2,c3,c4,c5,c6⟩:=jei hch
  have s:=hs c a h e0
  have e1:=(jc8 hs L _ s.inv).e0 he
  obtain ⟨r1,v1⟩:=hst c a lo h hc hv e0 c1 c2 (by omega) (hr a (by simp)) c5 e1
  obtain ⟨r2,v2⟩:=jkv hs hst L _ _ hi s.inv (s.tree.trans hc) v1 hn (fun x hx=>hr x (by simp [hx])) c6 he
  exact ⟨r1.seq (by omega) (by omega) r2,v2⟩
theorem jod {t:GTree} (ht:TreeOk t) {n:Nat} (hst:StS t n) (c:Ck) (a:Int) (lo:Nat) (h:CkIn c) (hc:c.tree=t) (hv:VarsS c) (h0:0≤a) (h1:a < t.nodes.length) (hn:a.toNat≤n) (hk:jan t.nodes a=18) (hch:Chain t.nodes lo (nth t.nodes a.toNat).l a.toNat) (he:(ja0 (jaf n) c a).e=0) :
  SlR t lo (a.toNat+1) c (ja0 (jaf n) c a)∧VarsS (ja0 (jaf n) c a):=by
 have sv:=jcN (ja3 n) h a
 have hnode:c.node a=nth t.nodes a.toNat:=by unfold Ck.node;rw [hc]
 have hb:=(ht.shape a.toNat (by omega)).1.block hk
 have ev:=jc2 c a
 obtain ⟨r,_⟩:=jkv (ja3 n) (C:=isS) hst (c.node a).l (c.noteF a) lo a.toNat (h.ev ev) (ev.tree.trans hc) (hv.ev ev) hn (fun x hx=>hb x (by rw [← hnode];exact hx)) (by rw [hnode];exact hch) he
 have r:SlR t lo a.toNat c (ja0 (jaf n) c a):=SlR.post (b:=jaI (jaf n) (c.noteF a) (c.node a).l) (SlR.pre (a:=c) (b:=c.noteF a) rfl rfl r) rfl rfl
 have hk18:(nth t.nodes a.toNat).kind=18:=hk
 refine ⟨r.node (fun h=>by unfold jd7 at h;omega),?_⟩
 have hz:=r.size
 refine ⟨by have:=hv.1;omega,fun v hv'=>?_⟩
 rw [sv.2] at hv'
 have:=hv.2 v hv'
 omega
theorem jlK {t:GTree} (ht:TreeOk t) {n:Nat} {c0:Ck} {a x:Int} {lo:Nat} (h:CkIn c0) (hc:c0.tree=t) (hv:VarsS c0) (hn:a.toNat≤n) (hl:(nth t.nodes a.toNat).l=[x]) (hx:isR (jan t.nodes x)) (hch:Chain t.nodes lo (nth t.nodes a.toNat).l a.toNat) (he:(jae n c0 x).1.e=0) :
  SlR t lo a.toNat c0 (jae n c0 x).1:=by
 rw [hl] at hch
 obtain ⟨c1,c2,c3,c4,c5⟩:=jfE hch
 rw [c4]
 exact jiv ht n c0 x lo h hc hv c1 c2 (by omega) hx c5 he
theorem jyy {t:GTree} (ht:TreeOk t) {n:Nat} {c0:Ck} {a x y:Int} {lo:Nat} (h:CkIn c0) (hc:c0.tree=t) (hv:VarsS c0) (hn:a.toNat≤n) (hl:(nth t.nodes a.toNat).l=[x,y]) (hx:isE (jan t.nodes x)) (hy:isE (jan t.nodes y)) (hch:Chain t.nodes lo (nth t.nodes a.toNat).l a.toNat) (he:(jae n (jae n c0 x).1 y).1.e=0) :
  SlR t lo a.toNat c0 (jae n (jae n c0 x).1 y).1:=by
 rw [hl] at hch
 obtain ⟨c1,c2,c3,c4,c5,c6⟩:=jei hch
 obtain ⟨d1,d2,d3,d4,d5⟩:=jfE c6
 have ev:=jaA n c0 x
 have r1:=jiv ht n c0 x lo h hc hv c1 c2 (by omega) (.inl hx) c5 ((jaA n _ y).e0 he)
 have q1:=jiv ht n (jae n c0 x).1 y (x.toNat+1) (h.ev ev) (ev.tree.trans hc) (hv.ev ev) d1 d2 (by omega) (.inl hy) d5 he
 rw [d4]
 exact r1.seq (by omega) (by omega) q1
theorem joe {t:GTree} {lo:Nat} {c c':Ck} {a:Int} (h:CkIn c) (hc:c.tree=t) (hv:VarsS c) (h1:a < t.nodes.length) (h0:0≤a) (hlo:lo≤a.toNat) (he:(c.named a).1.e=0) (r:SlR t lo a.toNat (c.named a).1 c'):SlR t lo (a.toNat+1) c c':=by
 have hsl:a.toNat < c.slots.length:=by rw [h.slots,hc];omega
 obtain ⟨g1,g2⟩:=jgz hv rfl hsl he
 have hz:=(jb0 c a).size
 have hrz:=r.size
 refine ⟨fun k hk=>(r.sw k (by omega)).trans (g1 k (by omega)),fun k h1 h2 h3=>?_,by omega⟩
 by_cases hka:k < a.toNat
 ·exact r.all k h1 hka h3
 ·have:k=a.toNat:=by omega
  subst this
  rw [r.sw _ (.inr (by omega))]
  omega
theorem jqW {t:GTree} (ht:TreeOk t):∀ n,StS t n
 | 0=>fun c a lo h hc hv e0 h0 h1 hn=>by omega
 | n+1=>fun c a lo h hc hv e0 h0 h1 hn hr hch he=>by
  have hs:=jqW ht n
  have hnode:(c.noteF a).node a=nth t.nodes a.toNat:=by unfold Ck.node;show nth c.tree.nodes _=_;rw [hc]
  have sh:=(ht.shape a.toNat (by omega)).1
  have kd:∀ i,(c.noteF a).kid a i=nth (nth t.nodes a.toNat).l i:=fun i=>by unfold Ck.kid;rw [hnode]
  have ev:=jc2 c a
  have h':=h.ev ev
  have hc':=ev.tree.trans hc
  have hv':=hv.ev ev
  have hlo:=hch.le
  have kr:∀ {hi:Nat} {c':Ck},SlR t lo hi (c.noteF a) c'→SlR t lo hi c c':=fun r=>SlR.pre (a:=c) (b:=c.noteF a) rfl rfl r
  have hno:∀ {q:Prop},¬ ((nth t.nodes a.toNat).kind=10∨(nth t.nodes a.toNat).kind=11∨(nth t.nodes a.toNat).kind=12)→jd7 (nth t.nodes a.toNat).kind→q:=fun h1 h2=>by
   unfold jd7 at h2
   have:isS (nth t.nodes a.toNat).kind:=hr
   unfold isS at this
   omega
  have hkr:(nth t.nodes a.toNat).kind=10∨(nth t.nodes a.toNat).kind=11∨(nth t.nodes a.toNat).kind=12∨(nth t.nodes a.toNat).kind=13∨(nth t.nodes a.toNat).kind=14∨(nth t.nodes a.toNat).kind=17∨(nth t.nodes a.toNat).kind=15∨(nth t.nodes a.toNat).kind=16:=by
   have:isS (nth t.nodes a.toNat).kind:=hr
   unfold isS at this
   omega
  rcases hkr with k | k | k | k | k | k | k
  ·have e:jaf (n+1) c a=jrB (jae n) (c.noteF a) a:=by unfold jaf;simp only;rw [hnode,k];rfl
   obtain ⟨x,hl,hxr⟩:=sh.right (by omega)
   have hk0:(c.noteF a).kid a 0=x:=by rw [kd,hl];rfl
   rw [e] at he ⊢
   rw [jlf] at he ⊢
   have he:(jc6 (jae n) (c.noteF a) a).e=0:=he
   have hel:=jjY (jaA n) (c.noteF a) a
   have hin:=h'.ev hel
   have hvl:=hv'.ev hel
   obtain ⟨_,q1⟩:=jfM (by decide) he
   have q1:jc6 (jae n) (c.noteF a) a=jjp (jae n) (c.noteF a) a:=q1
   rw [q1] at he
   obtain ⟨_,q2⟩:=jfM (by decide) he
   have q2:jjp (jae n) (c.noteF a) a=jhA (jae n) (c.noteF a) a:=q2
   rw [q2] at he
   unfold jhA at he
   rw [hk0] at he
   obtain ⟨b1,b2⟩:=jbt he
   have r1:=(jlK ht h' hc' hv' (by omega) hl hxr hch b2)
   have hty:(jc6 (jae n) (c.noteF a) a).slots=(jae n (c.noteF a) x).1.slots:=by rw [q1,q2];unfold jhA;rw [hk0];exact (jdc _ _ _).1
   have hsz:(jc6 (jae n) (c.noteF a) a).size=(jae n (c.noteF a) x).1.size:=by rw [q1,q2];unfold jhA;rw [hk0];exact (jdc _ _ _).2
   have r2:=kr (r1.post hty hsz)
   have hsl:a.toNat < (jc6 (jae n) (c.noteF a) a).slots.length:=by rw [hin.slots,hel.tree,hc'];omega
   have h0z:=hvl.1
   have hs':∀ i,nth ((jc6 (jae n) (c.noteF a) a).slots.set a.toNat (jc6 (jae n) (c.noteF a) a).size) i=if a.toNat=i∧i < (jc6 (jae n) (c.noteF a) a).slots.length then (jc6 (jae n) (c.noteF a) a).size else nth (jc6 (jae n) (c.noteF a) a).slots i:=fun i=>jig _ _ _ _
   refine ⟨⟨fun i hi=>?_,fun i h1 h2 h3=>?_,?_⟩,?_,fun v hv2=>?_⟩
   ·show nth ((jc6 (jae n) (c.noteF a) a).slots.set a.toNat _) i=_
    rw [hs',if_neg (by omega)]
    exact r2.sw i (by omega)
   ·show 0≤nth ((jc6 (jae n) (c.noteF a) a).slots.set a.toNat _) i∧nth ((jc6 (jae n) (c.noteF a) a).slots.set a.toNat _) i < (jc6 (jae n) (c.noteF a) a).size+1
    rw [hs']
    by_cases hia:i < a.toNat
    ·rw [if_neg (by omega)]
     have:=r2.all i h1 hia h3
     omega
    ·rw [if_pos ⟨by omega,by omega⟩]
     omega
   ·show _≤(jc6 (jae n) (c.noteF a) a).size+1
    have:=r2.size
    omega
   ·show 0≤(jc6 (jae n) (c.noteF a) a).size+1
    omega
   ·show 0≤v.slot∧v.slot < (jc6 (jae n) (c.noteF a) a).size+1
    have hv2:v∈(jc6 (jae n) (c.noteF a) a).vars++[(⟨((c.noteF a).node a).name,(jae n (c.noteF a) ((c.noteF a).kid a 0)).2,(jc6 (jae n) (c.noteF a) a).size⟩:GVar)]:=hv2
    rcases List.mem_append.1 hv2 with hm | hm
    ·have:=hvl.2 v hm
     omega
    ·rw [List.mem_singleton.1 hm]
     show 0≤(jc6 (jae n) (c.noteF a) a).size∧(jc6 (jae n) (c.noteF a) a).size < _
     omega
  ·have e:jaf (n+1) c a=(jae n ((c.noteF a).named a).1 ((c.noteF a).kid a 0)).1.must (decide (((c.noteF a).named a).2=(jae n ((c.noteF a).named a).1 ((c.noteF a).kid a 0)).2)) a:=by unfold jaf;simp only;rw [hnode,k];rfl
   obtain ⟨x,hl,hxr⟩:=sh.right (by omega)
   have hk0:(c.noteF a).kid a 0=x:=by rw [kd,hl];rfl
   rw [e] at he ⊢
   rw [hk0] at he ⊢
   obtain ⟨b1,b2⟩:=jbt he
   have en:=jb0 (c.noteF a) a
   have r1:=jlK ht (h'.ev en) (en.tree.trans hc') (hv'.ev en) (by omega) hl hxr hch b2
   exact ⟨kr ((joe h' hc' hv' h1 h0 hlo ((jaA n _ x).e0 b2) r1).must),(hv'.ev en).ev ((jaA n _ _).trans (jbF _ _ _))⟩
  ·have e:jaf (n+1) c a=(jae n (jae n ((c.noteF a).named a).1 ((c.noteF a).kid a 0)).1 ((c.noteF a).kid a 1)).1.must (decide (((c.noteF a).named a).2=4) && decide ((jae n ((c.noteF a).named a).1 ((c.noteF a).kid a 0)).2=1) && decide ((jae n (jae n ((c.noteF a).named a).1 ((c.noteF a).kid a 0)).1 ((c.noteF a).kid a 1)).2=1)) a:=by unfold jaf;simp only;rw [hnode,k];rfl
   obtain ⟨x,y,hl,hxe,hye⟩:=sh.two (by omega)
   have hk0:(c.noteF a).kid a 0=x:=by rw [kd,hl];rfl
   have hk1:(c.noteF a).kid a 1=y:=by rw [kd,hl];rfl
   rw [e] at he ⊢
   rw [hk0,hk1] at he ⊢
   obtain ⟨b1,b2⟩:=jbt he
   have en:=jb0 (c.noteF a) a
   have r1:=jyy ht (h'.ev en) (en.tree.trans hc') (hv'.ev en) (by omega) hl hxe hye hch b2
   exact ⟨kr ((joe h' hc' hv' h1 h0 hlo ((jaA n _ x).e0 ((jaA n _ y).e0 b2)) r1).must),(hv'.ev en).ev (((jaA n _ _).trans (jaA n _ _)).trans (jbF _ _ _))⟩
  ·have e:jaf (n+1) c a=(jae n (c.noteF a) ((c.noteF a).kid a 0)).1:=by unfold jaf;simp only;rw [hnode,k];rfl
   obtain ⟨x,hl,hxk⟩:=sh.do_ k
   have hk0:(c.noteF a).kid a 0=x:=by rw [kd,hl];rfl
   rw [e] at he ⊢
   rw [hk0] at he ⊢
   have r1:=jlK ht h' hc' hv' (by omega) hl (by rw [hxk];unfold isR;omega) hch he
   exact ⟨(kr r1).node (hno (by omega)),hv'.ev (jaA n _ _)⟩
  ·have e:jaf (n+1) c a=(jae n (c.noteF a) ((c.noteF a).kid a 0)).1.must (!decide ((jae n (c.noteF a) ((c.noteF a).kid a 0)).2=4)) a:=by unfold jaf;simp only;rw [hnode,k];rfl
   obtain ⟨x,hl,hxe⟩:=sh.one (by omega)
   have hk0:(c.noteF a).kid a 0=x:=by rw [kd,hl];rfl
   rw [e] at he ⊢
   rw [hk0] at he ⊢
   obtain ⟨b1,b2⟩:=jbt he
   have r1:=jlK ht h' hc' hv' (by omega) hl (.inl hxe) hch b2
   exact ⟨((kr r1).must).node (hno (by omega)),hv'.ev ((jaA n _ _).trans (jbF _ _ _))⟩
  ·have e:jaf (n+1) c a=jbD (jae n) (c.noteF a) a:=by unfold jaf;simp only;rw [hnode,k];rfl
   rw [e] at he ⊢
   unfold jbD at he ⊢
   rw [hnode] at he ⊢
   simp only at he ⊢
   split at he
   ·exact (jcK (by decide) he).elim
   rename_i hf
   rw [if_neg hf]
   rcases sh.ret k with hl | ⟨x,hl,hxe⟩
   ·rw [hl]
    rw [if_neg (by decide)]
    rw [hl] at hch
    have:lo=a.toNat:=by cases hch;rfl
    subst this
    exact ⟨(kr (SlR.refl t a.toNat (c.noteF a))).node (hno (by omega)),hv'⟩
   ·have hk0:(c.noteF a).kid a 0=x:=by rw [kd,hl];rfl
    have hl1:(nth t.nodes a.toNat).l.length=1:=by rw [hl];rfl
    rw [if_pos hl1] at he ⊢
    rw [hk0] at he ⊢
    obtain ⟨b1,b2⟩:=jbt he
    have r1:=jlK ht h' hc' hv' (by omega) hl (.inl hxe) hch b2
    exact ⟨((kr r1).must).node (hno (by omega)),hv'.ev ((jaA n _ _).trans (jbF _ _ _))⟩
  ·have e:jaf (n+1) c a=jaI (ja0 (jaf n)) ((jae n (c.noteF a) ((c.noteF a).kid a 0)).1.must (decide ((jae n (c.noteF a) ((c.noteF a).kid a 0)).2=2)) a) (((c.noteF a).node a).l.drop 1):=by
    unfold jaf;simp only;rw [hnode];rcases k with k | k<;>rw [k]<;>rfl
   have hsh:∃ x L,(nth t.nodes a.toNat).l=x::L∧isE (jan t.nodes x)∧∀ y∈L,jan t.nodes y=18:=by
    rcases k with k | k
    ·obtain ⟨x,y,hx,hy,hl | ⟨z,hl,hz⟩⟩:=sh.if_ k
     ·exact ⟨x,[y],hl,hx,fun u hu=>by rw [List.mem_singleton.1 hu];exact hy⟩
     ·exact ⟨x,[y,z],hl,hx,fun u hu=>by
       rcases List.mem_cons.1 hu with rfl | hu
       ·exact hy
       ·rw [List.mem_singleton.1 hu];exact hz⟩
    ·obtain ⟨x,y,hl,hx,hy⟩:=sh.while_ k
     exact ⟨x,[y],hl,hx,fun u hu=>by rw [List.mem_singleton.1 hu];exact hy⟩
   obtain ⟨x,L,hl,hxe,hL⟩:=hsh
   have hk0:(c.noteF a).kid a 0=x:=by rw [kd,hl];rfl
   rw [e] at he ⊢
   rw [hnode,hl,hk0] at he ⊢
   have he:(jaI (ja0 (jaf n)) ((jae n (c.noteF a) x).1.must (decide ((jae n (c.noteF a) x).2=2)) a) L).e=0:=he
   show SlR t lo (a.toNat+1) c (jaI (ja0 (jaf n)) ((jae n (c.noteF a) x).1.must (decide ((jae n (c.noteF a) x).2=2)) a) L)∧VarsS (jaI (ja0 (jaf n)) ((jae n (c.noteF a) x).1.must (decide ((jae n (c.noteF a) x).2=2)) a) L)
   have ex:=(jaA n (c.noteF a) x).trans (jbF _ (decide ((jae n (c.noteF a) x).2=2)) a)
   have hin:=h'.ev ex
   have hsb:∀ (q:Ck) b,CkIn q→q.e=0→Sv q (ja0 (jaf n) q b):=fun q b hq _=>(jcN (ja3 n) hq b).1
   have e1:=(jc8 hsb L _ hin).e0 he
   obtain ⟨b1,b2⟩:=jbt e1
   rw [hl] at hch
   obtain ⟨c1,c2,c3,c4,c5,c6⟩:=jei hch
   have r1:=jiv ht n (c.noteF a) x lo h' hc' hv' c1 c2 (by omega) (.inl hxe) c5 b2
   obtain ⟨r2,v2⟩:=jkv hsb (C:=fun k=>k=18) (n:=n) (fun q b l g1 g2 g3 _ g5 g6 g7 g8 g9 g10=>jod ht hs q b l g1 g2 g3 g5 g6 (by omega) g8 g9 g10) L _ (x.toNat+1) a.toNat hin (ex.tree.trans hc') (hv'.ev ex) (by omega) hL c6 he
   exact ⟨((kr r1.must).seq (by omega) (by omega) r2).node (hno (by omega)),v2⟩
theorem jlL (body:Int):∀ (ps:List GParam) (c:Ck) (i:Int),VarsS c→c.size=i→VarsS (jaQ body c ps i)∧(jaQ body c ps i).slots=c.slots∧(jaQ body c ps i).size=i+ps.length
 | [],c,i,h,hi=>by unfold jaQ;exact ⟨h,rfl,by simp;exact hi⟩
 | p::ps,c,i,h,hi=>by
  have fin:∀ c1:Ck,Ev c c1→c1.slots=c.slots→VarsS (jaQ body (je4 c1 ⟨p.name,p.ty,i⟩) ps (i+1))∧(jaQ body (je4 c1 ⟨p.name,p.ty,i⟩) ps (i+1)).slots=c.slots∧(jaQ body (je4 c1 ⟨p.name,p.ty,i⟩) ps (i+1)).size=i+(p::ps).length:=fun c1 s e=>by
   have hz:=s.size
   have h1:=h.ev s
   have h0:=h.1
   obtain ⟨a,b,d⟩:=jlL body ps (je4 c1 ⟨p.name,p.ty,i⟩) (i+1) ⟨by show 0≤c1.size+1;omega,fun v hv=>by
    have hv:v∈c1.vars++[(⟨p.name,p.ty,i⟩:GVar)]:=hv
    show 0≤v.slot∧v.slot < c1.size+1
    rcases List.mem_append.1 hv with hv | hv
    ·have:=h1.2 v hv
     omega
    ·rw [List.mem_singleton.1 hv]
     show 0≤i∧i < _
     omega⟩ (by show c1.size+1=i+1;omega)
   exact ⟨a,b.trans e,by rw [d,List.length_cons];omega⟩
  unfold jaQ
  simp only
  split
  ·exact fin _ (jbZ c (by decide) body) (jh0 _ _ _).1
  ·exact fin _ (.refl c) rfl
structure FnS (t:GTree) (sl:List Int) (k lo:Nat) (z:Int):Prop where
 par:((nth t.fns k).params.length:Int)≤z
 hi:z≤24
 all:∀ i,lo≤i→i < (nth t.fns k).body.toNat+1→jd7 (nth t.nodes i).kind→0≤nth sl i∧nth sl i < z
 chain:Chain t.nodes lo (nth t.nodes (nth t.fns k).body.toNat).l (nth t.fns k).body.toNat
theorem FnS.keep {t:GTree} {sl sl':List Int} {k lo:Nat} {z:Int} (h:FnS t sl k lo z) (e:∀ i,i < (nth t.fns k).body.toNat+1→nth sl' i=nth sl i):FnS t sl' k lo z:=⟨h.par,h.hi,fun i h1 h2 h3=>by rw [e i h2];exact h.all i h1 h2 h3,h.chain⟩
theorem jmQ {t:GTree} (ht:TreeOk t) {c:Ck} (h:CkIn0 c) (hc:c.tree=t) {k:Nat} (hk:k < t.fns.length) (hsz:c.size_.length < 6) {lo:Nat} (hch:Chain t.nodes lo (nth t.nodes (nth t.fns k).body.toNat).l (nth t.fns k).body.toNat) (he:(jaF c k).e=0) :
  (∀ i,(i < lo∨(nth t.fns k).body.toNat+1≤i)→nth (jaF c k).slots i=nth c.slots i)∧FnS t (jaF c k).slots k lo (jaF c k).size∧(jaF c k).size_=c.size_++[(jaF c k).size]:=by
 have hk':k < c.tree.fns.length:=by rw [hc];exact hk
 have hp3:=h.tree.fn _ (jaP hk')
 have hi0:CkIn { c with fn:=(k:Int),vars:=[],more:=[],size:=0 }:=⟨h.tree,h.types,h.slots,h.fns,by show c.size_.length≤6;omega,by show (0:Int)≤k;omega,by show (k:Int) < (c.tree.fns.length:Int);omega,by show ((0:Nat):Int)≤0;omega,by show (0:Int)≤25;omega,fun _=>by show (0:Int)≤24;omega⟩
 obtain ⟨a,b,d⟩:=jfN (nth c.tree.fns k).body (nth c.tree.fns k).params _ 0 hi0 (by show (0:Int)+_≤20;omega)
 obtain ⟨a',b',d'⟩:=jlL (nth c.tree.fns k).body (nth c.tree.fns k).params { c with fn:=(k:Int),vars:=[],more:=[],size:=0 } 0 ⟨by show (0:Int)≤0;omega,fun v hv=>by simp at hv⟩ rfl
 have hbN:=jeN ht hk
 have hbk:=ht.body _ (jaP hk)
 unfold jaF at he ⊢
 simp only at he ⊢
 rw [hc] at he ⊢
 rw [hc] at a b d a' b' d'
 split at he
 ·rename_i e1
  rw [if_pos e1]
  have sv:=(jcN (ja3 t.nodes.length) a (nth t.fns k).body).1
  obtain ⟨r,_⟩:=jod ht (jqW ht t.nodes.length) _ (nth t.fns k).body lo a (b.trans (by rfl)) a' hbN.1 hbN.2 (by have:=hbN.2;have:=hbN.1;omega) hbk hch he
  have q:=SlR.size r
  have hroom:=sv.inv.room he
  refine ⟨fun i hi=>(r.sw i hi).trans (by rw [b']),⟨?_,hroom,r.all,hch⟩,?_⟩
  ·show _≤(ja0 _ _ _).size
   rw [d'] at q
   omega
  ·show (ja0 _ _ _).size_++[_]=_
   rw [sv.size_,d]
 ·rename_i e1
  exact (e1 he).elim
def jfb (t:GTree) (k:Nat):Nat:=if k=0 then 0 else (nth t.fns (k - 1)).body.toNat+1
theorem jhc {t:GTree} (ht:TreeOk t):∀ (n i lo:Nat) (c:Ck),CkIn0 c→c.tree=t→c.size_.length=i→i+n=t.fns.length→lo=jfb t i→Chain t.nodes lo ((t.fns.drop i).map (·.body)) t.nodes.length→(∀ j,j < i→FnS t c.slots j (jfb t j) (nth c.size_ j)∧(nth t.fns j).body.toNat < lo)→(jaz c i n).e=0→
  ∀ j,j < t.fns.length→FnS t (jaz c i n).slots j (jfb t j) (nth (jaz c i n).size_ j)
 | 0,i,lo,c,h,hc,hs,hi,hlo,hch,hA,he=>by
  unfold jaz
  exact fun j hj=>(hA j (by omega)).1
 | n+1,i,lo,c,h,hc,hs,hi,hlo,hch,hA,he=>by
  have h6:=ht.fns
  unfold jaz at he ⊢
  by_cases e0:c.e=0
  ·rw [if_pos e0] at he ⊢
   have hk:i < t.fns.length:=by omega
   rw [jbz hk] at hch
   obtain ⟨c1,c2,c3,c4,c5,c6⟩:=jei (a:=(nth t.fns i).body) hch
   obtain ⟨f1,f2,f3⟩:=jfm h (by rw [hc];exact hk) (by omega:c.size_.length < 6)
   have e1:(jaF c i).e=0:=by
    cases n with
    | zero=>unfold jaz at he;exact he
    | succ m=>
     unfold jaz at he
     split at he
     ·assumption
     ·exact he
   obtain ⟨r1,r2,r3⟩:=jmQ ht h hc hk (by omega) c5 e1
   refine jhc ht n (i+1) ((nth t.fns i).body.toNat+1) (jaF c i) f1 (f2.trans hc) (by omega) (by omega) (by unfold jfb;rw [if_neg (by omega)];rfl) c6 (fun j hj=>?_) he
   by_cases hji:j < i
   ·obtain ⟨g1,g2⟩:=hA j hji
    have hz:nth (jaF c i).size_ j=nth c.size_ j:=by rw [r3,jbb (by omega)]
    rw [hz]
    exact ⟨g1.keep fun q hq=>r1 q (.inl (by omega)),by omega⟩
   ·have:j=i:=by omega
    subst this
    have hz:nth (jaF c j).size_ j=(jaF c j).size:=by rw [r3,← hs];exact jcL _ _
    rw [hz,← hlo]
    exact ⟨r2,by omega⟩
  ·rw [if_neg e0] at he
   exact (e0 he).elim
theorem jom {x:GFunc}:∀ (l:List GFunc) (c:Ck),(jdl x c l).e=0→c.e=0∧∀ f∈l,f.name≠x.name
 | [],c,h=>⟨by unfold jdl at h;exact h,fun f hf=>by simp at hf⟩
 | f::l,c,h=>by
  unfold jdl at h
  obtain ⟨h1,h2⟩:=jom l _ h
  obtain ⟨h3,h4⟩:=jfM (by decide) h1
  rw [h4] at h1
  exact ⟨h1,fun g hg=>by
   rcases List.mem_cons.1 hg with rfl | hg
   ·exact h3
   ·exact h2 g hg⟩
theorem jk7 (fns:List GFunc):∀ (n i:Nat) (c:Ck) (m:Bool),i+n=fns.length→(jcS fns c m i n).1.e=0→c.e=0∧(∀ j,i≤j→j < fns.length→∀ f∈fns.take j,f.name≠(nth fns j).name)∧((jcS fns c m i n).2=true→m=true∨∃ j,j < fns.length∧jjn (nth fns j)=true)
 | 0,i,c,m,hi,h=>by
  unfold jcS at h ⊢
  exact ⟨h,fun j h1 h2=>by omega,fun h=>.inl h⟩
 | n+1,i,c,m,hi,h=>by
  unfold jcS at h ⊢
  obtain ⟨h1,h2,h3⟩:=jk7 fns n (i+1) _ _ (by omega) h
  obtain ⟨h4,h5⟩:=jom _ _ h1
  refine ⟨h4,fun j g1 g2=>?_,fun hm=>?_⟩
  ·by_cases e:j=i
   ·subst e;exact h5
   ·exact h2 j (by omega) g2
  ·rcases h3 hm with h | h
   ·rcases Bool.or_eq_true _ _ |>.mp h with h | h
    ·exact .inl h
    ·exact .inr ⟨i,by omega,h⟩
   ·exact .inr h
structure FnN (t:GTree):Prop where
 one:∀ i j,i < j→j < t.fns.length→(nth t.fns i).name≠(nth t.fns j).name
 main:∃ j,j < t.fns.length∧jjn (nth t.fns j)=true
theorem jsd {c:Ck} (h:(jcp c).e=0):c.e=0∧FnN c.tree:=by
 unfold jcp at h
 simp only at h
 split at h
 ·rename_i hm
  obtain ⟨h1,h2,h3⟩:=jk7 c.tree.fns c.tree.fns.length 0 c false (by omega) h
  refine ⟨h1,⟨fun i j hi hj=>h2 j (by omega) hj _ ?_,?_⟩⟩
  ·rw [jbl (by omega)]
   exact List.mem_take_iff_getElem.2 ⟨i,by omega,rfl⟩
  ·rcases h3 hm with h | h
   ·cases h
   ·exact h
 ·exact (jcK (by decide) h).elim
theorem jk5 (f:GFunc→ByteArray) (nm:ByteArray):∀ (l:List GFunc) (i k:Int),(∀ a b,a < b→b < l.length→f (nth l a)≠f (nth l b))→(∃ v∈l,f v=nm)→jdh f nm l i k=jcR f nm l i
 | [],i,k,h,hx=>by obtain ⟨v,hv,_⟩:=hx;simp at hv
 | v::l,i,k,h,hx=>by
  unfold jdh jcR
  have hl:∀ a b,a < b→b < l.length→f (nth l a)≠f (nth l b):=fun a b h1 h2=>h (a+1) (b+1) (by omega) (by rw [List.length_cons];omega)
  by_cases hv:f v=nm
  ·rw [if_pos hv,if_pos hv]
   have hn:∀ u∈l,f u≠nm:=fun u hu hh=>by
    obtain ⟨q,hq,rfl⟩:=List.mem_iff_getElem.1 hu
    exact h 0 (q+1) (by omega) (by rw [List.length_cons];omega) (by rw [show nth (v::l) 0=v from rfl,show nth (v::l) (q+1)=l[q] from by rw [jbl (by rw [List.length_cons];omega)];rfl,hv,hh])
   have:∀ (l:List GFunc) (i k:Int),(∀ u∈l,f u≠nm)→jdh f nm l i k=k:=fun l=>by
    induction l with
    | nil=>intro i k _;rfl
    | cons u l ih=>
     intro i k hu
     unfold jdh
     rw [if_neg (hu u (by simp)),ih (i+1) k fun w hw=>hu w (by simp [hw])]
   exact this l _ _ hn
  ·rw [if_neg hv,if_neg hv]
   exact jk5 f nm l (i+1) k hl (by
    obtain ⟨u,hu,hh⟩:=hx
    rcases List.mem_cons.1 hu with rfl | hu
    ·exact (hv hh).elim
    ·exact ⟨u,hu,hh⟩)
structure SOk (p:GProg):Prop where
 ok:POk p
 fns:∀ j,j < p.tree.fns.length→FnS p.tree p.slots j (jfb p.tree j) (nth p.size j)
 names:FnN p.tree
theorem jmc {t:GTree} (ht:TreeOk t) (he:(ja4 t).2.2=0):SOk (ja4 t).1:=by
 have hp:=(jrX ht he).1
 unfold ja4 at he hp ⊢
 split at he
 ·rename_i h;exact (h he).elim
 rename_i h
 rw [if_neg h] at hp ⊢
 have h:(jcQ t).e=0:=by omega
 obtain ⟨i1,i2,i3⟩:=jnv ht
 have q:=jhc ht t.fns.length 0 0 (jcp (ck0 t)) i1 i2 (by rw [i3];rfl) (by omega) rfl (by rw [List.drop_zero];exact ht.chain) (fun j hj=>by omega) h
 obtain ⟨_,q1,_⟩:=jeE ht t.fns.length 0 0 (jcp (ck0 t)) i1 i2 (by rw [i3];rfl) (by omega) (by rw [List.drop_zero];exact ht.chain) h
 have he:(jcQ t).tree=t:=q1
 have h0:(jcp (ck0 t)).e=0:=by
  have hpos:=h
  unfold jcQ at hpos
  cases hn:t.fns.length with
  | zero=>rw [hn] at hpos;unfold jaz at hpos;exact hpos
  | succ m=>
   rw [hn] at hpos
   unfold jaz at hpos
   split at hpos
   ·assumption
   ·exact hpos
 refine ⟨hp,?_,?_⟩
 ·show ∀ j,j < (jcQ t).tree.fns.length→FnS (jcQ t).tree (jcQ t).slots j (jfb (jcQ t).tree j) (nth (jcQ t).size_ j)
  rw [he];exact q
 ·show FnN (jcQ t).tree
  rw [he];exact (jsd h0).2
theorem jdz {s:ByteArray} (he:(jbO s).2.2=0):SOk (jbO s).1:=by
 unfold jbO at he ⊢
 split at he
 ·rename_i h;exact (h he).elim
 rename_i h
 rw [if_neg h]
 have h:(jaR s).2.2=0:=by omega
 simp only at he ⊢
 split at he
 ·cases he
 rename_i h2
 split at he
 ·rename_i h3;exact (h3 he).elim
 rename_i h3
 rw [if_neg h2,if_neg h3]
 exact jmc (jnX h) (by omega)
end Go.Proofs.YtfkgcobaheegbaaGreatDoor
