/- The plain law of the document's checker: which slots are noted. The plain law of the document's checker: which slots are noted, by statements and functions. The plain law of the document's checker: functions, their slots and their names. No conditions. -/
import Derived.Test.YtfkgcobaheegbaaGreatDoorTyF
set_option linter.all false
namespace Go.Proofs.YtfkgcobaheegbaaGreatDoor
open Go Go.Gd
def jdH (k:Int):Prop:=k=4∨k=5∨k=10∨k=11∨k=12
def VarsS (c:Ck):Prop:=0≤c.size∧∀ v∈c.vars,0≤v.slot∧v.slot < c.size
structure SlR (t:GTree) (lo hi:Nat) (c c':Ck):Prop where
 sw:∀ k,(k < lo∨hi≤k)→nth c'.slots k=nth c.slots k
 all:∀ k,lo≤k→k < hi→jdH (nth t.nodes k).kind→0≤nth c'.slots k∧nth c'.slots k < c'.size
 size:c.size≤c'.size
theorem SlR.post {t:GTree} {lo hi:Nat} {a b c:Ck} (h:SlR t lo hi a b) (e:c.slots=b.slots) (z:c.size=b.size):SlR t lo hi a c:=⟨fun k hk=>by rw [e];exact h.sw k hk,fun k h1 h2 h3=>by rw [e,z];exact h.all k h1 h2 h3,by rw [z];exact h.size⟩
theorem SlR.pre {t:GTree} {lo hi:Nat} {a b c:Ck} (e:b.slots=a.slots) (z:b.size=a.size) (h:SlR t lo hi b c):SlR t lo hi a c:=⟨fun k hk=>by rw [← e];exact h.sw k hk,h.all,by rw [← z];exact h.size⟩
theorem SlR.refl (t:GTree) (lo:Nat) (c:Ck):SlR t lo lo c c:=⟨fun _ _=>rfl,fun k h1 h2=>by omega,Int.le_refl _⟩
theorem SlR.seq {t:GTree} {lo mid hi:Nat} {a b c:Ck} (h0:lo≤mid) (h1:mid≤hi) (h:SlR t lo mid a b) (k:SlR t mid hi b c):SlR t lo hi a c:=by
 have:=k.size
 refine ⟨fun i hi'=>(k.sw i (by omega)).trans (h.sw i (by omega)),fun i g1 g2 g3=>?_,by have:=h.size;omega⟩
 by_cases e:i < mid
 ·rw [k.sw i (.inl e)]
  have:=h.all i g1 e g3
  omega
 ·exact k.all i (by omega) g2 g3
theorem SlR.node {t:GTree} {lo n:Nat} {c c':Ck} (h:SlR t lo n c c') (hn:jdH (nth t.nodes n).kind→0≤nth c'.slots n∧nth c'.slots n < c'.size):SlR t lo (n+1) c c':=
 ⟨fun k hk=>h.sw k (by omega),fun k h1 h2 h3=>by
  by_cases e:k < n
  ·exact h.all k h1 e h3
  ·have:k=n:=by omega
   subst this
   exact hn h3,h.size⟩
theorem jiF (c:Ck) (e a:Int):(c.fails e a).slots=c.slots∧(c.fails e a).size=c.size:=by unfold Ck.fails;split<;>exact ⟨rfl,rfl⟩
theorem jb6 (c:Ck) (b:Bool) (a:Int):(c.must b a).slots=c.slots∧(c.must b a).size=c.size:=by unfold Ck.must;split;exact ⟨rfl,rfl⟩;exact jiF _ _ _
theorem SlR.must {t:GTree} {lo hi:Nat} {a c:Ck} {b:Bool} {x:Int} (h:SlR t lo hi a c):SlR t lo hi a (c.must b x):=h.post (jb6 c b x).1 (jb6 c b x).2
theorem VarsS.ev {c c':Ck} (h:VarsS c) (s:Ev c c'):VarsS c':=by unfold VarsS;rw [s.vars,s.size];exact h
theorem jgV {c:Ck} (h:VarsS c) {a:Int} {n:Nat} (hn:a.toNat=n) (hl:n < c.slots.length) (he:(c.named a).1.e=0):(∀ k,k≠n→nth (c.named a).1.slots k=nth c.slots k)∧0≤nth (c.named a).1.slots n∧nth (c.named a).1.slots n < c.size:=by
 unfold Ck.named at he ⊢
 split
 ·rename_i hf
  rw [if_pos hf] at he
  exact (jbJ (by decide) he).elim
 ·rename_i hf
  have hv:nth c.vars (c.find (c.node a).name).toNat∈c.vars:=by
   rcases jiH GVar.name (c.node a).name c.vars 0 (by omega) with ⟨h1,_⟩ | h1
   ·exact (hf (by show jb4 GVar.name (c.node a).name c.vars 0 < 0;rw [h1];decide)).elim
   ·exact jaw (by show (jb4 GVar.name (c.node a).name c.vars 0).toNat < _;omega)
  have hs:∀ k,nth (c.slot a (nth c.vars (c.find (c.node a).name).toNat).slot).slots k=if n=k∧k < c.slots.length then (nth c.vars (c.find (c.node a).name).toNat).slot else nth c.slots k:=fun k=>by
   show nth (c.slots.set a.toNat _) k=_
   rw [jc3,hn]
  refine ⟨fun k hk=>by show nth (c.slot a _).slots k=_;rw [hs,if_neg (by omega)],?_⟩
  show 0≤nth (c.slot a _).slots n∧nth (c.slot a _).slots n < _
  rw [hs,if_pos ⟨rfl,hl⟩]
  exact h.2 _ hv
def ExS (t:GTree) (n:Nat):Prop:=∀ (c:Ck) (a:Int) (lo:Nat),CkIn c→c.tree=t→VarsS c→0≤a→a < t.nodes.length→a.toNat < n→isR (jaj t.nodes a)→Chain t.nodes lo (nth t.nodes a.toNat).l a.toNat→(jac n c a).1.e=0→SlR t lo (a.toNat+1) c (jac n c a).1
theorem jrE {t:GTree} {n:Nat} (hx:ExS t n):∀ (L:List Int) (c:Ck) (ts:List Int) (lo hi:Nat),CkIn c→c.tree=t→VarsS c→hi≤n→(∀ x∈L,isR (jaj t.nodes x))→Chain t.nodes lo L hi→(jbV (jac n) c L ts).1.e=0→SlR t lo hi c (jbV (jac n) c L ts).1
 | [],c,ts,lo,hi,h,hc,hv,hn,hr,hch,he=>by
  cases hch
  unfold jbV
  exact .refl _ _ _
 | a::L,c,ts,lo,hi,h,hc,hv,hn,hr,hch,he=>by
  have e0:=(jec (jat n) (a::L) c ts).e0 he
  unfold jbV at he ⊢
  rw [if_pos e0] at he ⊢
  obtain ⟨c1,c2,c3,c4,c5,c6⟩:=jcI hch
  have ev:=jat n c a
  have e1:=(jec (jat n) L _ _).e0 he
  have r1:=hx c a lo h hc hv c1 c2 (by omega) (hr a (by simp)) c5 e1
  exact r1.seq (by omega) (by omega) (jrE hx L _ _ _ hi (h.ev ev) (ev.tree.trans hc) (hv.ev ev) hn (fun x hx=>hr x (by simp [hx])) c6 he)
theorem jjv (a:Int):∀ (ts:List Int) (ps:List GParam) (c:Ck),(jbx a c ts ps).slots=c.slots∧(jbx a c ts ps).size=c.size
 | [],ps,c=>by rw [jcw];exact ⟨rfl,rfl⟩
 | _::_,[],c=>by rw [jcx];exact ⟨rfl,rfl⟩
 | x::ts,p::ps,c=>by
  unfold jbx
  split
  ·have:=jjv a ts ps (c.must (decide (x=p.ty)) a)
   exact ⟨this.1.trans (jb6 _ _ _).1,this.2.trans (jb6 _ _ _).2⟩
  ·exact ⟨rfl,rfl⟩
theorem jg0 {t:GTree} (ht:TreeOk t):∀ n,ExS t n
 | 0=>fun c a lo h hc hv h0 h1 hn=>by omega
 | n+1=>fun c a lo h hc hv h0 h1 hn hr hch he=>by
  have hx:=jg0 ht n
  have e0:=(jat (n+1) c a).e0 he
  unfold jac at he ⊢
  rw [if_neg (by omega)] at he ⊢
  simp only at he ⊢
  have he:(jam (jac n) c a).1.e=0:=he
  have hnode:c.node a=nth t.nodes a.toNat:=by unfold Ck.node;rw [hc]
  have sh:=(ht.shape a.toNat (by omega)).1
  suffices hs:SlR t lo (a.toNat+1) c (jam (jac n) c a).1 from hs.post rfl rfl
  have hlo:=hch.le
  have leaf:(nth t.nodes a.toNat).l=[]→SlR t lo a.toNat c c:=fun hl=>by
   rw [hl] at hch
   have:lo=a.toNat:=by cases hch;rfl
   subst this
   exact .refl _ _ _
  have kid1:∀ x,(nth t.nodes a.toNat).l=[x]→isR (jaj t.nodes x)→(jac n c x).1.e=0→SlR t lo a.toNat c (jac n c x).1:=fun x hl hxr hxe=>by
   rw [hl] at hch
   obtain ⟨c1,c2,c3,c4,c5⟩:=jfq hch
   rw [c4]
   exact hx c x lo h hc hv c1 c2 (by omega) hxr c5 hxe
  have kd:∀ i,c.kid a i=nth (nth t.nodes a.toNat).l i:=fun i=>by unfold Ck.kid;rw [hnode]
  have hkr:(nth t.nodes a.toNat).kind=1∨(nth t.nodes a.toNat).kind=2∨(nth t.nodes a.toNat).kind=3∨(nth t.nodes a.toNat).kind=4∨(nth t.nodes a.toNat).kind=5∨(nth t.nodes a.toNat).kind=6∨(nth t.nodes a.toNat).kind=7∨(nth t.nodes a.toNat).kind=8∨(nth t.nodes a.toNat).kind=9∨(nth t.nodes a.toNat).kind=19∨(nth t.nodes a.toNat).kind=20∨(nth t.nodes a.toNat).kind=21:=by
   have:isR (nth t.nodes a.toNat).kind:=hr
   unfold isR isE at this
   omega
  have hno:∀ {q:Prop},¬ ((nth t.nodes a.toNat).kind=4∨(nth t.nodes a.toNat).kind=5)→jdH (nth t.nodes a.toNat).kind→q:=fun h1 h2=>by
   unfold jdH at h2
   have:isR (nth t.nodes a.toNat).kind:=hr
   unfold isR isE at this
   omega
  have hsl:a.toNat < c.slots.length:=by rw [h.slots,hc];omega
  rcases hkr with k | k | k | k | k | k | k | k | k | k | k | k
  ·have e:jam (jac n) c a=(c,1):=by unfold jam;simp only;rw [hnode,k];rfl
   rw [e];exact (leaf (sh.zero (by omega))).node (hno (by omega))
  ·have e:jam (jac n) c a=(c,2):=by unfold jam;simp only;rw [hnode,k];rfl
   rw [e];exact (leaf (sh.zero (by omega))).node (hno (by omega))
  ·have e:jam (jac n) c a=(c,3):=by unfold jam;simp only;rw [hnode,k];rfl
   rw [e];exact (leaf (sh.zero (by omega))).node (hno (by omega))
  ·have e:jam (jac n) c a=c.named a:=by unfold jam;simp only;rw [hnode,k];rfl
   rw [e] at he ⊢
   obtain ⟨g1,g2⟩:=jgV hv rfl hsl he
   have hz:=(jbQ c a).size
   have hl:=sh.zero (by omega)
   rw [hl] at hch
   have:lo=a.toNat:=by cases hch;rfl
   subst this
   exact ⟨fun k hk=>g1 k (by omega),fun k h1 h2 _=>by
    have:k=a.toNat:=by omega
    subst this
    rw [hz];exact g2,by rw [hz];exact Int.le_refl _⟩
  ·have e:jam (jac n) c a=((jac n (c.named a).1 (c.kid a 0)).1.must (decide ((c.named a).2=4) && decide ((jac n (c.named a).1 (c.kid a 0)).2=1)) a,1):=by unfold jam;simp only;rw [hnode,k];rfl
   obtain ⟨x,hl,hxe⟩:=sh.one (by omega)
   have hk0:c.kid a 0=x:=by rw [kd,hl];rfl
   rw [e] at he ⊢
   rw [hk0] at he ⊢
   obtain ⟨b1,b2⟩:=jbc he
   have en:=jbQ c a
   obtain ⟨g1,g2⟩:=jgV hv rfl hsl ((jat n _ x).e0 b2)
   rw [hl] at hch
   obtain ⟨c1,c2,c3,c4,c5⟩:=jfq hch
   have r:=hx (c.named a).1 x lo (h.ev en) (en.tree.trans hc) (hv.ev en) c1 c2 (by omega) (.inl hxe) c5 b2
   have hz:=en.size
   have hrz:=r.size
   rw [← c4] at r
   refine SlR.must ⟨fun k hk=>(r.sw k (by omega)).trans (g1 k (by omega)),fun k h1 h2 h3=>?_,by omega⟩
   by_cases hka:k < a.toNat
   ·exact r.all k h1 hka h3
   ·have:k=a.toNat:=by omega
    subst this
    rw [r.sw _ (.inr (by omega))]
    omega
  ·have e:jam (jac n) c a=((jac n c (c.kid a 0)).1.must (decide ((jac n c (c.kid a 0)).2=3) || decide ((jac n c (c.kid a 0)).2=4)) a,1):=by unfold jam;simp only;rw [hnode,k];rfl
   obtain ⟨x,hl,hxe⟩:=sh.one (by omega)
   have hk0:c.kid a 0=x:=by rw [kd,hl];rfl
   rw [e] at he ⊢
   rw [hk0] at he ⊢
   exact ((kid1 x hl (.inl hxe) (jbc he).2).must).node (hno (by omega))
  ·have e:jam (jac n) c a=((jac n c (c.kid a 0)).1.must (decide ((jac n c (c.kid a 0)).2=1)) a,1):=by unfold jam;simp only;rw [hnode,k];rfl
   obtain ⟨x,hl,hxe⟩:=sh.one (by omega)
   have hk0:c.kid a 0=x:=by rw [kd,hl];rfl
   rw [e] at he ⊢
   rw [hk0] at he ⊢
   exact ((kid1 x hl (.inl hxe) (jbc he).2).must).node (hno (by omega))
  ·have e:jam (jac n) c a=((jac n c (c.kid a 0)).1.must (decide ((jac n c (c.kid a 0)).2=2)) a,2):=by unfold jam;simp only;rw [hnode,k];rfl
   obtain ⟨x,hl,hxe⟩:=sh.one (by omega)
   have hk0:c.kid a 0=x:=by rw [kd,hl];rfl
   rw [e] at he ⊢
   rw [hk0] at he ⊢
   exact ((kid1 x hl (.inl hxe) (jbc he).2).must).node (hno (by omega))
  ·have e:jam (jac n) c a=((jac n (jac n c (c.kid a 0)).1 (c.kid a 1)).1.must (!decide (jgA (c.node a).name (jac n c (c.kid a 0)).2 (jac n (jac n c (c.kid a 0)).1 (c.kid a 1)).2=0)) a,jgA (c.node a).name (jac n c (c.kid a 0)).2 (jac n (jac n c (c.kid a 0)).1 (c.kid a 1)).2):=by unfold jam;simp only;rw [hnode,k];rfl
   obtain ⟨x,y,hl,hxe,hye⟩:=sh.two (by omega)
   have hk0:c.kid a 0=x:=by rw [kd,hl];rfl
   have hk1:c.kid a 1=y:=by rw [kd,hl];rfl
   rw [e] at he ⊢
   rw [hk0,hk1] at he ⊢
   obtain ⟨b1,b2⟩:=jbc he
   have ev:=jat n c x
   rw [hl] at hch
   obtain ⟨c1,c2,c3,c4,c5,c6⟩:=jcI hch
   obtain ⟨d1,d2,d3,d4,d5⟩:=jfq c6
   have r1:=hx c x lo h hc hv c1 c2 (by omega) (.inl hxe) c5 ((jat n _ y).e0 b2)
   have r2:=hx (jac n c x).1 y (x.toNat+1) (h.ev ev) (ev.tree.trans hc) (hv.ev ev) d1 d2 (by omega) (.inl hye) d5 b2
   rw [← d4] at r2
   exact ((r1.seq (by omega) (by omega) r2).must).node (hno (by omega))
  ·have e:jam (jac n) c a=(c,1):=by unfold jam;simp only;rw [hnode,k];rfl
   rw [e];exact (leaf (sh.zero (by omega))).node (hno (by omega))
  ·have e:jam (jac n) c a=((jac n c (c.kid a 0)).1.must (decide ((jac n c (c.kid a 0)).2=1)) a,4):=by unfold jam;simp only;rw [hnode,k];rfl
   obtain ⟨x,hl,hxe⟩:=sh.one (by omega)
   have hk0:c.kid a 0=x:=by rw [kd,hl];rfl
   rw [e] at he ⊢
   rw [hk0] at he ⊢
   exact ((kid1 x hl (.inl hxe) (jbc he).2).must).node (hno (by omega))
  ·have e:jam (jac n) c a=jb3 (jac n) c a:=by unfold jam;simp only;rw [hnode,k];rfl
   rw [e] at he ⊢
   have hcall:=sh.call k
   unfold jb3 at he ⊢
   split at he
   ·exact (jbJ (by decide) he).elim
   rename_i hf
   rw [if_neg hf]
   simp only at he ⊢
   have e1:=(jh3 a _ _ _).e0 he
   split at e1
   ·exact (jbJ (by decide) e1).elim
   rename_i hl
   rw [if_neg hl]
   have r:=jrE hx (c.node a).l c [] lo a.toNat h hc hv (by omega) (fun x hx'=>.inl (hcall x (by rw [← hnode];exact hx'))) (by rw [hnode];exact hch) e1
   have q:=jjv a (jbV (jac n) c (c.node a).l []).2 (nth c.tree.fns (jaF c a).toNat).params (jbV (jac n) c (c.node a).l []).1
   exact (r.post q.1 q.2).node (hno (by omega))
def StS (t:GTree) (n:Nat):Prop:=∀ (c:Ck) (a:Int) (lo:Nat),CkIn c→c.tree=t→VarsS c→c.e=0→0≤a→a < t.nodes.length→a.toNat < n→isS (jaj t.nodes a)→Chain t.nodes lo (nth t.nodes a.toNat).l a.toNat→(jab n c a).e=0→
 SlR t lo (a.toNat+1) c (jab n c a)∧VarsS (jab n c a)
theorem jgl {t:GTree} {st:Ck→Int→Ck} {C:Int→Prop} {n:Nat} (hs:∀ c a,CkIn c→c.e=0→Sv c (st c a))
  (hst:∀ (c:Ck) (a:Int) (lo:Nat),CkIn c→c.tree=t→VarsS c→c.e=0→0≤a→a < t.nodes.length→a.toNat < n→C (jaj t.nodes a)→Chain t.nodes lo (nth t.nodes a.toNat).l a.toNat→(st c a).e=0→SlR t lo (a.toNat+1) c (st c a)∧VarsS (st c a)) :
  ∀ (L:List Int) (c:Ck) (lo hi:Nat),CkIn c→c.tree=t→VarsS c→hi≤n→(∀ x∈L,C (jaj t.nodes x))→Chain t.nodes lo L hi→(jaz st c L).e=0→SlR t lo hi c (jaz st c L)∧VarsS (jaz st c L)
 | [],c,lo,hi,h,hc,hv,hn,hr,hch,he=>by
  cases hch
  unfold jaz
  exact ⟨.refl _ _ _,hv⟩
 | a::L,c,lo,hi,h,hc,hv,hn,hr,hch,he=>by
  have e0:=(jb7 hs (a::L) c h).e0 he
  unfold jaz at he ⊢
  rw [if_pos e0] at he ⊢
  obtain ⟨c1,c2,c3,c4,c5,c6⟩:=jcI hch
  have s:=hs c a h e0
  have e1:=(jb7 hs L _ s.inv).e0 he
  obtain ⟨r1,v1⟩:=hst c a lo h hc hv e0 c1 c2 (by omega) (hr a (by simp)) c5 e1
  obtain ⟨r2,v2⟩:=jgl hs hst L _ _ hi s.inv (s.tree.trans hc) v1 hn (fun x hx=>hr x (by simp [hx])) c6 he
  exact ⟨r1.seq (by omega) (by omega) r2,v2⟩
theorem jib {t:GTree} (ht:TreeOk t) {n:Nat} (hst:StS t n) (c:Ck) (a:Int) (lo:Nat) (h:CkIn c) (hc:c.tree=t) (hv:VarsS c) (h0:0≤a) (h1:a < t.nodes.length) (hn:a.toNat≤n) (hk:jaj t.nodes a=18) (hch:Chain t.nodes lo (nth t.nodes a.toNat).l a.toNat) (he:(jaJ (jab n) c a).e=0) :
  SlR t lo (a.toNat+1) c (jaJ (jab n) c a)∧VarsS (jaJ (jab n) c a):=by
 have sv:=jck (jaC n) h a
 have hnode:c.node a=nth t.nodes a.toNat:=by unfold Ck.node;rw [hc]
 have hb:=(ht.shape a.toNat (by omega)).1.block hk
 have ev:=jcB c a
 obtain ⟨r,_⟩:=jgl (jaC n) (C:=isS) hst (c.node a).l (c.noteF a) lo a.toNat (h.ev ev) (ev.tree.trans hc) (hv.ev ev) hn (fun x hx=>hb x (by rw [← hnode];exact hx)) (by rw [hnode];exact hch) he
 have r:SlR t lo a.toNat c (jaJ (jab n) c a):=SlR.post (b:=jaz (jab n) (c.noteF a) (c.node a).l) (SlR.pre (a:=c) (b:=c.noteF a) rfl rfl r) rfl rfl
 have hk18:(nth t.nodes a.toNat).kind=18:=hk
 refine ⟨r.node (fun h=>by unfold jdH at h;omega),?_⟩
 have hz:=r.size
 refine ⟨by have:=hv.1;omega,fun v hv'=>?_⟩
 rw [sv.2] at hv'
 have:=hv.2 v hv'
 omega
theorem jmu {t:GTree} (ht:TreeOk t) {n:Nat} {c0:Ck} {a x:Int} {lo:Nat} (h:CkIn c0) (hc:c0.tree=t) (hv:VarsS c0) (hn:a.toNat≤n) (hl:(nth t.nodes a.toNat).l=[x]) (hx:isR (jaj t.nodes x)) (hch:Chain t.nodes lo (nth t.nodes a.toNat).l a.toNat) (he:(jac n c0 x).1.e=0) :
  SlR t lo a.toNat c0 (jac n c0 x).1:=by
 rw [hl] at hch
 obtain ⟨c1,c2,c3,c4,c5⟩:=jfq hch
 rw [c4]
 exact jg0 ht n c0 x lo h hc hv c1 c2 (by omega) hx c5 he
theorem juz {t:GTree} (ht:TreeOk t) {n:Nat} {c0:Ck} {a x y:Int} {lo:Nat} (h:CkIn c0) (hc:c0.tree=t) (hv:VarsS c0) (hn:a.toNat≤n) (hl:(nth t.nodes a.toNat).l=[x,y]) (hx:isE (jaj t.nodes x)) (hy:isE (jaj t.nodes y)) (hch:Chain t.nodes lo (nth t.nodes a.toNat).l a.toNat) (he:(jac n (jac n c0 x).1 y).1.e=0) :
  SlR t lo a.toNat c0 (jac n (jac n c0 x).1 y).1:=by
 rw [hl] at hch
 obtain ⟨c1,c2,c3,c4,c5,c6⟩:=jcI hch
 obtain ⟨d1,d2,d3,d4,d5⟩:=jfq c6
 have ev:=jat n c0 x
 have r1:=jg0 ht n c0 x lo h hc hv c1 c2 (by omega) (.inl hx) c5 ((jat n _ y).e0 he)
 have q1:=jg0 ht n (jac n c0 x).1 y (x.toNat+1) (h.ev ev) (ev.tree.trans hc) (hv.ev ev) d1 d2 (by omega) (.inl hy) d5 he
 rw [d4]
 exact r1.seq (by omega) (by omega) q1
theorem jo3 {t:GTree} {lo:Nat} {c c':Ck} {a:Int} (h:CkIn c) (hc:c.tree=t) (hv:VarsS c) (h1:a < t.nodes.length) (h0:0≤a) (hlo:lo≤a.toNat) (he:(c.named a).1.e=0) (r:SlR t lo a.toNat (c.named a).1 c'):SlR t lo (a.toNat+1) c c':=by
 have hsl:a.toNat < c.slots.length:=by rw [h.slots,hc];omega
 obtain ⟨g1,g2⟩:=jgV hv rfl hsl he
 have hz:=(jbQ c a).size
 have hrz:=r.size
 refine ⟨fun k hk=>(r.sw k (by omega)).trans (g1 k (by omega)),fun k h1 h2 h3=>?_,by omega⟩
 by_cases hka:k < a.toNat
 ·exact r.all k h1 hka h3
 ·have:k=a.toNat:=by omega
  subst this
  rw [r.sw _ (.inr (by omega))]
  omega
theorem jg1 {t:GTree} (ht:TreeOk t):∀ n,StS t n
 | 0=>fun c a lo h hc hv e0 h0 h1 hn=>by omega
 | n+1=>fun c a lo h hc hv e0 h0 h1 hn hr hch he=>by
  have hs:=jg1 ht n
  have hnode:(c.noteF a).node a=nth t.nodes a.toNat:=by unfold Ck.node;show nth c.tree.nodes _=_;rw [hc]
  have sh:=(ht.shape a.toNat (by omega)).1
  have kd:∀ i,(c.noteF a).kid a i=nth (nth t.nodes a.toNat).l i:=fun i=>by unfold Ck.kid;rw [hnode]
  have ev:=jcB c a
  have h':=h.ev ev
  have hc':=ev.tree.trans hc
  have hv':=hv.ev ev
  have hlo:=hch.le
  have kr:∀ {hi:Nat} {c':Ck},SlR t lo hi (c.noteF a) c'→SlR t lo hi c c':=fun r=>SlR.pre (a:=c) (b:=c.noteF a) rfl rfl r
  have hno:∀ {q:Prop},¬ ((nth t.nodes a.toNat).kind=10∨(nth t.nodes a.toNat).kind=11∨(nth t.nodes a.toNat).kind=12)→jdH (nth t.nodes a.toNat).kind→q:=fun h1 h2=>by
   unfold jdH at h2
   have:isS (nth t.nodes a.toNat).kind:=hr
   unfold isS at this
   omega
  have hkr:(nth t.nodes a.toNat).kind=10∨(nth t.nodes a.toNat).kind=11∨(nth t.nodes a.toNat).kind=12∨(nth t.nodes a.toNat).kind=13∨(nth t.nodes a.toNat).kind=14∨(nth t.nodes a.toNat).kind=17∨(nth t.nodes a.toNat).kind=15∨(nth t.nodes a.toNat).kind=16:=by
   have:isS (nth t.nodes a.toNat).kind:=hr
   unfold isS at this
   omega
  rcases hkr with k | k | k | k | k | k | k
  ·have e:jab (n+1) c a=jpJ (jac n) (c.noteF a) a:=by unfold jab;simp only;rw [hnode,k];rfl
   obtain ⟨x,hl,hxr⟩:=sh.right (by omega)
   have hk0:(c.noteF a).kid a 0=x:=by rw [kd,hl];rfl
   rw [e] at he ⊢
   rw [jht] at he ⊢
   have he:(jcv (jac n) (c.noteF a) a).e=0:=he
   have hel:=jiE (jat n) (c.noteF a) a
   have hin:=h'.ev hel
   have hvl:=hv'.ev hel
   obtain ⟨_,q1⟩:=jeg (by decide) he
   have q1:jcv (jac n) (c.noteF a) a=jhs (jac n) (c.noteF a) a:=q1
   rw [q1] at he
   obtain ⟨_,q2⟩:=jeg (by decide) he
   have q2:jhs (jac n) (c.noteF a) a=je1 (jac n) (c.noteF a) a:=q2
   rw [q2] at he
   unfold je1 at he
   rw [hk0] at he
   obtain ⟨b1,b2⟩:=jbc he
   have r1:=(jmu ht h' hc' hv' (by omega) hl hxr hch b2)
   have hty:(jcv (jac n) (c.noteF a) a).slots=(jac n (c.noteF a) x).1.slots:=by rw [q1,q2];unfold je1;rw [hk0];exact (jb6 _ _ _).1
   have hsz:(jcv (jac n) (c.noteF a) a).size=(jac n (c.noteF a) x).1.size:=by rw [q1,q2];unfold je1;rw [hk0];exact (jb6 _ _ _).2
   have r2:=kr (r1.post hty hsz)
   have hsl:a.toNat < (jcv (jac n) (c.noteF a) a).slots.length:=by rw [hin.slots,hel.tree,hc'];omega
   have h0z:=hvl.1
   have hs':∀ i,nth ((jcv (jac n) (c.noteF a) a).slots.set a.toNat (jcv (jac n) (c.noteF a) a).size) i=if a.toNat=i∧i < (jcv (jac n) (c.noteF a) a).slots.length then (jcv (jac n) (c.noteF a) a).size else nth (jcv (jac n) (c.noteF a) a).slots i:=fun i=>jc3 _ _ _ _
   refine ⟨⟨fun i hi=>?_,fun i h1 h2 h3=>?_,?_⟩,?_,fun v hv2=>?_⟩
   ·show nth ((jcv (jac n) (c.noteF a) a).slots.set a.toNat _) i=_
    rw [hs',if_neg (by omega)]
    exact r2.sw i (by omega)
   ·show 0≤nth ((jcv (jac n) (c.noteF a) a).slots.set a.toNat _) i∧nth ((jcv (jac n) (c.noteF a) a).slots.set a.toNat _) i < (jcv (jac n) (c.noteF a) a).size+1
    rw [hs']
    by_cases hia:i < a.toNat
    ·rw [if_neg (by omega)]
     have:=r2.all i h1 hia h3
     omega
    ·rw [if_pos ⟨by omega,by omega⟩]
     omega
   ·show _≤(jcv (jac n) (c.noteF a) a).size+1
    have:=r2.size
    omega
   ·show 0≤(jcv (jac n) (c.noteF a) a).size+1
    omega
   ·show 0≤v.slot∧v.slot < (jcv (jac n) (c.noteF a) a).size+1
    have hv2:v∈(jcv (jac n) (c.noteF a) a).vars++[(⟨((c.noteF a).node a).name,(jac n (c.noteF a) ((c.noteF a).kid a 0)).2,(jcv (jac n) (c.noteF a) a).size⟩:GVar)]:=hv2
    rcases List.mem_append.1 hv2 with hm | hm
    ·have:=hvl.2 v hm
     omega
    ·rw [List.mem_singleton.1 hm]
     show 0≤(jcv (jac n) (c.noteF a) a).size∧(jcv (jac n) (c.noteF a) a).size < _
     omega
  ·have e:jab (n+1) c a=(jac n ((c.noteF a).named a).1 ((c.noteF a).kid a 0)).1.must (decide (((c.noteF a).named a).2=(jac n ((c.noteF a).named a).1 ((c.noteF a).kid a 0)).2)) a:=by unfold jab;simp only;rw [hnode,k];rfl
   obtain ⟨x,hl,hxr⟩:=sh.right (by omega)
   have hk0:(c.noteF a).kid a 0=x:=by rw [kd,hl];rfl
   rw [e] at he ⊢
   rw [hk0] at he ⊢
   obtain ⟨b1,b2⟩:=jbc he
   have en:=jbQ (c.noteF a) a
   have r1:=jmu ht (h'.ev en) (en.tree.trans hc') (hv'.ev en) (by omega) hl hxr hch b2
   exact ⟨kr ((jo3 h' hc' hv' h1 h0 hlo ((jat n _ x).e0 b2) r1).must),(hv'.ev en).ev ((jat n _ _).trans (jbm _ _ _))⟩
  ·have e:jab (n+1) c a=(jac n (jac n ((c.noteF a).named a).1 ((c.noteF a).kid a 0)).1 ((c.noteF a).kid a 1)).1.must (decide (((c.noteF a).named a).2=4) && decide ((jac n ((c.noteF a).named a).1 ((c.noteF a).kid a 0)).2=1) && decide ((jac n (jac n ((c.noteF a).named a).1 ((c.noteF a).kid a 0)).1 ((c.noteF a).kid a 1)).2=1)) a:=by unfold jab;simp only;rw [hnode,k];rfl
   obtain ⟨x,y,hl,hxe,hye⟩:=sh.two (by omega)
   have hk0:(c.noteF a).kid a 0=x:=by rw [kd,hl];rfl
   have hk1:(c.noteF a).kid a 1=y:=by rw [kd,hl];rfl
   rw [e] at he ⊢
   rw [hk0,hk1] at he ⊢
   obtain ⟨b1,b2⟩:=jbc he
   have en:=jbQ (c.noteF a) a
   have r1:=juz ht (h'.ev en) (en.tree.trans hc') (hv'.ev en) (by omega) hl hxe hye hch b2
   exact ⟨kr ((jo3 h' hc' hv' h1 h0 hlo ((jat n _ x).e0 ((jat n _ y).e0 b2)) r1).must),(hv'.ev en).ev (((jat n _ _).trans (jat n _ _)).trans (jbm _ _ _))⟩
  ·have e:jab (n+1) c a=(jac n (c.noteF a) ((c.noteF a).kid a 0)).1:=by unfold jab;simp only;rw [hnode,k];rfl
   obtain ⟨x,hl,hxk⟩:=sh.do_ k
   have hk0:(c.noteF a).kid a 0=x:=by rw [kd,hl];rfl
   rw [e] at he ⊢
   rw [hk0] at he ⊢
   have r1:=jmu ht h' hc' hv' (by omega) hl (by rw [hxk];unfold isR;omega) hch he
   exact ⟨(kr r1).node (hno (by omega)),hv'.ev (jat n _ _)⟩
  ·have e:jab (n+1) c a=(jac n (c.noteF a) ((c.noteF a).kid a 0)).1.must (!decide ((jac n (c.noteF a) ((c.noteF a).kid a 0)).2=4)) a:=by unfold jab;simp only;rw [hnode,k];rfl
   obtain ⟨x,hl,hxe⟩:=sh.one (by omega)
   have hk0:(c.noteF a).kid a 0=x:=by rw [kd,hl];rfl
   rw [e] at he ⊢
   rw [hk0] at he ⊢
   obtain ⟨b1,b2⟩:=jbc he
   have r1:=jmu ht h' hc' hv' (by omega) hl (.inl hxe) hch b2
   exact ⟨((kr r1).must).node (hno (by omega)),hv'.ev ((jat n _ _).trans (jbm _ _ _))⟩
  ·have e:jab (n+1) c a=jbd (jac n) (c.noteF a) a:=by unfold jab;simp only;rw [hnode,k];rfl
   rw [e] at he ⊢
   unfold jbd at he ⊢
   rw [hnode] at he ⊢
   simp only at he ⊢
   split at he
   ·exact (jbJ (by decide) he).elim
   rename_i hf
   rw [if_neg hf]
   rcases sh.ret k with hl | ⟨x,hl,hxe⟩
   ·rw [hl]
    rw [if_neg (by decide)]
    rw [hl] at hch
    have:lo=a.toNat:=by cases hch;rfl
    subst this
    exact ⟨(kr (SlR.refl t a.toNat (c.noteF a))).node (hno (by omega)),hv'⟩
   ·have hk0:(c.noteF a).kid a 0=x:=by rw [kd,hl];rfl
    have hl1:(nth t.nodes a.toNat).l.length=1:=by rw [hl];rfl
    rw [if_pos hl1] at he ⊢
    rw [hk0] at he ⊢
    obtain ⟨b1,b2⟩:=jbc he
    have r1:=jmu ht h' hc' hv' (by omega) hl (.inl hxe) hch b2
    exact ⟨((kr r1).must).node (hno (by omega)),hv'.ev ((jat n _ _).trans (jbm _ _ _))⟩
  ·have e:jab (n+1) c a=jaz (jaJ (jab n)) ((jac n (c.noteF a) ((c.noteF a).kid a 0)).1.must (decide ((jac n (c.noteF a) ((c.noteF a).kid a 0)).2=2)) a) (((c.noteF a).node a).l.drop 1):=by
    unfold jab;simp only;rw [hnode];rcases k with k | k<;>rw [k]<;>rfl
   have hsh:∃ x L,(nth t.nodes a.toNat).l=x::L∧isE (jaj t.nodes x)∧∀ y∈L,jaj t.nodes y=18:=by
    rcases k with k | k
    ·obtain ⟨x,y,hx,hy,hl | ⟨z,hl,hz⟩⟩:=sh.if_ k
     ·exact ⟨x,[y],hl,hx,fun u hu=>by rw [List.mem_singleton.1 hu];exact hy⟩
     ·exact ⟨x,[y,z],hl,hx,fun u hu=>by
       rcases List.mem_cons.1 hu with rfl | hu
       ·exact hy
       ·rw [List.mem_singleton.1 hu];exact hz⟩
    ·obtain ⟨x,y,hl,hx,hy⟩:=sh.while_ k
     exact ⟨x,[y],hl,hx,fun u hu=>by rw [List.mem_singleton.1 hu];exact hy⟩
   obtain ⟨x,L,hl,hxe,hL⟩:=hsh
   have hk0:(c.noteF a).kid a 0=x:=by rw [kd,hl];rfl
   rw [e] at he ⊢
   rw [hnode,hl,hk0] at he ⊢
   have he:(jaz (jaJ (jab n)) ((jac n (c.noteF a) x).1.must (decide ((jac n (c.noteF a) x).2=2)) a) L).e=0:=he
   show SlR t lo (a.toNat+1) c (jaz (jaJ (jab n)) ((jac n (c.noteF a) x).1.must (decide ((jac n (c.noteF a) x).2=2)) a) L)∧VarsS (jaz (jaJ (jab n)) ((jac n (c.noteF a) x).1.must (decide ((jac n (c.noteF a) x).2=2)) a) L)
   have ex:=(jat n (c.noteF a) x).trans (jbm _ (decide ((jac n (c.noteF a) x).2=2)) a)
   have hin:=h'.ev ex
   have hsb:∀ (q:Ck) b,CkIn q→q.e=0→Sv q (jaJ (jab n) q b):=fun q b hq _=>(jck (jaC n) hq b).1
   have e1:=(jb7 hsb L _ hin).e0 he
   obtain ⟨b1,b2⟩:=jbc e1
   rw [hl] at hch
   obtain ⟨c1,c2,c3,c4,c5,c6⟩:=jcI hch
   have r1:=jg0 ht n (c.noteF a) x lo h' hc' hv' c1 c2 (by omega) (.inl hxe) c5 b2
   obtain ⟨r2,v2⟩:=jgl hsb (C:=fun k=>k=18) (n:=n) (fun q b l g1 g2 g3 _ g5 g6 g7 g8 g9 g10=>jib ht hs q b l g1 g2 g3 g5 g6 (by omega) g8 g9 g10) L _ (x.toNat+1) a.toNat hin (ex.tree.trans hc') (hv'.ev ex) (by omega) hL c6 he
   exact ⟨((kr r1.must).seq (by omega) (by omega) r2).node (hno (by omega)),v2⟩
theorem jjh (body:Int):∀ (ps:List GParam) (c:Ck) (i:Int),VarsS c→c.size=i→VarsS (jav body c ps i)∧(jav body c ps i).slots=c.slots∧(jav body c ps i).size=i+ps.length
 | [],c,i,h,hi=>by unfold jav;exact ⟨h,rfl,by simp;exact hi⟩
 | p::ps,c,i,h,hi=>by
  have fin:∀ c1:Ck,Ev c c1→c1.slots=c.slots→VarsS (jav body (jdr c1 ⟨p.name,p.ty,i⟩) ps (i+1))∧(jav body (jdr c1 ⟨p.name,p.ty,i⟩) ps (i+1)).slots=c.slots∧(jav body (jdr c1 ⟨p.name,p.ty,i⟩) ps (i+1)).size=i+(p::ps).length:=fun c1 s e=>by
   have hz:=s.size
   have h1:=h.ev s
   have h0:=h.1
   obtain ⟨a,b,d⟩:=jjh body ps (jdr c1 ⟨p.name,p.ty,i⟩) (i+1) ⟨by show 0≤c1.size+1;omega,fun v hv=>by
    have hv:v∈c1.vars++[(⟨p.name,p.ty,i⟩:GVar)]:=hv
    show 0≤v.slot∧v.slot < c1.size+1
    rcases List.mem_append.1 hv with hv | hv
    ·have:=h1.2 v hv
     omega
    ·rw [List.mem_singleton.1 hv]
     show 0≤i∧i < _
     omega⟩ (by show c1.size+1=i+1;omega)
   exact ⟨a,b.trans e,by rw [d,List.length_cons];omega⟩
  unfold jav
  simp only
  split
  ·exact fin _ (jbP c (by decide) body) (jiF _ _ _).1
  ·exact fin _ (.refl c) rfl
structure FnS (t:GTree) (sl:List Int) (k lo:Nat) (z:Int):Prop where
 par:((nth t.fns k).params.length:Int)≤z
 hi:z≤24
 all:∀ i,lo≤i→i < (nth t.fns k).body.toNat+1→jdH (nth t.nodes i).kind→0≤nth sl i∧nth sl i < z
 chain:Chain t.nodes lo (nth t.nodes (nth t.fns k).body.toNat).l (nth t.fns k).body.toNat
theorem FnS.keep {t:GTree} {sl sl':List Int} {k lo:Nat} {z:Int} (h:FnS t sl k lo z) (e:∀ i,i < (nth t.fns k).body.toNat+1→nth sl' i=nth sl i):FnS t sl' k lo z:=⟨h.par,h.hi,fun i h1 h2 h3=>by rw [e i h2];exact h.all i h1 h2 h3,h.chain⟩
theorem jjg {t:GTree} (ht:TreeOk t) {c:Ck} (h:CkIn0 c) (hc:c.tree=t) {k:Nat} (hk:k < t.fns.length) (hsz:c.size_.length < 6) {lo:Nat} (hch:Chain t.nodes lo (nth t.nodes (nth t.fns k).body.toNat).l (nth t.fns k).body.toNat) (he:(jar c k).e=0) :
  (∀ i,(i < lo∨(nth t.fns k).body.toNat+1≤i)→nth (jar c k).slots i=nth c.slots i)∧FnS t (jar c k).slots k lo (jar c k).size∧(jar c k).size_=c.size_++[(jar c k).size]:=by
 have hk':k < c.tree.fns.length:=by rw [hc];exact hk
 have hp3:=h.tree.fn _ (jaw hk')
 have hi0:CkIn { c with fn:=(k:Int),vars:=[],more:=[],size:=0 }:=⟨h.tree,h.types,h.slots,h.fns,by show c.size_.length≤6;omega,by show (0:Int)≤k;omega,by show (k:Int) < (c.tree.fns.length:Int);omega,by show ((0:Nat):Int)≤0;omega,by show (0:Int)≤25;omega,fun _=>by show (0:Int)≤24;omega⟩
 obtain ⟨a,b,d⟩:=jeC (nth c.tree.fns k).body (nth c.tree.fns k).params _ 0 hi0 (by show (0:Int)+_≤20;omega)
 obtain ⟨a',b',d'⟩:=jjh (nth c.tree.fns k).body (nth c.tree.fns k).params { c with fn:=(k:Int),vars:=[],more:=[],size:=0 } 0 ⟨by show (0:Int)≤0;omega,fun v hv=>by simp at hv⟩ rfl
 have hbN:=jcU ht hk
 have hbk:=ht.body _ (jaw hk)
 unfold jar at he ⊢
 simp only at he ⊢
 rw [hc] at he ⊢
 rw [hc] at a b d a' b' d'
 split at he
 ·rename_i e1
  rw [if_pos e1]
  have sv:=(jck (jaC t.nodes.length) a (nth t.fns k).body).1
  obtain ⟨r,_⟩:=jib ht (jg1 ht t.nodes.length) _ (nth t.fns k).body lo a (b.trans (by rfl)) a' hbN.1 hbN.2 (by have:=hbN.2;have:=hbN.1;omega) hbk hch he
  have q:=SlR.size r
  have hroom:=sv.inv.room he
  refine ⟨fun i hi=>(r.sw i hi).trans (by rw [b']),⟨?_,hroom,r.all,hch⟩,?_⟩
  ·show _≤(jaJ _ _ _).size
   rw [d'] at q
   omega
  ·show (jaJ _ _ _).size_++[_]=_
   rw [sv.size_,d]
 ·rename_i e1
  exact (e1 he).elim
def jeO (t:GTree) (k:Nat):Nat:=if k=0 then 0 else (nth t.fns (k - 1)).body.toNat+1
theorem jhD {t:GTree} (ht:TreeOk t):∀ (n i lo:Nat) (c:Ck),CkIn0 c→c.tree=t→c.size_.length=i→i+n=t.fns.length→lo=jeO t i→Chain t.nodes lo ((t.fns.drop i).map (·.body)) t.nodes.length→(∀ j,j < i→FnS t c.slots j (jeO t j) (nth c.size_ j)∧(nth t.fns j).body.toNat < lo)→(jan c i n).e=0→
  ∀ j,j < t.fns.length→FnS t (jan c i n).slots j (jeO t j) (nth (jan c i n).size_ j)
 | 0,i,lo,c,h,hc,hs,hi,hlo,hch,hA,he=>by
  unfold jan
  exact fun j hj=>(hA j (by omega)).1
 | n+1,i,lo,c,h,hc,hs,hi,hlo,hch,hA,he=>by
  have h6:=ht.fns
  unfold jan at he ⊢
  by_cases e0:c.e=0
  ·rw [if_pos e0] at he ⊢
   have hk:i < t.fns.length:=by omega
   rw [jbj hk] at hch
   obtain ⟨c1,c2,c3,c4,c5,c6⟩:=jcI (a:=(nth t.fns i).body) hch
   obtain ⟨f1,f2,f3⟩:=jdj h (by rw [hc];exact hk) (by omega:c.size_.length < 6)
   have e1:(jar c i).e=0:=by
    cases n with
    | zero=>unfold jan at he;exact he
    | succ m=>
     unfold jan at he
     split at he
     ·assumption
     ·exact he
   obtain ⟨r1,r2,r3⟩:=jjg ht h hc hk (by omega) c5 e1
   refine jhD ht n (i+1) ((nth t.fns i).body.toNat+1) (jar c i) f1 (f2.trans hc) (by omega) (by omega) (by unfold jeO;rw [if_neg (by omega)];rfl) c6 (fun j hj=>?_) he
   by_cases hji:j < i
   ·obtain ⟨g1,g2⟩:=hA j hji
    have hz:nth (jar c i).size_ j=nth c.size_ j:=by rw [r3,jbe (by omega)]
    rw [hz]
    exact ⟨g1.keep fun q hq=>r1 q (.inl (by omega)),by omega⟩
   ·have:j=i:=by omega
    subst this
    have hz:nth (jar c j).size_ j=(jar c j).size:=by rw [r3,← hs];exact jdc _ _
    rw [hz,← hlo]
    exact ⟨r2,by omega⟩
  ·rw [if_neg e0] at he
   exact (e0 he).elim
theorem jpa {x:GFunc}:∀ (l:List GFunc) (c:Ck),(jcL x c l).e=0→c.e=0∧∀ f∈l,f.name≠x.name
 | [],c,h=>⟨by unfold jcL at h;exact h,fun f hf=>by simp at hf⟩
 | f::l,c,h=>by
  unfold jcL at h
  obtain ⟨h1,h2⟩:=jpa l _ h
  obtain ⟨h3,h4⟩:=jeg (by decide) h1
  rw [h4] at h1
  exact ⟨h1,fun g hg=>by
   rcases List.mem_cons.1 hg with rfl | hg
   ·exact h3
   ·exact h2 g hg⟩
theorem jlV (fns:List GFunc):∀ (n i:Nat) (c:Ck) (m:Bool),i+n=fns.length→(jcu fns c m i n).1.e=0→c.e=0∧(∀ j,i≤j→j < fns.length→∀ f∈fns.take j,f.name≠(nth fns j).name)∧((jcu fns c m i n).2=true→m=true∨∃ j,j < fns.length∧jj8 (nth fns j)=true)
 | 0,i,c,m,hi,h=>by
  unfold jcu at h ⊢
  exact ⟨h,fun j h1 h2=>by omega,fun h=>.inl h⟩
 | n+1,i,c,m,hi,h=>by
  unfold jcu at h ⊢
  obtain ⟨h1,h2,h3⟩:=jlV fns n (i+1) _ _ (by omega) h
  obtain ⟨h4,h5⟩:=jpa _ _ h1
  refine ⟨h4,fun j g1 g2=>?_,fun hm=>?_⟩
  ·by_cases e:j=i
   ·subst e;exact h5
   ·exact h2 j (by omega) g2
  ·rcases h3 hm with h | h
   ·rcases Bool.or_eq_true _ _ |>.mp h with h | h
    ·exact .inl h
    ·exact .inr ⟨i,by omega,h⟩
   ·exact .inr h
structure FnN (t:GTree):Prop where
 one:∀ i j,i < j→j < t.fns.length→(nth t.fns i).name≠(nth t.fns j).name
 main:∃ j,j < t.fns.length∧jj8 (nth t.fns j)=true
theorem jsZ {c:Ck} (h:(jbX c).e=0):c.e=0∧FnN c.tree:=by
 unfold jbX at h
 simp only at h
 split at h
 ·rename_i hm
  obtain ⟨h1,h2,h3⟩:=jlV c.tree.fns c.tree.fns.length 0 c false (by omega) h
  refine ⟨h1,⟨fun i j hi hj=>h2 j (by omega) hj _ ?_,?_⟩⟩
  ·rw [ja3 (by omega)]
   exact List.mem_take_iff_getElem.2 ⟨i,by omega,rfl⟩
  ·rcases h3 hm with h | h
   ·cases h
   ·exact h
 ·exact (jbJ (by decide) h).elim
theorem jlR (f:GFunc→ByteArray) (nm:ByteArray):∀ (l:List GFunc) (i k:Int),(∀ a b,a < b→b < l.length→f (nth l a)≠f (nth l b))→(∃ v∈l,f v=nm)→jda f nm l i k=jb4 f nm l i
 | [],i,k,h,hx=>by obtain ⟨v,hv,_⟩:=hx;simp at hv
 | v::l,i,k,h,hx=>by
  unfold jda jb4
  have hl:∀ a b,a < b→b < l.length→f (nth l a)≠f (nth l b):=fun a b h1 h2=>h (a+1) (b+1) (by omega) (by rw [List.length_cons];omega)
  by_cases hv:f v=nm
  ·rw [if_pos hv,if_pos hv]
   have hn:∀ u∈l,f u≠nm:=fun u hu hh=>by
    obtain ⟨q,hq,rfl⟩:=List.mem_iff_getElem.1 hu
    exact h 0 (q+1) (by omega) (by rw [List.length_cons];omega) (by rw [show nth (v::l) 0=v from rfl,show nth (v::l) (q+1)=l[q] from by rw [ja3 (by rw [List.length_cons];omega)];rfl,hv,hh])
   have:∀ (l:List GFunc) (i k:Int),(∀ u∈l,f u≠nm)→jda f nm l i k=k:=fun l=>by
    induction l with
    | nil=>intro i k _;rfl
    | cons u l ih=>
     intro i k hu
     unfold jda
     rw [if_neg (hu u (by simp)),ih (i+1) k fun w hw=>hu w (by simp [hw])]
   exact this l _ _ hn
  ·rw [if_neg hv,if_neg hv]
   exact jlR f nm l (i+1) k hl (by
    obtain ⟨u,hu,hh⟩:=hx
    rcases List.mem_cons.1 hu with rfl | hu
    ·exact (hv hh).elim
    ·exact ⟨u,hu,hh⟩)
structure SOk (p:GProg):Prop where
 ok:POk p
 fns:∀ j,j < p.tree.fns.length→FnS p.tree p.slots j (jeO p.tree j) (nth p.size j)
 names:FnN p.tree
theorem jmV {t:GTree} (ht:TreeOk t) (he:(jaP t).2.2=0):SOk (jaP t).1:=by
 have hp:=(jkF ht he).1
 unfold jaP at he hp ⊢
 split at he
 ·rename_i h;exact (h he).elim
 rename_i h
 rw [if_neg h] at hp ⊢
 have h:(jcz t).e=0:=by omega
 obtain ⟨i1,i2,i3⟩:=jkX ht
 have q:=jhD ht t.fns.length 0 0 (jbX (ck0 t)) i1 i2 (by rw [i3];rfl) (by omega) rfl (by rw [List.drop_zero];exact ht.chain) (fun j hj=>by omega) h
 obtain ⟨_,q1,_⟩:=jc2 ht t.fns.length 0 0 (jbX (ck0 t)) i1 i2 (by rw [i3];rfl) (by omega) (by rw [List.drop_zero];exact ht.chain) h
 have he:(jcz t).tree=t:=q1
 have h0:(jbX (ck0 t)).e=0:=by
  have hpos:=h
  unfold jcz at hpos
  cases hn:t.fns.length with
  | zero=>rw [hn] at hpos;unfold jan at hpos;exact hpos
  | succ m=>
   rw [hn] at hpos
   unfold jan at hpos
   split at hpos
   ·assumption
   ·exact hpos
 refine ⟨hp,?_,?_⟩
 ·show ∀ j,j < (jcz t).tree.fns.length→FnS (jcz t).tree (jcz t).slots j (jeO (jcz t).tree j) (nth (jcz t).size_ j)
  rw [he];exact q
 ·show FnN (jcz t).tree
  rw [he];exact (jsZ h0).2
theorem jc1 {s:ByteArray} (he:(jaX s).2.2=0):SOk (jaX s).1:=by
 unfold jaX at he ⊢
 split at he
 ·rename_i h;exact (h he).elim
 rename_i h
 rw [if_neg h]
 have h:(jaL s).2.2=0:=by omega
 simp only at he ⊢
 split at he
 ·cases he
 rename_i h2
 split at he
 ·rename_i h3;exact (h3 he).elim
 rename_i h3
 rw [if_neg h2,if_neg h3]
 exact jmV (je4 h) (by omega)
end Go.Proofs.YtfkgcobaheegbaaGreatDoor
