/- The law SourceCalls: what it says is so. No conditions. -/
import Derived.Test.YtfkgcobaheegbaaGreatDoorLqX
import Derived.Test.YtfkgcobaheegbaaGreatDoorSrH
set_option linter.all false
namespace Go.Proofs.YtfkgcobaheegbaaGreatDoor
open Go Go.Gd
set_option maxHeartbeats 4000000
set_option maxRecDepth 10000
theorem jlk (s:ByteArray) (inp:List Int) (a:Int) (hi:∀ x∈inp,rng x) (ha:0≤a∧a < 256):PCall Tryz.prog 7 [rS s,jal eI 1 inp,.raw (.int .u8 a)] (rB true):=by
 have hs:=jic (jdm s) (jgY s)
 have hok:=@jc1 (jdm s)
 obtain ⟨n,hn,ea⟩:=jqo 101 (by decide) ha
 have ea:a.tmod 101=(n:Int):=ea
 generalize jaX (jdm s)=R at hs hok
 obtain ⟨p,x,e⟩:=R
 simp only at hs hok
 by_cases he:e=0
 rotate_left
 ·refine jb9 Tryz.func7 Tryz.ntmps7 ?_
  (have W:=he;repeat' (first|refine jaa fun K hK=>?_|refine wkA ?_|(refine hK _ _ ?_;clear hK K)|(refine jae (fun hc=>?_) (fun hc=>?_)<;>first | contradiction | (exfalso;omega) | skip)|refine cp (jgZ) ?_|refine cp (jgX _) ?_|refine al 0 ?_|refine cp (hs) ?_|refine wkB ?_|exact True.intro|(clear hK K)));all_goals (try clear W)
  (refine ja2 [.tmp 6] ?_;try simp only [go_sem])
 have hp:SOk p:=hok he
 have hin:=jnd inp
 have hir:=jne hi
 have hl:(jd9 inp).length≤1000:=by omega
 have hst:=jig hp
 refine jb9 Tryz.func7 Tryz.ntmps7 ?_
 (have W:=he;repeat' (first|refine jaa fun K hK=>?_|refine wkA ?_|(refine hK _ _ ?_;clear hK K)|(refine jae (fun hc=>?_) (fun hc=>?_)<;>first | contradiction | (exfalso;omega) | skip)|refine cp (jgZ) ?_|refine cp (jgX _) ?_|refine al 0 ?_|refine al 1 ?_|refine cp (hs) ?_|refine cp (jkZ _) ?_|refine cp (hst) ?_|refine wkB ?_|exact True.intro|(clear hK K)));all_goals (try clear W)
 have hKo:=hK;clear hK
 refine jah (S:=Nat) [(6,1),(12,9),(36,153)] (fun i=>i≤n) (fun i=>[(12,rI i)]) (fun i=>⟨[],[(0,.var 29 (jaB p)),(1,.var 39 (jao (je8 p (jd9 inp) i)))]⟩) (fun i=>n - i) 0 (by omega) (jaH rfl lle) ?_
 rintro i hi2 Kr hKr
 by_cases hlt:i < n
 rotate_left
 ·(refine S ?_;try exact True.intro)
  (have W:=ea;repeat' (first|refine jaa fun K hK=>?_|refine wkA ?_|(refine hK _ _ ?_;clear hK K)|(refine jae (fun hc=>?_) (fun hc=>?_)<;>first | contradiction | (exfalso;omega) | skip)|(refine hKo _ _ ?_)|refine wkB ?_|exact True.intro|(clear hK K)));all_goals (try clear W)
  (refine ja2 [.tmp 6] ?_;try simp only [go_sem])
 have hg:=jdd hp hl hir i
 have hg2:=jdd hp hl hir (i+1)
 have hq:=jwc hp hl hir i
 have e2:je8 p (jd9 inp) (i+1)=jdo p (je8 p (jd9 inp) i) (jd9 inp):=rfl
 obtain ⟨hq2,hf⟩:=jg9 hp hg hl hq
 have hs1:=jln hp hg (by omega) (jd9 inp) hl
 rw [← e2] at hs1 hq2 hf
 clear e2
 have hz:=hg.inv.fits hp
 have hz2:=hg2.inv.fits hp
 have hn1:=jfb hp hg.inv
 have hn2:=jfb hp hg2.inv
 have hnr:¬ ((je8 p (jd9 inp) i).status=2∨(je8 p (jd9 inp) i).status=3)→0≤jaS p (je8 p (jd9 inp) i)∧(jaS p (je8 p (jd9 inp) i)).toNat < p.tree.nodes.length:=fun h2=>by
  have hd:=hg.inv.doing (fun hh=>h2 (.inl hh)) 0 (by decide)
  obtain ⟨s0,s1,_⟩:=hd.stmt hp
  have hat:atV p (RS.of { je8 p (jd9 inp) i with status:=0 }).st=jaS p (je8 p (jd9 inp) i):=by rw [RS.of_st];unfold jaS;rw [if_neg h2];rfl
  rw [hat] at s0 s1
  exact ⟨s0,s1⟩
 clear hg hg2
 generalize h2e:je8 p (jd9 inp) (i+1)=s2 at *
 generalize je8 p (jd9 inp) i=s1 at *
 have f1:s2.frames.length≤s1.frames.length+1:=by rcases hf.nf with e | e<;>omega
 have f3:=hf.hl
 have f8:=hz2.frs
 have f9:=hz.frs
 have f11:=hz.heap
 have f12:=hz2.heap
 have hhl:=hf.len
 have hlow:=hf.low
 have hnf:=hf.nf
 have hfr:=hz.fr
 clear hf
 (refine S ?_;try exact True.intro)
 (have W:=ea;repeat' (first|refine jaa fun K hK=>?_|refine wkA ?_|(refine hK _ _ ?_;clear hK K)|(refine jae (fun hc=>?_) (fun hc=>?_)<;>first | contradiction | (exfalso;omega) | skip)|refine al 2 ?_|refine cp (hs1) ?_|refine wkB ?_|exact True.intro|(clear hK K)));all_goals (try clear W)
 have hKi:=hK;clear hK
 have hKb:=hK;clear hK
 refine jah (S:=Nat) [(6,1),(14,1),(55,27)] (fun k=>k≤s1.heap.length) (fun k=>[(14,rI k)]) (fun k=>⟨[],[(0,.var 29 (jaB p)),(1,.var 39 (jao s1)),(2,.var 39 (jao s2))]⟩) (fun k=>s1.heap.length - k) 0 (by omega) (jaH rfl lle) ?_
 rintro k hk Ks hKs
 by_cases hkl:k < s1.heap.length
 ·have hok:=hhl k hkl
  have hk2:k < s2.heap.length:=by omega
  (refine S ?_;try exact True.intro)
  (have W:=hok;repeat' (first|refine jaa fun K hK=>?_|refine wkA ?_|(with_reducible refine gR 16 ?_);refine dE 16 [0,1,2,3,4,5,6,7,8,9,10,11,12,13,14,15,16,17,18,19] mixed ?_|(refine hK _ _ ?_;clear hK K)|(refine jae (fun hc=>?_) (fun hc=>?_)<;>first | contradiction | (exfalso;omega) | skip)|refine wkB ?_|exact True.intro|(clear hK K)));all_goals (try clear W)
  refine hKs _ _ (jaD (k+1) (by omega) (by show s1.heap.length - (k+1) < s1.heap.length - k;omega) rfl lle)
 have hke:k=s1.heap.length:=by omega
 subst hke
 by_cases hgr:s1.frames.length < s2.frames.length
 ·have hcl:jnX p (jaS p s1)∧0≤jaS p s2∧s1.status≠2∧s1.status≠3:=by
   rcases hnf with e | ⟨_,e⟩
   ·omega
   ·exact e
  obtain ⟨⟨q1,q2⟩,q3,q4,q5⟩:=hcl
  obtain ⟨g1,g2⟩:=hnr (fun h=>h.elim q4 q5)
  unfold jag at q1 q2
  have sh:=(hp.ok.tree.shape _ g2).2.1 _ (jaw (l:=(nth p.tree.nodes (jaS p s1).toNat).l) (k:=0) (by omega))
  have q6:=sh.1
  have q7:=sh.2
  clear sh hnr
  generalize jaS p s1=x1 at *
  generalize hnd:nth p.tree.nodes x1.toNat=nd at *
  generalize hl0:nth nd.l 0=x2 at *
  have c2:((nd.l.length:Int)=0)=False:=eq_false (by omega)
  (refine S ?_;try exact True.intro)
  (have W:=And.intro hnd (And.intro c2 (And.intro hl0 (q2)));repeat' (first|refine jaa fun K hK=>?_|refine wkA ?_|(with_reducible refine gR 21 ?_);refine dE 21 [0,1,2,3,4,5,6,7,8,9,10,11,12,13,14,15,16,17,18,19,20,21,22] mixed ?_|(refine hK _ _ ?_;clear hK K)|(refine jae (fun hc=>?_) (fun hc=>?_)<;>first | contradiction | (exfalso;omega) | skip)|(refine hKi _ _ ?_)|refine al 3 ?_|refine cp (hn1) ?_|refine cq (hn2) ?_|refine wkB ?_|exact True.intro|(clear hK K)));all_goals (try clear W)
  have hKj:=hK;clear hK
  refine jah (S:=Nat) [(6,1),(17,4),(121,67)] (fun k=>k≤s1.frames.length) (fun k=>[(17,rI k)]) (fun k=>⟨[],[(0,.var 29 (jaB p)),(1,.var 39 (jao s1)),(2,.var 39 (jao s2)),(3,.var 53 (jaq nd))]⟩) (fun k=>s1.frames.length - k) 0 (by omega) (jaH rfl lle) ?_
  rintro k hkf Kt hKt
  by_cases hk2:k+1 < s1.frames.length∧k+1 < s2.frames.length
  rotate_left
  ·by_cases hk3:k+1 < s1.frames.length
   ·have hk4:¬ k+1 < s2.frames.length:=fun h=>hk2 ⟨hk3,h⟩
    (refine S ?_;try exact True.intro)
    (repeat' (first|refine jaa fun K hK=>?_|refine wkA ?_|(refine hK _ _ ?_;clear hK K)|(refine jae (fun hc=>?_) (fun hc=>?_)<;>first | contradiction | (exfalso;omega) | skip)|refine wkB ?_|exact True.intro|(clear hK K)))
    all_goals refine hKr _ _ (ja5 [2,3] (i+1) (by omega) (by show n - (i+1) < n - i;omega) rfl Sd (by rw [h2e];rfl) vtl)
   ·(refine S ?_;try exact True.intro)
    (repeat' (first|refine jaa fun K hK=>?_|refine wkA ?_|(refine hK _ _ ?_;clear hK K)|(refine jae (fun hc=>?_) (fun hc=>?_)<;>first | contradiction | (exfalso;omega) | skip)|(refine hKj _ _ ?_)|(refine hKb _ _ ?_)|refine wkB ?_|exact True.intro|(clear hK K)))
    refine hKr _ _ (ja5 [2,3] (i+1) (by omega) (by show n - (i+1) < n - i;omega) rfl Sd (by rw [h2e];rfl) vtl)
  obtain ⟨hk3,hk4⟩:=hk2
  have hy:=hlow k hk3 hk4
  obtain ⟨z1,z2⟩:=hfr k (by omega)
  generalize hx:nth s1.frames k=f at *
  (refine S ?_;try exact True.intro)
  (have W:=And.intro hx (hy);repeat' (first|refine jaa fun K hK=>?_|refine wkA ?_|(refine hK _ _ ?_;clear hK K)|(refine jae (fun hc=>?_) (fun hc=>?_)<;>first | contradiction | (exfalso;omega) | skip)|refine al 4 ?_|refine al 5 ?_|refine wkB ?_|exact True.intro|(clear hK K)));all_goals (try clear W)
  have hKm:=hK;clear hK
  refine jah (S:=Nat) [(6,1),(20,1),(170,18)] (fun j=>j≤f.slots.length) (fun j=>[(20,rI j)]) (fun j=>⟨[],[(0,.var 29 (jaB p)),(1,.var 39 (jao s1)),(2,.var 39 (jao s2)),(3,.var 53 (jaq nd)),(4,.var 57 (jaN f)),(5,.var 57 (jaN f))]⟩) (fun j=>f.slots.length - j) 0 (by omega) (jaH rfl lle) ?_
  rintro j hj Kv hKv
  by_cases hjl:j < f.slots.length
  ·(refine S ?_;try exact True.intro)
   (repeat' (first|refine jaa fun K hK=>?_|refine wkA ?_|(with_reducible refine gR 33 ?_);refine dE 33 [0,1,2,3,4,5,6,7,8,9,10] mixed ?_|(refine hK _ _ ?_;clear hK K)|(refine jae (fun hc=>?_) (fun hc=>?_)<;>first | contradiction | (exfalso;omega) | skip)|refine wkB ?_|exact True.intro|(clear hK K)))
   refine hKv _ _ (jaD (j+1) (by omega) (by show f.slots.length - (j+1) < f.slots.length - j;omega) rfl lle)
  ·(refine S ?_;try exact True.intro)
   (repeat' (first|refine jaa fun K hK=>?_|refine wkA ?_|(refine hK _ _ ?_;clear hK K)|(refine jae (fun hc=>?_) (fun hc=>?_)<;>first | contradiction | (exfalso;omega) | skip)|(refine hKm _ _ ?_)|refine wkB ?_|exact True.intro|(clear hK K)))
   refine hKt _ _ (ja5 [4,5] (k+1) (by omega) (by show s1.frames.length - (k+1) < s1.frames.length - k;omega) rfl Sd rfl vtl)
 ·(refine S ?_;try exact True.intro)
  (repeat' (first|refine jaa fun K hK=>?_|refine wkA ?_|(refine hK _ _ ?_;clear hK K)|(refine jae (fun hc=>?_) (fun hc=>?_)<;>first | contradiction | (exfalso;omega) | skip)|(refine hKi _ _ ?_)|refine wkB ?_|exact True.intro|(clear hK K)))
  have hKj:=hK;clear hK
  refine jah (S:=Nat) [(6,1),(17,4),(121,67)] (fun k=>k≤s1.frames.length) (fun k=>[(17,rI k)]) (fun k=>⟨[],[(0,.var 29 (jaB p)),(1,.var 39 (jao s1)),(2,.var 39 (jao s2))]⟩) (fun k=>s1.frames.length - k) 0 (by omega) (jaH rfl lle) ?_
  rintro k hkf Kt hKt
  by_cases hk2:k+1 < s1.frames.length∧k+1 < s2.frames.length
  rotate_left
  ·by_cases hk3:k+1 < s1.frames.length
   ·have hk4:¬ k+1 < s2.frames.length:=fun h=>hk2 ⟨hk3,h⟩
    (refine S ?_;try exact True.intro)
    (repeat' (first|refine jaa fun K hK=>?_|refine wkA ?_|(refine hK _ _ ?_;clear hK K)|(refine jae (fun hc=>?_) (fun hc=>?_)<;>first | contradiction | (exfalso;omega) | skip)|(refine hKj _ _ ?_)|(refine hKb _ _ ?_)|refine wkB ?_|exact True.intro|(clear hK K)))
    refine hKr _ _ (ja5 [2] (i+1) (by omega) (by show n - (i+1) < n - i;omega) rfl Sd (by rw [h2e];rfl) vtl)
   ·(refine S ?_;try exact True.intro)
    (repeat' (first|refine jaa fun K hK=>?_|refine wkA ?_|(refine hK _ _ ?_;clear hK K)|(refine jae (fun hc=>?_) (fun hc=>?_)<;>first | contradiction | (exfalso;omega) | skip)|(refine hKj _ _ ?_)|(refine hKb _ _ ?_)|refine wkB ?_|exact True.intro|(clear hK K)))
    refine hKr _ _ (ja5 [2] (i+1) (by omega) (by show n - (i+1) < n - i;omega) rfl Sd (by rw [h2e];rfl) vtl)
  obtain ⟨hk3,hk4⟩:=hk2
  have hy:=hlow k hk3 hk4
  obtain ⟨z1,z2⟩:=hfr k (by omega)
  generalize hx:nth s1.frames k=f at *
  (refine S ?_;try exact True.intro)
  (have W:=And.intro hx (hy);repeat' (first|refine jaa fun K hK=>?_|refine wkA ?_|(refine hK _ _ ?_;clear hK K)|(refine jae (fun hc=>?_) (fun hc=>?_)<;>first | contradiction | (exfalso;omega) | skip)|refine al 4 ?_|refine al 5 ?_|refine wkB ?_|exact True.intro|(clear hK K)));all_goals (try clear W)
  have hKm:=hK;clear hK
  refine jah (S:=Nat) [(6,1),(20,1),(170,18)] (fun j=>j≤f.slots.length) (fun j=>[(20,rI j)]) (fun j=>⟨[],[(0,.var 29 (jaB p)),(1,.var 39 (jao s1)),(2,.var 39 (jao s2)),(4,.var 57 (jaN f)),(5,.var 57 (jaN f))]⟩) (fun j=>f.slots.length - j) 0 (by omega) (jaH rfl lle) ?_
  rintro j hj Kv hKv
  by_cases hjl:j < f.slots.length
  ·(refine S ?_;try exact True.intro)
   (repeat' (first|refine jaa fun K hK=>?_|refine wkA ?_|(with_reducible refine gR 33 ?_);refine dE 33 [0,1,2,3,4,5,6,7,8,9,10] mixed ?_|(refine hK _ _ ?_;clear hK K)|(refine jae (fun hc=>?_) (fun hc=>?_)<;>first | contradiction | (exfalso;omega) | skip)|refine wkB ?_|exact True.intro|(clear hK K)))
   refine hKv _ _ (jaD (j+1) (by omega) (by show f.slots.length - (j+1) < f.slots.length - j;omega) rfl lle)
  ·(refine S ?_;try exact True.intro)
   (repeat' (first|refine jaa fun K hK=>?_|refine wkA ?_|(refine hK _ _ ?_;clear hK K)|(refine jae (fun hc=>?_) (fun hc=>?_)<;>first | contradiction | (exfalso;omega) | skip)|(refine hKm _ _ ?_)|refine wkB ?_|exact True.intro|(clear hK K)))
   refine hKt _ _ (ja5 [4,5] (k+1) (by omega) (by show s1.frames.length - (k+1) < s1.frames.length - k;omega) rfl Sd rfl vtl)
end Go.Proofs.YtfkgcobaheegbaaGreatDoor
