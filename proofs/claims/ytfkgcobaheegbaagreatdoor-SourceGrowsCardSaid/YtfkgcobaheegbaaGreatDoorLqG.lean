/- The law SourceGrows: what it says is so. No conditions. -/
import Derived.Test.YtfkgcobaheegbaaGreatDoorLqX
import Derived.Test.YtfkgcobaheegbaaGreatDoorGdR
set_option linter.all false
namespace Go.Proofs.YtfkgcobaheegbaaGreatDoor
open Go Go.Gd
set_option maxHeartbeats 4000000
set_option maxRecDepth 10000
theorem jll (s:ByteArray) (inp:List Int) (a:Int) (hi:∀ x∈inp,rng x) (ha:0≤a∧a < 256):PCall Tryz.prog 5 [rS s,jal eI 1 inp,.raw (.int .u8 a)] (rB true):=by
 have hs:=jic (jdm s) (jgY s)
 have hok:=@jc1 (jdm s)
 obtain ⟨n,hn,ea⟩:=jqo 101 (by decide) ha
 have ea:a.tmod 101=(n:Int):=ea
 generalize jaX (jdm s)=R at hs hok
 obtain ⟨p,x,e⟩:=R
 simp only at hs hok
 by_cases he:e=0
 rotate_left
 ·refine jb9 Tryz.func5 Tryz.ntmps5 ?_
  (have W:=he;repeat' (first|refine jaa fun K hK=>?_|refine wkA ?_|(refine hK _ _ ?_;clear hK K)|(refine jae (fun hc=>?_) (fun hc=>?_)<;>first | contradiction | (exfalso;omega) | skip)|refine cp (jgZ) ?_|refine cp (jgX _) ?_|refine al 0 ?_|refine cp (hs) ?_|refine wkB ?_|exact True.intro|(clear hK K)));all_goals (try clear W)
  (refine ja2 [.tmp 6] ?_;try simp only [go_sem])
 have hp:SOk p:=hok he
 have hin:=jnd inp
 have hir:=jne hi
 have hl:(jd9 inp).length≤1000:=by omega
 have hst:=jig hp
 refine jb9 Tryz.func5 Tryz.ntmps5 ?_
 (have W:=he;repeat' (first|refine jaa fun K hK=>?_|refine wkA ?_|(refine hK _ _ ?_;clear hK K)|(refine jae (fun hc=>?_) (fun hc=>?_)<;>first | contradiction | (exfalso;omega) | skip)|refine cp (jgZ) ?_|refine cp (jgX _) ?_|refine al 0 ?_|refine al 1 ?_|refine cp (hs) ?_|refine cp (jkZ _) ?_|refine cp (hst) ?_|refine wkB ?_|exact True.intro|(clear hK K)));all_goals (try clear W)
 have hKo:=hK;clear hK
 refine jah (S:=Nat) [(6,1),(12,4),(31,162)] (fun i=>i≤n) (fun i=>[(12,rI i)]) (fun i=>⟨[],[(0,.var 29 (jaB p)),(1,.var 39 (jao (je8 p (jd9 inp) i)))]⟩) (fun i=>n - i) 0 (by omega) (jaH rfl lle) ?_
 rintro i hi2 Kr hKr
 by_cases hlt:i < n
 rotate_left
 ·(refine S ?_;try exact True.intro)
  (have W:=ea;repeat' (first|refine jaa fun K hK=>?_|refine wkA ?_|(refine hK _ _ ?_;clear hK K)|(refine jae (fun hc=>?_) (fun hc=>?_)<;>first | contradiction | (exfalso;omega) | skip)|(refine hKo _ _ ?_)|refine wkB ?_|exact True.intro|(clear hK K)));all_goals (try clear W)
  (refine ja2 [.tmp 6] ?_;try simp only [go_sem])
 have hg:=jdd hp hl hir i
 have hg2:=jdd hp hl hir (i+1)
 have hq:=jwc hp hl hir i
 have e2:je8 p (jd9 inp) (i+1)=jdo p (je8 p (jd9 inp) i) (jd9 inp):=rfl
 obtain ⟨hq2,hf⟩:=jg9 hp hg hl hq
 have hs1:=jln hp hg (by omega) (jd9 inp) hl
 rw [← e2] at hs1 hq2 hf
 clear e2
 have hz:=hg.inv.fits hp
 have hz2:=hg2.inv.fits hp
 have hcc:=hg2.inv.cells
 have hcl:=jbI (je8 p (jd9 inp) (i+1)).heap
 have hc1:=jo5 (je8 p (jd9 inp) (i+1)).heap (by omega)
 have hgo:(je8 p (jd9 inp) (i+1)).status≠2→1≤(je8 p (jd9 inp) (i+1)).frames.length:=hg2.inv.inv.go
 have ht0:=hg.t0
 have ht1:=hg.t1
 clear hg hg2
 generalize h2e:je8 p (jd9 inp) (i+1)=s2 at *
 generalize je8 p (jd9 inp) i=s1 at *
 obtain ⟨o,ho1,ho2⟩:=hf.out
 have f1:s1.out_.length≤s2.out_.length:=by rw [ho1];simp
 have f2:s2.out_.length≤s1.out_.length+1:=by rw [ho1];simp;omega
 have f3:=hf.hl
 have f4:=hf.i0
 have f5:=hq2.in1
 have f6:=hf.t0
 have f7:=hf.t1
 have f8:=hz2.frs
 have f9:=hz2.out
 have f10:=hz.out
 have f11:=hz.heap
 have f12:=hz2.heap
 have f13:=hq2.none
 have f14:=hq2.trap
 have hou:∀ k,k < s1.out_.length→nth s2.out_ k=nth s1.out_ k:=fun k hk=>by rw [ho1,jbe hk]
 have hstill:(s1.status=2∨s1.status=3)→s2.status=s1.status∧s2.time=s1.time:=fun h=>by rw [hf.still h];exact ⟨rfl,rfl⟩
 have hgo2:=hf.go
 clear ho1 hf
 (refine S ?_;try exact True.intro)
 (have W:=ea;repeat' (first|refine jaa fun K hK=>?_|refine wkA ?_|(refine hK _ _ ?_;clear hK K)|(refine jae (fun hc=>?_) (fun hc=>?_)<;>first | contradiction | (exfalso;omega) | skip)|refine al 2 ?_|refine cp (hs1) ?_|(first | refine cg (hc1) ?_ | refine cg' (hc1) ?_)|refine wkB ?_|exact True.intro|(clear hK K)));all_goals (try clear W)
 have hKi:=hK;clear hK
 have hKb:=hK;clear hK
 refine jah (S:=Nat) [(6,1),(14,1),(115,18)] (fun k=>k≤s1.out_.length) (fun k=>[(14,rI k)]) (fun k=>⟨[],[(0,.var 29 (jaB p)),(1,.var 39 (jao s1)),(2,.var 39 (jao s2))]⟩) (fun k=>s1.out_.length - k) 0 (by omega) (jaH rfl lle) ?_
 rintro k hk Ks hKs
 by_cases hkl:k < s1.out_.length
 ·have hok:=hou k hkl
  (refine S ?_;try exact True.intro)
  (have W:=hok;repeat' (first|refine jaa fun K hK=>?_|refine wkA ?_|(with_reducible refine gR 16 ?_);refine dE 16 [0,1,2,3,4,5,6,7,8,9,10] mixed ?_|(refine hK _ _ ?_;clear hK K)|(refine jae (fun hc=>?_) (fun hc=>?_)<;>first | contradiction | (exfalso;omega) | skip)|refine wkB ?_|exact True.intro|(clear hK K)));all_goals (try clear W)
  refine hKs _ _ (jaD (k+1) (by omega) (by show s1.out_.length - (k+1) < s1.out_.length - k;omega) rfl lle)
 have hke:k=s1.out_.length:=by omega
 subst hke
 by_cases hA:s1.status=2∨s1.status=3
 ·obtain ⟨g1,g2⟩:=hstill hA
  rcases hA with hA | hA
  ·have b1:s1.status=2:=hA
   have c1:s2.status=2:=by omega
   have c5:(s2.time=s1.time)=True:=eq_true g2
   have c7:s2.trap=0:=by omega
   have c8:s2.frames.length=0:=by omega
   (refine S ?_;try exact True.intro)
   (have W:=And.intro b1 (And.intro c1 (And.intro c5 (And.intro c7 (c8))));repeat' (first|refine jaa fun K hK=>?_|refine wkA ?_|(refine hK _ _ ?_;clear hK K)|(refine jae (fun hc=>?_) (fun hc=>?_)<;>first | contradiction | (exfalso;omega) | skip)|(refine hKi _ _ ?_)|(refine hKb _ _ ?_)|refine wkB ?_|exact True.intro|(clear hK K)));all_goals (try clear W)
   refine hKr _ _ (ja5 [2] (i+1) (by omega) (by show n - (i+1) < n - i;omega) rfl Sd (by rw [h2e];rfl) vtl)
  ·have b1:s1.status=3:=hA
   have c1:s2.status=3:=by omega
   have c5:(s2.time=s1.time)=True:=eq_true g2
   have c7:(s2.trap=0)=False:=eq_false (by omega)
   have c8:((s2.frames.length:Int)=0)=False:=eq_false (by omega)
   (refine S ?_;try exact True.intro)
   (have W:=And.intro b1 (And.intro c1 (And.intro c5 (And.intro c7 (c8))));repeat' (first|refine jaa fun K hK=>?_|refine wkA ?_|(refine hK _ _ ?_;clear hK K)|(refine jae (fun hc=>?_) (fun hc=>?_)<;>first | contradiction | (exfalso;omega) | skip)|(refine hKi _ _ ?_)|(refine hKb _ _ ?_)|refine wkB ?_|exact True.intro|(clear hK K)));all_goals (try clear W)
   refine hKr _ _ (ja5 [2] (i+1) (by omega) (by show n - (i+1) < n - i;omega) rfl Sd (by rw [h2e];rfl) vtl)
 have q0:=hq2.s0
 have q3:=hq2.s3
 have b1:(s1.status=2)=False:=eq_false fun e=>hA (.inl e)
 have b2:(s1.status=3)=False:=eq_false fun e=>hA (.inr e)
 have hgo3:=hgo2 hA
 rcases (show s2.status=0∨s2.status=1∨s2.status=2∨s2.status=3 by omega) with e | e | e | e
 ·have c1:s2.status=0:=e
  have c6:s2.time=s1.time+1:=hgo3 (by omega)
  have c7:s2.trap=0:=by omega
  have c8:((s2.frames.length:Int)=0)=False:=eq_false (by omega)
  (refine S ?_;try exact True.intro)
  (have W:=And.intro b1 (And.intro b2 (And.intro c1 (And.intro c6 (And.intro c7 (c8)))));repeat' (first|refine jaa fun K hK=>?_|refine wkA ?_|(refine hK _ _ ?_;clear hK K)|(refine jae (fun hc=>?_) (fun hc=>?_)<;>first | contradiction | (exfalso;omega) | skip)|(refine hKi _ _ ?_)|(refine hKb _ _ ?_)|refine wkB ?_|exact True.intro|(clear hK K)));all_goals (try clear W)
  refine hKr _ _ (ja5 [2] (i+1) (by omega) (by show n - (i+1) < n - i;omega) rfl Sd (by rw [h2e];rfl) vtl)
 ·have c1:s2.status=1:=e
  have c6:True:=trivial
  have c7:s2.trap=0:=by omega
  have c8:((s2.frames.length:Int)=0)=False:=eq_false (by omega)
  (refine S ?_;try exact True.intro)
  (have W:=And.intro b1 (And.intro b2 (And.intro c1 (And.intro c6 (And.intro c7 (c8)))));repeat' (first|refine jaa fun K hK=>?_|refine wkA ?_|(refine hK _ _ ?_;clear hK K)|(refine jae (fun hc=>?_) (fun hc=>?_)<;>first | contradiction | (exfalso;omega) | skip)|(refine hKi _ _ ?_)|(refine hKb _ _ ?_)|refine wkB ?_|exact True.intro|(clear hK K)));all_goals (try clear W)
  refine hKr _ _ (ja5 [2] (i+1) (by omega) (by show n - (i+1) < n - i;omega) rfl Sd (by rw [h2e];rfl) vtl)
 ·have c1:s2.status=2:=e
  have c6:s2.time=s1.time+1:=hgo3 (by omega)
  have c7:s2.trap=0:=by omega
  have c8:s2.frames.length=0:=by omega
  (refine S ?_;try exact True.intro)
  (have W:=And.intro b1 (And.intro b2 (And.intro c1 (And.intro c6 (And.intro c7 (c8)))));repeat' (first|refine jaa fun K hK=>?_|refine wkA ?_|(refine hK _ _ ?_;clear hK K)|(refine jae (fun hc=>?_) (fun hc=>?_)<;>first | contradiction | (exfalso;omega) | skip)|(refine hKi _ _ ?_)|(refine hKb _ _ ?_)|refine wkB ?_|exact True.intro|(clear hK K)));all_goals (try clear W)
  refine hKr _ _ (ja5 [2] (i+1) (by omega) (by show n - (i+1) < n - i;omega) rfl Sd (by rw [h2e];rfl) vtl)
 ·have c1:s2.status=3:=e
  have c6:s2.time=s1.time+1:=hgo3 (by omega)
  have c7:(s2.trap=0)=False:=eq_false (by omega)
  have c8:((s2.frames.length:Int)=0)=False:=eq_false (by omega)
  (refine S ?_;try exact True.intro)
  (have W:=And.intro b1 (And.intro b2 (And.intro c1 (And.intro c6 (And.intro c7 (c8)))));repeat' (first|refine jaa fun K hK=>?_|refine wkA ?_|(refine hK _ _ ?_;clear hK K)|(refine jae (fun hc=>?_) (fun hc=>?_)<;>first | contradiction | (exfalso;omega) | skip)|(refine hKi _ _ ?_)|(refine hKb _ _ ?_)|refine wkB ?_|exact True.intro|(clear hK K)));all_goals (try clear W)
  refine hKr _ _ (ja5 [2] (i+1) (by omega) (by show n - (i+1) < n - i;omega) rfl Sd (by rw [h2e];rfl) vtl)
end Go.Proofs.YtfkgcobaheegbaaGreatDoor
