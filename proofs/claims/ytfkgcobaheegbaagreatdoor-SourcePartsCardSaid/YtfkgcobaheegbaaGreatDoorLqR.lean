/- The laws SourceRuns and SourceParts: what they say is so. No conditions. -/
import Derived.Test.YtfkgcobaheegbaaGreatDoorLqS
import Derived.Test.YtfkgcobaheegbaaGreatDoorGdR
set_option linter.all false
namespace Go.Proofs.YtfkgcobaheegbaaGreatDoor
open Go Go.Gd
set_option maxHeartbeats 4000000
set_option maxRecDepth 10000
theorem jlM (s:ByteArray) (inp:List Int) (a:Int) (hi:∀ x∈inp,rng x) (ha:0≤a∧a < 256):PCall Tryz.prog 3 [rS s,jal eI 1 inp,.raw (.int .u8 a)] (rB true):=by
 have hs:=jhD (jdy s) (jgC s)
 have hok:=@jdz (jdy s)
 obtain ⟨n,hn,ea⟩:=jpx 101 (by decide) ha
 have ea:a.tmod 101=(n:Int):=ea
 generalize jbO (jdy s)=R at hs hok
 obtain ⟨p,x,e⟩:=R
 simp only at hs hok
 by_cases he:e=0
 rotate_left
 ·refine jbA Tryz.func3 Tryz.ntmps3 ?_
  (have W:=he;repeat' (first|refine jaa fun K hK=>?_|refine wkA ?_|(refine hK _ _ ?_;clear hK K)|(refine jad (fun hc=>?_) (fun hc=>?_)<;>first | contradiction | (exfalso;omega) | skip)|refine cp (jft) ?_|refine cp (jfs _) ?_|refine al 0 ?_|refine cp (hs) ?_|refine wkB ?_|exact True.intro|(clear hK K)));all_goals (try clear W)
  (refine jaN [.tmp 6] ?_;try simp only [go_sem])
 have hp:SOk p:=hok he
 have hin:=jmu inp
 have hir:=jmv hi
 have hl:(jcq inp).length≤1000:=by omega
 have hst:=joh hp
 have hst7:=js3 hp
 refine jbA Tryz.func3 Tryz.ntmps3 ?_
 (have W:=he;repeat' (first|refine jaa fun K hK=>?_|refine wkA ?_|(refine hK _ _ ?_;clear hK K)|(refine jad (fun hc=>?_) (fun hc=>?_)<;>first | contradiction | (exfalso;omega) | skip)|refine cp (jft) ?_|refine cp (jfs _) ?_|refine al 0 ?_|refine al 1 ?_|refine al 2 ?_|refine cp (hs) ?_|refine cp (jhy _) ?_|refine cp (hst) ?_|refine cp (hst7) ?_|refine wkB ?_|exact True.intro|(clear hK K)));all_goals (try clear W)
 have hKo:=hK;clear hK
 refine jah (S:=Nat) [(6,1),(13,2),(32,38)] (fun i=>i≤n+1) (fun i=>[(13,rI i)]) (fun i=>⟨[],[(0,.var 29 (jam p)),(1,.var 39 (jai (jbS p (jcq inp) i))),(2,.var 39 (jai (jbS p (jcq inp) i)))]⟩) (fun i=>n+1 - i) 0 (by omega) (jaE rfl lle) ?_
 rintro i hi2 Kr hKr
 by_cases hlt:i≤n
 ·have hg:=jb1 hp hl hir i
  have e2:jbS p (jcq inp) (i+1)=jbc p (jbS p (jcq inp) i) (jcq inp):=rfl
  have hg2:=jb1 hp hl hir (i+1)
  have hsm:=jit (jbS p (jcq inp) i) (jbS p (jcq inp) i) (hg.inv.fits hp)
  rw [decide_eq_true rfl] at hsm
  have hn1:=jhG hp hg.inv
  have hn7:=jki hp hg.inv
  have hcc:=hg.inv.cells
  have hc1:=jog (jbS p (jcq inp) i).heap (by omega)
  have hc7:=jnf (jbS p (jcq inp) i).heap (by omega)
  have hs1:=jkC hp hg (by omega) (jcq inp) hl
  have hs7:=jvE hp hg (by omega) (jcq inp) hl
  rw [← e2] at hs1 hs7
  clear e2 hg hg2
  generalize h2e:jbS p (jcq inp) (i+1)=s2 at *
  generalize jbS p (jcq inp) i=s1 at *
  (refine S ?_;try exact True.intro)
  (have W:=ea;repeat' (first|refine jaa fun K hK=>?_|refine wkA ?_|(with_reducible refine gR 12 ?_);refine dC 12 ([],[47,50,56,59],[]) [] [0,1,2,3,4,5,6,7,8,9,10,11,12,13,14,15,16,17,18,19] mixed ?_|(refine hK _ _ ?_;clear hK K)|(refine jad (fun hc=>?_) (fun hc=>?_)<;>first | contradiction | (exfalso;omega) | skip)|refine cp (hsm) ?_|refine cq (hn1) ?_|refine cq (hn7) ?_|refine cq (hc1) ?_|refine cq (hc7) ?_|refine cp (hs1) ?_|refine cp (hs7) ?_|refine wkB ?_|exact True.intro|(clear hK K)));all_goals (try clear W)
  refine hKr _ _ (jau (i+1) (by omega) (by show n+1 - (i+1) < n+1 - i;omega) ?_ lle)
  show _=Hp.mk [] [_,(1,Row.var _ (jai (jbS p (jcq inp) (i+1)))),(2,Row.var _ (jai (jbS p (jcq inp) (i+1))))]
  rw [h2e]
 ·have hie:i=n+1:=by omega
  subst hie
  (refine S ?_;try exact True.intro)
  (have W:=ea;repeat' (first|refine jaa fun K hK=>?_|refine wkA ?_|(refine hK _ _ ?_;clear hK K)|(refine jad (fun hc=>?_) (fun hc=>?_)<;>first | contradiction | (exfalso;omega) | skip)|(refine hKo _ _ ?_)|refine wkB ?_|exact True.intro|(clear hK K)));all_goals (try clear W)
  (refine jaN [.tmp 6] ?_;try simp only [go_sem])
theorem jkw (s:ByteArray) (inp:List Int) (a b:Int) (hi:∀ x∈inp,rng x) (ha:0≤a∧a < 256) (hb:0≤b∧b < 256):PCall Tryz.prog 4 [rS s,jal eI 1 inp,.agg [.raw (.int .u8 a),.raw (.int .u8 b)]] (rB true):=by
 have hs:=jhD (jdy s) (jgC s)
 have hok:=@jdz (jdy s)
 obtain ⟨n,hn,ea⟩:=jpx 51 (by decide) ha
 obtain ⟨m,hm,eb⟩:=jpx 51 (by decide) hb
 have ea:a.tmod 51=(n:Int):=ea
 have eb:b.tmod 51=(m:Int):=eb
 generalize jbO (jdy s)=R at hs hok
 obtain ⟨p,x,e⟩:=R
 simp only at hs hok
 by_cases he:e=0
 rotate_left
 ·refine jbA Tryz.func4 Tryz.ntmps4 ?_
  (have W:=he;repeat' (first|refine jaa fun K hK=>?_|refine wkA ?_|(refine hK _ _ ?_;clear hK K)|(refine jad (fun hc=>?_) (fun hc=>?_)<;>first | contradiction | (exfalso;omega) | skip)|refine cp (jft) ?_|refine cp (jfs _) ?_|refine bx 3 ?_|refine al 0 ?_|refine cp (hs) ?_|refine wkB ?_|exact True.intro|(clear hK K)));all_goals (try clear W)
  (refine jaN [.tmp 6] ?_;try simp only [go_sem])
 have hp:SOk p:=hok he
 have hin:=jmu inp
 have hir:=jmv hi
 have hl:(jcq inp).length≤1000:=by omega
 have hr1:=jjG hp (jcq inp) hl hir n (by omega)
 have hr2:=jjG hp (jcq inp) hl hir (n+m) (by omega)
 have e2:((n+m:Nat):Int)=(n:Int)+m:=by push_cast;rfl
 rw [e2] at hr2
 have hg:=jb1 hp hl hir n
 have hgm:=jb1 hp hl hir (n+m)
 have hcp:=jjU hp hg.inv
 have hsm:=jit (jbS p (jcq inp) n) (jbS p (jcq inp) n) (hg.inv.fits hp)
 have hsm2:=jit (jbS p (jcq inp) (n+m)) (jbS p (jcq inp) (n+m)) (hgm.inv.fits hp)
 rw [decide_eq_true rfl] at hsm hsm2
 clear hg hgm e2
 generalize h1e:jbS p (jcq inp) n=s1 at hr1 hcp hsm
 generalize h2e:jbS p (jcq inp) (n+m)=s2 at hr2 hsm2
 refine jbA Tryz.func4 Tryz.ntmps4 ?_
 (have W:=And.intro he (And.intro ea (eb));repeat' (first|refine jaa fun K hK=>?_|refine wkA ?_|(refine hK _ _ ?_;clear hK K)|(refine jad (fun hc=>?_) (fun hc=>?_)<;>first | contradiction | (exfalso;omega) | skip)|refine cp (jft) ?_|refine cp (jfs _) ?_|refine bx 5 ?_|refine al 0 ?_|refine al 1 ?_|refine al 2 ?_|refine al 3 ?_|refine cp (hs) ?_|refine cp (jhy _) ?_|refine cp (hr1) ?_|refine cp (hcp) ?_|refine wkB ?_|exact True.intro|(clear hK K)));all_goals (try clear W)
 have hKo:=hK;clear hK
 refine jah (S:=Nat) [(16,1),(47,9)] (fun i=>i≤m) (fun i=>[(16,rI i)]) (fun i=>⟨[],[(5,.var 46 [.raw (.int .u8 a),.raw (.int .u8 b)]),(0,.var 29 (jam p)),(1,.var 39 (jai s1)),(2,.var 39 (jai s1)),(3,.var 39 (jai (jbS p (jcq inp) (n+i))))]⟩) (fun i=>m - i) 0 (by omega) (jaE ?_ lle) ?_
 ·simp only [Nat.add_zero,h1e]
 rintro i hi2 Kr hKr
 by_cases hlt:i < m
 ·have hs1:=jkC hp (jb1 hp hl hir (n+i)) (by omega) (jcq inp) hl
  rw [show jbc p (jbS p (jcq inp) (n+i)) (jcq inp)=jbS p (jcq inp) (n+(i+1)) from rfl] at hs1
  generalize h3e:jbS p (jcq inp) (n+(i+1))=s3 at hs1
  generalize jbS p (jcq inp) (n+i)=s4 at *
  (refine S ?_;try exact True.intro)
  (repeat' (first|refine jaa fun K hK=>?_|refine wkA ?_|(refine hK _ _ ?_;clear hK K)|(refine jad (fun hc=>?_) (fun hc=>?_)<;>first | contradiction | (exfalso;omega) | skip)|refine cp (hs1) ?_|refine wkB ?_|exact True.intro|(clear hK K)))
  refine hKr _ _ (jau (i+1) (by omega) (by show m - (i+1) < m - i;omega) ?_ lle)
  show _=Hp.mk [] [_,_,_,_,(3,Row.var _ (jai (jbS p (jcq inp) (n+(i+1)))))]
  rw [h3e]
 ·have hie:i=m:=by omega
  subst hie
  rw [h2e]
  (refine S ?_;try exact True.intro)
  (repeat' (first|refine jaa fun K hK=>?_|refine wkA ?_|(refine hK _ _ ?_;clear hK K)|(refine jad (fun hc=>?_) (fun hc=>?_)<;>first | contradiction | (exfalso;omega) | skip)|(refine hKo _ _ ?_)|refine al 4 ?_|refine cp (hr2) ?_|refine cp (hsm) ?_|refine cq (hsm2) ?_|refine wkB ?_|exact True.intro|(clear hK K)))
  (refine jaN [.tmp 6] ?_;try simp only [go_sem])
end Go.Proofs.YtfkgcobaheegbaaGreatDoor
