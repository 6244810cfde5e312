/- The law SourceWaits: what it says is so. No conditions. -/
import Derived.Test.YtfkgcobaheegbaaGreatDoorLqS
import Derived.Test.YtfkgcobaheegbaaGreatDoorSoC
import Derived.Test.YtfkgcobaheegbaaGreatDoorGdR
set_option linter.all false
namespace Go.Proofs.YtfkgcobaheegbaaGreatDoor
open Go Go.Gd
set_option maxHeartbeats 4000000
set_option maxRecDepth 10000
theorem j0s (a:Int):0≤jdK BinOp.and IntKind.i64 a 63∧jdK BinOp.and IntKind.i64 a 63≤63:=by
 unfold jdK
 simp only
 have h:(BitVec.ofInt IntKind.i64.bits a &&& BitVec.ofInt IntKind.i64.bits 63).toNat≤63:=by
  rw [BitVec.toNat_and]
  exact Nat.le_trans Nat.and_le_right (by decide)
 generalize (BitVec.ofInt IntKind.i64.bits a &&& BitVec.ofInt IntKind.i64.bits 63).toNat=n at h
 rw [IntKind.wrap_i64]
 omega
theorem jkB (s:ByteArray) (inp:List Int) (a b:Int) (hi:∀ x∈inp,rng x) (ha:rng a) (hb:rng b):PCall Tryz.prog 6 [rS s,jal eI 1 inp,.agg [rI a,rI b]] (rB true):=by
 have hs:=jhD (jdy s) (jgC s)
 have hok:=@jdz (jdy s)
 generalize jbO (jdy s)=R at hs hok
 obtain ⟨p,x,e⟩:=R
 simp only at hs hok
 by_cases he:e=0
 rotate_left
 ·refine jbA Tryz.func6 Tryz.ntmps6 ?_
  (have W:=he;repeat' (first|refine jaa fun K hK=>?_|refine wkA ?_|(refine hK _ _ ?_;clear hK K)|(refine jad (fun hc=>?_) (fun hc=>?_)<;>first | contradiction | (exfalso;omega) | skip)|refine cp (jft) ?_|refine cp (jfs _) ?_|refine bx 5 ?_|refine al 0 ?_|refine cp (hs) ?_|refine wkB ?_|exact True.intro|(clear hK K)));all_goals (try clear W)
  (refine jaN [.tmp 6] ?_;try simp only [go_sem])
 have hp:SOk p:=hok he
 have hin:=jmu inp
 have hir:=jmv hi
 have hl:(jcq inp).length≤1000:=by omega
 obtain ⟨n,hn,en⟩:∃ n:Nat,n≤60∧(jdK BinOp.and IntKind.i64 a 63).tmod 61=(n:Int):=by
  have:=j0s a
  refine ⟨((jdK BinOp.and IntKind.i64 a 63).tmod 61).toNat,?_,?_⟩<;>(rw [Int.tmod_eq_emod_of_nonneg this.1];omega)
 have hml:(jcq inp++[b]).length=(jcq inp).length+1:=by simp
 have hmr:∀ x∈jcq inp++[b],rng x:=fun x hx=>by
  rcases List.mem_append.1 hx with h | h
  ·exact hir x h
  ·rw [List.mem_singleton.1 h];exact hb
 have hr1:=jjG hp (jcq inp) hl hir n (by omega)
 have hr2:=jjG hp (jcq inp++[b]) (by omega) hmr n (by omega)
 have hg:=jb1 hp hl hir n
 have hm2:List.map eI (jcq inp)++[[AV.raw (Value.int IntKind.i64 b)]]=List.map eI (jcq inp++[b]):=by simp [eI]
 by_cases hw:(jbS p (jcq inp) n).status=1
 rotate_left
 ·have hmo:=jku hp hl hir b n hw
  have hsm:=jit (jbS p (jcq inp) n) (jbS p (jcq inp) n) (hg.inv.fits hp)
  rw [decide_eq_true rfl] at hsm
  rw [hmo] at hr2
  clear hg hmo
  have hw':=eq_false hw
  generalize jbS p (jcq inp) n=s1 at *
  refine jbA Tryz.func6 Tryz.ntmps6 ?_
  (have W:=And.intro he (And.intro en (And.intro hw' (hm2)));repeat' (first|refine jfA (id:=9) [6] [(38,55)] [(13,jal eI 1 (jcq inp++[b]))] ?_|refine jaa fun K hK=>?_|refine wkA ?_|(with_reducible refine gR 8 ?_);refine dC 8 ([],[],[40]) [] [0,1,3,4,5,2,6,7] mixed ?_|(refine hK _ _ ?_;clear hK K)|(refine jad (fun hc=>?_) (fun hc=>?_)<;>first | contradiction | (exfalso;omega) | skip)|refine cp (jft) ?_|refine cp (jfs _) ?_|refine bx 5 ?_|refine al 0 ?_|refine al 1 ?_|refine al 2 ?_|refine j0t 6 ?_|refine cp (hs) ?_|refine cp (jhy _) ?_|refine cp (hr1) ?_|refine cp (hr2) ?_|refine cq (hsm) ?_|refine wkB ?_|exact True.intro|(clear hK K)));all_goals (try clear W)
  (refine jaN [.tmp 6] ?_;try simp only [go_sem])
 obtain ⟨w1,w2,w3,m,w4,w5,w6⟩:=jpk hp (inp:=jcq inp) (by omega) hir b n hw
 have hs1:=jkC hp hg (by omega) (jcq inp++[b]) (by omega)
 have hr3:=jjG hp (jcq inp++[b]) (by omega) hmr m (by omega)
 have hg3:=jb1 hp (inp:=jcq inp++[b]) (by omega) hmr m
 have hsm:=jit (jbS p (jcq inp++[b]) m) (jbS p (jcq inp++[b]) m) (hg3.inv.fits hp)
 rw [decide_eq_true rfl] at hsm
 rw [w6] at hr3 hsm
 rw [← w5] at hr3
 have ht0:=hg.t0
 have ht1:=hg.t1
 clear hg hg3 w6 w5
 have w2':=eq_false w2
 rw [hml] at w3
 generalize jbc p (jbS p (jcq inp) n) (jcq inp++[b])=s2 at *
 generalize jbS p (jcq inp) n=s1 at *
 generalize jbS p (jcq inp++[b]) n=s3 at *
 refine jbA Tryz.func6 Tryz.ntmps6 ?_
 (have W:=And.intro he (And.intro en (And.intro hw (And.intro w1 (And.intro w2' (And.intro w3 (hm2))))));repeat' (first|refine jfA (id:=9) [6] [(38,55)] [(13,jal eI 1 (jcq inp++[b]))] ?_|refine jaa fun K hK=>?_|refine wkA ?_|(with_reducible refine gR 8 ?_);refine dC 8 ([],[],[40]) [] [0,1,3,4,5,2,6,7] mixed ?_|(refine hK _ _ ?_;clear hK K)|(refine jad (fun hc=>?_) (fun hc=>?_)<;>first | contradiction | (exfalso;omega) | skip)|refine cp (jft) ?_|refine cp (jfs _) ?_|refine bx 5 ?_|refine al 0 ?_|refine al 1 ?_|refine al 2 ?_|refine al 3 ?_|refine al 4 ?_|refine j0t 6 ?_|refine cp (hs) ?_|refine cp (jhy _) ?_|refine cp (hr1) ?_|refine cp (hr2) ?_|refine cp (hr3) ?_|refine cp (hs1) ?_|refine cq (hsm) ?_|refine wkB ?_|exact True.intro|(clear hK K)));all_goals (try clear W)
 (refine jaN [.tmp 6] ?_;try simp only [go_sem])
end Go.Proofs.YtfkgcobaheegbaaGreatDoor
