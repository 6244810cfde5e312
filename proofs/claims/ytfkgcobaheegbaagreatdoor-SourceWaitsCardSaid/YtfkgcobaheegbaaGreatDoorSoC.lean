/- What a program means: returns, prints, tests. What a program means: tests; each statement. What a program means: a state that shares nothing. No conditions. -/
import Derived.Test.YtfkgcobaheegbaaGreatDoorSo9
import Derived.Test.YtfkgcobaheegbaaGreatDoorP8
set_option linter.all false
namespace Go.Proofs.YtfkgcobaheegbaaGreatDoor
open Go Go.Gd
set_option maxHeartbeats 4000000
set_option maxRecDepth 10000
theorem jpK {p:GProg} (h:SOk p) (R:RS) (hd:Doing p R) (inp:List Int) (hk:(jak p (atV p R.st)).kind=17) (R':RS) (tr:Int) (hR':(R',tr)=R.does p (atV p R.st) inp) :
  ACalls Tryz.prog 67 [.agg (jam p),.pt 0 0 0 0,rI (atV p R.st),jal eI 1 inp] (R.e 39 [] [] []) (fun r l=>r=rI tr∧l=R'.e 39 [] [] []):=by
 have hok:=hd.inv.ok
 have hnf:=hok.nf
 have h1:=hd.one
 have hfr:=hd.inv.frs
 have hcl:=jaO R.heap
 have hcc:=hd.cells
 have hst:=hd.stAt h
 obtain ⟨s0,s1,s2,s3,s4,s5⟩:=hd.stmt h
 have hsl:=hst.sl
 have hon:=hd.onOk h
 generalize atV p R.st=a at *
 have hk':(nth p.tree.nodes a.toNat).kind=17:=hk
 have htl:∀ v,ACalls Tryz.prog 103 [.agg (jam p),.pt 0 0 0 0,.agg (jag v)] (R.e 39 [] [] []) (fun r l=>r=.tup []∧l=(R.tells p v).e 39 [] [] []):=fun v=>jok p v R hok h1 (by omega) (hd.inv.at_ h)
 have hlen:=fun v=>jeD R p v
 unfold RS.does at hR'
 simp only [hk] at hR'
 rw [if_neg (by omega),if_neg (by omega),if_neg (by omega),if_pos trivial] at hR'
 rcases (h.ok.tree.shape a.toNat s1).1.ret hk' with hla | ⟨x,hla,hxE⟩
 ·have hll:(nth p.tree.nodes a.toNat).l.length=0:=by rw [hla];rfl
  rw [if_pos (show (jak p a).l.length=0 from hll)] at hR'
  obtain ⟨rfl,rfl⟩:=Prod.mk.inj hR'
  have ht:=htl v0
  have hl1:=hlen v0
  generalize R.tells p v0=Z at *
  refine jaw Tryz.func67 Tryz.ntmps67 ?_
  generalize hB:ids (R.e 39 [] [] [])=B
  generalize hE:Z.e 39 [] [] []=E
  (refine S ?_;try exact True.intro)
  (have W:=And.intro hk' (hll);repeat' (first|refine jaa fun K hK=>?_|refine wkA ?_|(refine hK _ _ ?_;clear hK K)|(refine jad (fun hc=>?_) (fun hc=>?_)<;>first | contradiction | (exfalso;omega) | skip)|refine bxF 4 ?_|refine alF 5 ?_|refine alF 6 ?_|(refine cE (R:=R) (R':=Z) (pre:=[]) (post:=[]) (pre':=[]) (post':=[]) ht rfl (Nat.le_of_eq hl1.1.symm) (Nat.le_of_eq (congrArg List.length hl1.2.symm)) rfl rfl jac rfl (by simp only [go_sem]) ?_;(refine S ?_;try exact True.intro))|refine wkB ?_|exact True.intro|(clear hK K)));all_goals (try clear W)
  subst hE
  exact jb8 (R':=Z) (pre':=[]) (post':=[]) rfl hB [.tmp 8] jac rfl rfl rfl
 ·have hb:=(h.ok.tree.shape a.toNat s1).2.1 x (by rw [hla];simp)
  have hx0:nth (nth p.tree.nodes a.toNat).l 0=x:=by rw [hla];rfl
  have hll:(nth p.tree.nodes a.toNat).l.length=1:=by rw [hla];rfl
  have hvx:=jc9 h R hok h1 (by omega) (by omega) x hb.1 (by omega) hxE
  rw [if_neg (fun e=>by rw [show (jak p a).l.length=1 from hll] at e;omega),show nth (jak p a).l 0=x from hx0] at hR'
  generalize R.val p x=X at *
  by_cases hz:X.2=0
  ·rw [if_neg (fun e=>e hz)] at hR'
   obtain ⟨rfl,rfl⟩:=Prod.mk.inj hR'
   have ht:=htl X.1
   have hl1:=hlen X.1
   generalize R.tells p X.1=Z at *
   refine jaw Tryz.func67 Tryz.ntmps67 ?_
   generalize hB:ids (R.e 39 [] [] [])=B
   generalize hE:Z.e 39 [] [] []=E
   (refine S ?_;try exact True.intro)
   (have W:=And.intro hk' (And.intro hll (hx0));repeat' (first|refine jaa fun K hK=>?_|refine wkA ?_|(with_reducible refine gR 13 ?_);refine dL 13 [] [10] [0,1,2,3,4,5,6,7,8,9,10,11,12] mixed ?_|(refine hK _ _ ?_;clear hK K)|(refine jad (fun hc=>?_) (fun hc=>?_)<;>first | contradiction | (exfalso;omega) | skip)|refine bxF 4 ?_|refine alF 5 ?_|refine alF 6 ?_|refine alF 7 ?_|(refine cE (R:=R) (R':=R) (pre:=[]) (post:=[]) (pre':=[]) (post':=[]) hvx rfl (Nat.le_refl _) (Nat.le_refl _) rfl rfl jac rfl (by simp only [go_sem]) ?_;(refine S ?_;try exact True.intro))|(refine cE (R:=R) (R':=Z) (pre:=[]) (post:=[]) (pre':=[]) (post':=[]) ht rfl (Nat.le_of_eq hl1.1.symm) (Nat.le_of_eq (congrArg List.length hl1.2.symm)) rfl rfl jac rfl (by simp only [go_sem]) ?_;(refine S ?_;try exact True.intro))|refine wkB ?_|exact True.intro|(clear hK K)));all_goals (try clear W)
   subst hE
   exact jb8 (R':=Z) (pre':=[]) (post':=[]) rfl hB [.tmp 8] jac rfl rfl rfl
  ·rw [if_pos hz] at hR'
   obtain ⟨rfl,rfl⟩:=Prod.mk.inj hR'
   suffices key2:∀ R2:RS,R2=R'→ACalls Tryz.prog 67 [.agg (jam p),.pt 0 0 0 0,rI a,jal eI 1 inp] (R'.e 39 [] [] []) (fun r l=>r=rI X.2∧l=R2.e 39 [] [] []) from key2 R' rfl
   intro R2 hR2
   refine jaw Tryz.func67 Tryz.ntmps67 ?_
   generalize hB:ids (R'.e 39 [] [] [])=B
   generalize hE:R2.e 39 [] [] []=E
   (refine S ?_;try exact True.intro)
   (have W:=And.intro hk' (And.intro hll (hx0));repeat' (first|refine jaa fun K hK=>?_|refine wkA ?_|(with_reducible refine gR 13 ?_);refine dL 13 [] [10] [0,1,2,3,4,5,6,7,8,9,10,11,12] mixed ?_|(refine hK _ _ ?_;clear hK K)|(refine jad (fun hc=>?_) (fun hc=>?_)<;>first | contradiction | (exfalso;omega) | skip)|refine bxF 4 ?_|refine alF 5 ?_|refine alF 6 ?_|refine alF 7 ?_|(refine cE (R:=R') (R':=R') (pre:=[]) (post:=[]) (pre':=[]) (post':=[]) hvx rfl (Nat.le_refl _) (Nat.le_refl _) rfl rfl jac rfl (by simp only [go_sem]) ?_;(refine S ?_;try exact True.intro))|refine wkB ?_|exact True.intro|(clear hK K)));all_goals (try clear W)
   subst hE
   subst hR2
   exact jb8 (R':=R2) (pre':=[]) (post':=[]) rfl hB [.tmp 8] jac rfl rfl rfl
def _root_.Go.Gd.RS.says (R:RS) (w:ByteArray):RS:={ R with out_:=R.out_++[w] }
theorem jtw {t:TypeId} {pre post:List AV} {R:RS} {tl:List (Nat×Row)} {w:ByteArray} {c0:List AV} {o:List (List AV)} (hc:c0=pre++(R.says w).c++post) (ho:o=R.out_.map eS++[[rS w]]) :
  (0,.var t c0)::(1,.vec 57 3 (tab R.frs.length R.fr))::(2,.vec 22 1 (tab R.heap.length fun k=>[.rs (fid 2 k) (nth R.heap k).length 1 (nth R.heap k).length]))::(3,.vec 9 1 o) ::
   fam 0 R.frs.length R.sl (fam 1 R.frs.length R.pt (fam 2 R.heap.length R.hp tl))=(R.says w).e t pre post tl:=
 RS.e_mk (R:=R.says w) hc rfl (fun _ _=>rfl) rfl (fun _ _=>rfl) (by rw [ho];simp [RS.says];rfl) rfl rfl rfl (fun _ _=>rfl) (fun _ _=>rfl) (fun _ _=>rfl) rfl
theorem jme {p:GProg} (h:SOk p) (R:RS) (hd:Doing p R) (inp:List Int) (hk:(jak p (atV p R.st)).kind=14) (hrg:∀ x:Int,0≤x→x.toNat < p.tree.nodes.length→isE (jan p.tree.nodes x)→rng (R.val p x).1.n) (R':RS) (tr:Int) (hR':(R',tr)=R.does p (atV p R.st) inp) :
  ACalls Tryz.prog 67 [.agg (jam p),.pt 0 0 0 0,rI (atV p R.st),jal eI 1 inp] (R.e 39 [] [] []) (fun r l=>r=rI tr∧l=R'.e 39 [] [] []):=by
 have hok:=hd.inv.ok
 have hnf:=hok.nf
 have h1:=hd.one
 have hfr:=hd.inv.frs
 have hcl:=jaO R.heap
 have hcc:=hd.cells
 have houts:=hd.outs
 have hst:=hd.stAt h
 obtain ⟨s0,s1,s2,s3,s4,s5⟩:=hd.stmt h
 have hsl:=hst.sl
 have hon:=hd.onOk h
 have htp:=hd.topE
 have hpa:=hst.pas
 rw [htp] at hpa
 have hjp:=hd.jp (R.nf - 1) (by omega)
 generalize atV p R.st=a at *
 have hk':(nth p.tree.nodes a.toNat).kind=14:=hk
 unfold RS.does at hR'
 simp only [hk] at hR'
 rw [if_neg (by omega),if_neg (by omega),if_neg (by omega),if_neg (by omega)] at hR'
 obtain ⟨x,hla,hxE⟩:=(h.ok.tree.shape a.toNat s1).1.one (by omega)
 have hb:=(h.ok.tree.shape a.toNat s1).2.1 x (by rw [hla];simp)
 have hx0:nth (nth p.tree.nodes a.toNat).l 0=x:=by rw [hla];rfl
 have hll:(nth p.tree.nodes a.toNat).l.length=1:=by rw [hla];rfl
 have hvx:=jc9 h R hok h1 (by omega) (by omega) x hb.1 (by omega) hxE
 have hrx:=hrg x hb.1 (by omega) hxE
 rw [show nth (jak p a).l 0=x from hx0] at hR'
 generalize R.val p x=X at *
 have hw5:=jv2 X.1 hrx
 by_cases hz:X.2=0
 rotate_left
 ·rw [if_pos hz] at hR'
  obtain ⟨rfl,rfl⟩:=Prod.mk.inj hR'
  suffices key2:∀ R2:RS,R2=R'→ACalls Tryz.prog 67 [.agg (jam p),.pt 0 0 0 0,rI a,jal eI 1 inp] (R'.e 39 [] [] []) (fun r l=>r=rI (X.2)∧l=R2.e 39 [] [] []) from key2 R' rfl
  intro R2 hR2
  refine jaw Tryz.func67 Tryz.ntmps67 ?_
  generalize hB:ids (R'.e 39 [] [] [])=B
  generalize hE:R2.e 39 [] [] []=E
  (refine S ?_;try exact True.intro)
  (have W:=And.intro hk' (And.intro hll (hx0));repeat' (first|refine jaa fun K hK=>?_|refine wkA ?_|(with_reducible refine gR 19 ?_);refine dL 19 [] [10] [0,1,2,3,4,5,6,7,8,9,10,11,12] mixed ?_|(refine hK _ _ ?_;clear hK K)|(refine jad (fun hc=>?_) (fun hc=>?_)<;>first | contradiction | (exfalso;omega) | skip)|refine bxF 4 ?_|refine alF 5 ?_|refine alF 6 ?_|(refine cE (R:=R') (R':=R') (pre:=[]) (post:=[]) (pre':=[]) (post':=[]) hvx rfl (Nat.le_refl _) (Nat.le_refl _) rfl rfl jac rfl (by simp only [go_sem]) ?_;(refine S ?_;try exact True.intro))|refine wkB ?_|exact True.intro|(clear hK K)));all_goals (try clear W)
  subst hE
  subst hR2
  exact jb8 (R':=R2) (pre':=[]) (post':=[]) rfl hB [.tmp 8] jac rfl rfl rfl
 rw [if_neg (fun e=>e hz),if_pos trivial] at hR'
 by_cases ho:24≤R.out_.length
 ·rw [if_pos ho] at hR'
  obtain ⟨rfl,rfl⟩:=Prod.mk.inj hR'
  suffices key2:∀ R2:RS,R2=R'→ACalls Tryz.prog 67 [.agg (jam p),.pt 0 0 0 0,rI a,jal eI 1 inp] (R'.e 39 [] [] []) (fun r l=>r=rI (5)∧l=R2.e 39 [] [] []) from key2 R' rfl
  intro R2 hR2
  refine jaw Tryz.func67 Tryz.ntmps67 ?_
  generalize hB:ids (R'.e 39 [] [] [])=B
  generalize hE:R2.e 39 [] [] []=E
  (refine S ?_;try exact True.intro)
  (have W:=And.intro hk' (And.intro hll (hx0));repeat' (first|refine jaa fun K hK=>?_|refine wkA ?_|(with_reducible refine gR 19 ?_);refine dL 19 [] [10] [0,1,2,3,4,5,6,7,8,9,10,11,12] mixed ?_|(refine hK _ _ ?_;clear hK K)|(refine jad (fun hc=>?_) (fun hc=>?_)<;>first | contradiction | (exfalso;omega) | skip)|refine bxF 4 ?_|refine alF 5 ?_|refine alF 6 ?_|(refine cE (R:=R') (R':=R') (pre:=[]) (post:=[]) (pre':=[]) (post':=[]) hvx rfl (Nat.le_refl _) (Nat.le_refl _) rfl rfl jac rfl (by simp only [go_sem]) ?_;(refine S ?_;try exact True.intro))|refine wkB ?_|exact True.intro|(clear hK K)));all_goals (try clear W)
  subst hE
  subst hR2
  exact jb8 (R':=R2) (pre':=[]) (post':=[]) rfl hB [.tmp 8] jac rfl rfl rfl
 rw [if_neg ho] at hR'
 obtain ⟨rfl,rfl⟩:=Prod.mk.inj hR'
 have hon1:=jmG (R.says (jeh X.1)) (jdV hon rfl rfl rfl)
 show ACalls _ _ _ _ (fun r l=>r=rI 0∧l=(R.says (jeh X.1)).on.e 39 [] [] [])
 refine jaw Tryz.func67 Tryz.ntmps67 ?_
 generalize hB:ids (R.e 39 [] [] [])=B
 generalize hE:((R.says (jeh X.1)).on).e 39 [] [] []=E
 (refine S ?_;try exact True.intro)
 (have W:=And.intro hk' (And.intro hll (hx0));repeat' (first|refine jaa fun K hK=>?_|refine wkA ?_|(with_reducible refine gR 19 ?_);refine dL 19 [] [10] [0,1,2,3,4,5,6,7,8,9,10,11,12] mixed ?_|(with_reducible refine gR 26 ?_);refine dC 26 ([],[100],[]) [] [0,1,2,3,4,5,6,7,8,9,10,11] mixed ?_|(refine hK _ _ ?_;clear hK K)|(refine jad (fun hc=>?_) (fun hc=>?_)<;>first | contradiction | (exfalso;omega) | skip)|refine bxF 4 ?_|refine alF 5 ?_|refine alF 6 ?_|(refine cE (R:=R) (R':=R) (pre:=[]) (post:=[]) (pre':=[]) (post':=[]) hvx rfl (Nat.le_refl _) (Nat.le_refl _) rfl rfl jac rfl (by simp only [go_sem]) ?_;(refine S ?_;try exact True.intro))|refine cq (hw5) ?_|(refine cE (R:=R.says (jeh X.1)) (R':=(R.says (jeh X.1)).on) (pre:=[]) (post:=[]) (pre':=[]) (post':=[]) hon1 (congrArg (Hp.mk B) (jtw (by simp [RS.c,RS.says]) rfl)) (Nat.le_of_eq RS.upd_len) (Nat.le_refl _) rfl rfl jac rfl (by simp only [go_sem]) ?_;(refine S ?_;try exact True.intro))|refine wkB ?_|exact True.intro|(clear hK K)));all_goals (try clear W)
 subst hE
 exact jb8 (R':=(R.says (jeh X.1)).on) (pre':=[]) (post':=[]) rfl hB [.tmp 8] jac rfl rfl rfl
theorem jmg {p:GProg} (h:SOk p) (R:RS) (hd:Doing p R) (inp:List Int) (hk:(jak p (atV p R.st)).kind=16) (R':RS) (tr:Int) (hR':(R',tr)=R.does p (atV p R.st) inp) :
  ACalls Tryz.prog 67 [.agg (jam p),.pt 0 0 0 0,rI (atV p R.st),jal eI 1 inp] (R.e 39 [] [] []) (fun r l=>r=rI tr∧l=R'.e 39 [] [] []):=by
 have hok:=hd.inv.ok
 have hnf:=hok.nf
 have h1:=hd.one
 have hfr:=hd.inv.frs
 have hcl:=jaO R.heap
 have hcc:=hd.cells
 have houts:=hd.outs
 have hst:=hd.stAt h
 obtain ⟨s0,s1,s2,s3,s4,s5⟩:=hd.stmt h
 have hsl:=hst.sl
 have hon:=hd.onOk h
 have htp:=hd.topE
 have hpa:=hst.pas
 rw [htp] at hpa
 have hjp:=hd.jp (R.nf - 1) (by omega)
 generalize atV p R.st=a at *
 have hk':(nth p.tree.nodes a.toNat).kind=16:=hk
 unfold RS.does at hR'
 simp only [hk] at hR'
 rw [if_neg (by omega),if_neg (by omega),if_neg (by omega),if_neg (by omega)] at hR'
 obtain ⟨x,y,hla,hxE,hyB⟩:=(h.ok.tree.shape a.toNat s1).1.while_ hk'
 have hb:=(h.ok.tree.shape a.toNat s1).2.1 x (by rw [hla];simp)
 have hx0:nth (nth p.tree.nodes a.toNat).l 0=x:=by rw [hla];rfl
 have hy0:nth (nth p.tree.nodes a.toNat).l 1=y:=by rw [hla];rfl
 have hll:(nth p.tree.nodes a.toNat).l.length=2:=by rw [hla];rfl
 have hvx:=jc9 h R hok h1 (by omega) (by omega) x hb.1 (by omega) hxE
 rw [show nth (jak p a).l 0=x from hx0,show nth (jak p a).l 1=y from hy0] at hR'
 generalize R.val p x=X at *
 by_cases hz:X.2=0
 rotate_left
 ·rw [if_pos hz] at hR'
  obtain ⟨rfl,rfl⟩:=Prod.mk.inj hR'
  suffices key2:∀ R2:RS,R2=R'→ACalls Tryz.prog 67 [.agg (jam p),.pt 0 0 0 0,rI a,jal eI 1 inp] (R'.e 39 [] [] []) (fun r l=>r=rI (X.2)∧l=R2.e 39 [] [] []) from key2 R' rfl
  intro R2 hR2
  refine jaw Tryz.func67 Tryz.ntmps67 ?_
  generalize hB:ids (R'.e 39 [] [] [])=B
  generalize hE:R2.e 39 [] [] []=E
  (refine S ?_;try exact True.intro)
  (have W:=And.intro hk' (And.intro hll (hx0));repeat' (first|refine jaa fun K hK=>?_|refine wkA ?_|(with_reducible refine gR 19 ?_);refine dL 19 [] [10] [0,1,2,3,4,5,6,7,8,9,10,11,12] mixed ?_|(refine hK _ _ ?_;clear hK K)|(refine jad (fun hc=>?_) (fun hc=>?_)<;>first | contradiction | (exfalso;omega) | skip)|refine bxF 4 ?_|refine alF 5 ?_|refine alF 6 ?_|(refine cE (R:=R') (R':=R') (pre:=[]) (post:=[]) (pre':=[]) (post':=[]) hvx rfl (Nat.le_refl _) (Nat.le_refl _) rfl rfl jac rfl (by simp only [go_sem]) ?_;(refine S ?_;try exact True.intro))|refine wkB ?_|exact True.intro|(clear hK K)));all_goals (try clear W)
  subst hE
  subst hR2
  exact jb8 (R':=R2) (pre':=[]) (post':=[]) rfl hB [.tmp 8] jac rfl rfl rfl
 rw [if_neg (fun e=>e hz),if_neg (by omega),if_neg (by omega),if_pos trivial] at hR'
 by_cases hn1:X.1.n=1
 ·rw [if_pos hn1] at hR'
  obtain ⟨rfl,rfl⟩:=Prod.mk.inj hR'
  have hdp:=jkV R y hok h1 (by omega) hjp hpa
  refine jaw Tryz.func67 Tryz.ntmps67 ?_
  generalize hB:ids (R.e 39 [] [] [])=B
  generalize hE:(R.deeper y).e 39 [] [] []=E
  (refine S ?_;try exact True.intro)
  (have W:=And.intro hk' (And.intro hll (And.intro hx0 (hy0)));repeat' (first|refine jaa fun K hK=>?_|refine wkA ?_|(with_reducible refine gR 19 ?_);refine dL 19 [] [10] [0,1,2,3,4,5,6,7,8,9,10,11,12] mixed ?_|(refine hK _ _ ?_;clear hK K)|(refine jad (fun hc=>?_) (fun hc=>?_)<;>first | contradiction | (exfalso;omega) | skip)|refine bxF 4 ?_|refine alF 5 ?_|refine alF 6 ?_|(refine cE (R:=R) (R':=R) (pre:=[]) (post:=[]) (pre':=[]) (post':=[]) hvx rfl (Nat.le_refl _) (Nat.le_refl _) rfl rfl jac rfl (by simp only [go_sem]) ?_;(refine S ?_;try exact True.intro))|(refine cE (R:=R) (R':=(R).deeper y) (pre:=[]) (post:=[]) (pre':=[]) (post':=[]) hdp rfl (Nat.le_of_eq RS.upd_len) (Nat.le_refl _) rfl rfl jac rfl (by simp only [go_sem]) ?_;(refine S ?_;try exact True.intro))|refine wkB ?_|exact True.intro|(clear hK K)));all_goals (try clear W)
  subst hE
  exact jb8 (R':=R.deeper y) (pre':=[]) (post':=[]) rfl hB [.tmp 8] jac rfl rfl rfl
 ·rw [if_neg hn1] at hR'
  obtain ⟨rfl,rfl⟩:=Prod.mk.inj hR'
  have hon1:=jmG R hon
  refine jaw Tryz.func67 Tryz.ntmps67 ?_
  generalize hB:ids (R.e 39 [] [] [])=B
  generalize hE:(R.on).e 39 [] [] []=E
  (refine S ?_;try exact True.intro)
  (have W:=And.intro hk' (And.intro hll (And.intro hx0 (hy0)));repeat' (first|refine jaa fun K hK=>?_|refine wkA ?_|(with_reducible refine gR 19 ?_);refine dL 19 [] [10] [0,1,2,3,4,5,6,7,8,9,10,11,12] mixed ?_|(refine hK _ _ ?_;clear hK K)|(refine jad (fun hc=>?_) (fun hc=>?_)<;>first | contradiction | (exfalso;omega) | skip)|refine bxF 4 ?_|refine alF 5 ?_|refine alF 6 ?_|(refine cE (R:=R) (R':=R) (pre:=[]) (post:=[]) (pre':=[]) (post':=[]) hvx rfl (Nat.le_refl _) (Nat.le_refl _) rfl rfl jac rfl (by simp only [go_sem]) ?_;(refine S ?_;try exact True.intro))|(refine cE (R:=R) (R':=(R).on) (pre:=[]) (post:=[]) (pre':=[]) (post':=[]) hon1 rfl (Nat.le_of_eq RS.upd_len) (Nat.le_refl _) rfl rfl jac rfl (by simp only [go_sem]) ?_;(refine S ?_;try exact True.intro))|refine wkB ?_|exact True.intro|(clear hK K)));all_goals (try clear W)
  subst hE
  exact jb8 (R':=R.on) (pre':=[]) (post':=[]) rfl hB [.tmp 8] jac rfl rfl rfl
theorem jr1 {p:GProg} (h:SOk p) (R:RS) (hd:Doing p R) (inp:List Int) (hk:(jak p (atV p R.st)).kind=15) (R':RS) (tr:Int) (hR':(R',tr)=R.does p (atV p R.st) inp) :
  ACalls Tryz.prog 67 [.agg (jam p),.pt 0 0 0 0,rI (atV p R.st),jal eI 1 inp] (R.e 39 [] [] []) (fun r l=>r=rI tr∧l=R'.e 39 [] [] []):=by
 have hok:=hd.inv.ok
 have hnf:=hok.nf
 have h1:=hd.one
 have hfr:=hd.inv.frs
 have hcl:=jaO R.heap
 have hcc:=hd.cells
 have hst:=hd.stAt h
 obtain ⟨s0,s1,s2,s3,s4,s5⟩:=hd.stmt h
 have hsl:=hst.sl
 have hon:=hd.onOk h
 have htp:=hd.topE
 have hpa:=hst.pas
 rw [htp] at hpa
 have hjp:=hd.jp (R.nf - 1) (by omega)
 generalize atV p R.st=a at *
 have hk':(nth p.tree.nodes a.toNat).kind=15:=hk
 unfold RS.does at hR'
 simp only [hk] at hR'
 rw [if_neg (by omega),if_neg (by omega),if_neg (by omega),if_neg (by omega)] at hR'
 obtain ⟨x,y,hxE,hyB,hls⟩:=(h.ok.tree.shape a.toNat s1).1.if_ hk'
 have hx0:nth (nth p.tree.nodes a.toNat).l 0=x:=by rcases hls with e | ⟨d,e,_⟩<;>(rw [e];rfl)
 have hy0:nth (nth p.tree.nodes a.toNat).l 1=y:=by rcases hls with e | ⟨d,e,_⟩<;>(rw [e];rfl)
 have hll0:2≤(nth p.tree.nodes a.toNat).l.length:=by rcases hls with e | ⟨d,e,_⟩<;>(rw [e];simp)
 have hb:=(h.ok.tree.shape a.toNat s1).2.1 x (by rcases hls with e | ⟨d,e,_⟩<;>(rw [e];simp))
 have hvx:=jc9 h R hok h1 (by omega) (by omega) x hb.1 (by omega) hxE
 rw [show nth (jak p a).l 0=x from hx0,show nth (jak p a).l 1=y from hy0] at hR'
 generalize R.val p x=X at *
 have hon1:=jmG R hon
 have hdp:∀ b,ACalls Tryz.prog 122 [.pt 0 0 0 0,rI b] (R.on.e 39 [] [] []) (fun r l=>r=.tup []∧l=(R.on.deeper b).e 39 [] [] []):=fun b=>by
  have hlen:R.on.frs.length=R.frs.length:=RS.upd_len.symm
  have htop:R.on.topF=onF R.topF:=RS.topF_upd hok h1 _
  refine jkV R.on b ⟨by show R.nf≤R.on.frs.length;omega,by show R.jp.length=R.on.frs.length;rw [hlen];exact hok.jp⟩ h1 (by omega) hjp ?_
  rw [htop]
  show (R.topF.path.set _ _).length≤1000
  rw [List.length_set];exact hpa
 by_cases hz:X.2=0
 rotate_left
 ·rw [if_pos hz] at hR'
  obtain ⟨rfl,rfl⟩:=Prod.mk.inj hR'
  suffices key2:∀ R2:RS,R2=R'→ACalls Tryz.prog 67 [.agg (jam p),.pt 0 0 0 0,rI a,jal eI 1 inp] (R'.e 39 [] [] []) (fun r l=>r=rI (X.2)∧l=R2.e 39 [] [] []) from key2 R' rfl
  intro R2 hR2
  refine jaw Tryz.func67 Tryz.ntmps67 ?_
  generalize hB:ids (R'.e 39 [] [] [])=B
  generalize hE:R2.e 39 [] [] []=E
  (refine S ?_;try exact True.intro)
  (have W:=And.intro hk' (hx0);repeat' (first|refine jaa fun K hK=>?_|refine wkA ?_|(with_reducible refine gR 19 ?_);refine dL 19 [] [10] [0,1,2,3,4,5,6,7,8,9,10,11,12] mixed ?_|(refine hK _ _ ?_;clear hK K)|(refine jad (fun hc=>?_) (fun hc=>?_)<;>first | contradiction | (exfalso;omega) | skip)|refine bxF 4 ?_|refine alF 5 ?_|refine alF 6 ?_|(refine cE (R:=R') (R':=R') (pre:=[]) (post:=[]) (pre':=[]) (post':=[]) hvx rfl (Nat.le_refl _) (Nat.le_refl _) rfl rfl jac rfl (by simp only [go_sem]) ?_;(refine S ?_;try exact True.intro))|refine wkB ?_|exact True.intro|(clear hK K)));all_goals (try clear W)
  subst hE
  subst hR2
  exact jb8 (R':=R2) (pre':=[]) (post':=[]) rfl hB [.tmp 8] jac rfl rfl rfl
 rw [if_neg (fun e=>e hz),if_neg (by omega),if_pos trivial] at hR'
 by_cases hn1:X.1.n=1
 ·rw [if_pos hn1] at hR'
  obtain ⟨rfl,rfl⟩:=Prod.mk.inj hR'
  have hdy:=hdp y
  refine jaw Tryz.func67 Tryz.ntmps67 ?_
  generalize hB:ids (R.e 39 [] [] [])=B
  generalize hE:(R.on.deeper y).e 39 [] [] []=E
  (refine S ?_;try exact True.intro)
  (have W:=And.intro hk' (And.intro hx0 (hy0));repeat' (first|refine jaa fun K hK=>?_|refine wkA ?_|(with_reducible refine gR 19 ?_);refine dL 19 [] [10] [0,1,2,3,4,5,6,7,8,9,10,11,12] mixed ?_|(refine hK _ _ ?_;clear hK K)|(refine jad (fun hc=>?_) (fun hc=>?_)<;>first | contradiction | (exfalso;omega) | skip)|refine bxF 4 ?_|refine alF 5 ?_|refine alF 6 ?_|(refine cE (R:=R) (R':=R) (pre:=[]) (post:=[]) (pre':=[]) (post':=[]) hvx rfl (Nat.le_refl _) (Nat.le_refl _) rfl rfl jac rfl (by simp only [go_sem]) ?_;(refine S ?_;try exact True.intro))|(refine cE (R:=R) (R':=(R).on) (pre:=[]) (post:=[]) (pre':=[]) (post':=[]) hon1 rfl (Nat.le_of_eq RS.upd_len) (Nat.le_refl _) rfl rfl jac rfl (by simp only [go_sem]) ?_;(refine S ?_;try exact True.intro))|(refine cE (R:=R.on) (R':=R.on.deeper y) (pre:=[]) (post:=[]) (pre':=[]) (post':=[]) hdy rfl (Nat.le_of_eq RS.upd_len) (Nat.le_refl _) rfl rfl jac rfl (by simp only [go_sem]) ?_;(refine S ?_;try exact True.intro))|refine wkB ?_|exact True.intro|(clear hK K)));all_goals (try clear W)
  subst hE
  exact jb8 (R':=R.on.deeper y) (pre':=[]) (post':=[]) rfl hB [.tmp 8] jac rfl rfl rfl
 rw [if_neg hn1] at hR'
 rcases hls with e | ⟨d,e,hdB⟩
 ·have hll:(nth p.tree.nodes a.toNat).l.length=2:=by rw [e];rfl
  rw [if_neg (fun e=>by rw [show (jak p a).l.length=2 from hll] at e;omega)] at hR'
  obtain ⟨rfl,rfl⟩:=Prod.mk.inj hR'
  refine jaw Tryz.func67 Tryz.ntmps67 ?_
  generalize hB:ids (R.e 39 [] [] [])=B
  generalize hE:(R.on).e 39 [] [] []=E
  (refine S ?_;try exact True.intro)
  (have W:=And.intro hk' (And.intro hx0 (hll));repeat' (first|refine jaa fun K hK=>?_|refine wkA ?_|(with_reducible refine gR 19 ?_);refine dL 19 [] [10] [0,1,2,3,4,5,6,7,8,9,10,11,12] mixed ?_|(refine hK _ _ ?_;clear hK K)|(refine jad (fun hc=>?_) (fun hc=>?_)<;>first | contradiction | (exfalso;omega) | skip)|refine bxF 4 ?_|refine alF 5 ?_|refine alF 6 ?_|(refine cE (R:=R) (R':=R) (pre:=[]) (post:=[]) (pre':=[]) (post':=[]) hvx rfl (Nat.le_refl _) (Nat.le_refl _) rfl rfl jac rfl (by simp only [go_sem]) ?_;(refine S ?_;try exact True.intro))|(refine cE (R:=R) (R':=(R).on) (pre:=[]) (post:=[]) (pre':=[]) (post':=[]) hon1 rfl (Nat.le_of_eq RS.upd_len) (Nat.le_refl _) rfl rfl jac rfl (by simp only [go_sem]) ?_;(refine S ?_;try exact True.intro))|refine wkB ?_|exact True.intro|(clear hK K)));all_goals (try clear W)
  subst hE
  exact jb8 (R':=R.on) (pre':=[]) (post':=[]) rfl hB [.tmp 8] jac rfl rfl rfl
 ·have hll:(nth p.tree.nodes a.toNat).l.length=3:=by rw [e];rfl
  have hd0:nth (nth p.tree.nodes a.toNat).l 2=d:=by rw [e];rfl
  rw [if_pos (by rw [show (jak p a).l.length=3 from hll]),show nth (jak p a).l 2=d from hd0] at hR'
  obtain ⟨rfl,rfl⟩:=Prod.mk.inj hR'
  have hdd:=hdp d
  refine jaw Tryz.func67 Tryz.ntmps67 ?_
  generalize hB:ids (R.e 39 [] [] [])=B
  generalize hE:(R.on.deeper d).e 39 [] [] []=E
  (refine S ?_;try exact True.intro)
  (have W:=And.intro hk' (And.intro hx0 (And.intro hll (hd0)));repeat' (first|refine jaa fun K hK=>?_|refine wkA ?_|(with_reducible refine gR 19 ?_);refine dL 19 [] [10] [0,1,2,3,4,5,6,7,8,9,10,11,12] mixed ?_|(refine hK _ _ ?_;clear hK K)|(refine jad (fun hc=>?_) (fun hc=>?_)<;>first | contradiction | (exfalso;omega) | skip)|refine bxF 4 ?_|refine alF 5 ?_|refine alF 6 ?_|(refine cE (R:=R) (R':=R) (pre:=[]) (post:=[]) (pre':=[]) (post':=[]) hvx rfl (Nat.le_refl _) (Nat.le_refl _) rfl rfl jac rfl (by simp only [go_sem]) ?_;(refine S ?_;try exact True.intro))|(refine cE (R:=R) (R':=(R).on) (pre:=[]) (post:=[]) (pre':=[]) (post':=[]) hon1 rfl (Nat.le_of_eq RS.upd_len) (Nat.le_refl _) rfl rfl jac rfl (by simp only [go_sem]) ?_;(refine S ?_;try exact True.intro))|(refine cE (R:=R.on) (R':=R.on.deeper d) (pre:=[]) (post:=[]) (pre':=[]) (post':=[]) hdd rfl (Nat.le_of_eq RS.upd_len) (Nat.le_refl _) rfl rfl jac rfl (by simp only [go_sem]) ?_;(refine S ?_;try exact True.intro))|refine wkB ?_|exact True.intro|(clear hK K)));all_goals (try clear W)
  subst hE
  exact jb8 (R':=R.on.deeper d) (pre':=[]) (post':=[]) rfl hB [.tmp 8] jac rfl rfl rfl
theorem jut {p:GProg} (h:SOk p) (R:RS) (hd:Doing p R) (inp:List Int) (hn:inp.length≤1000) (hw:¬ jbR p R.st (atV p R.st) inp) (hrg:∀ x:Int,0≤x→x.toNat < p.tree.nodes.length→isE (jan p.tree.nodes x)→rng (R.val p x).1.n) :
  ACalls Tryz.prog 67 [.agg (jam p),.pt 0 0 0 0,rI (atV p R.st),jal eI 1 inp] (R.e 39 [] [] []) (fun r l=>r=rI (R.does p (atV p R.st) inp).2∧l=(R.does p (atV p R.st) inp).1.e 39 [] [] []):=by
 obtain ⟨s0,s1,s2,_⟩:=hd.stmt h
 have s2:10≤(jak p (atV p R.st)).kind∧(jak p (atV p R.st)).kind≤17:=s2
 by_cases k1:(jak p (atV p R.st)).kind=10∨(jak p (atV p R.st)).kind=11
 ·have:=jmf h R hd inp hn k1 hw
  rw [show R.does p (atV p R.st) inp=R.right p (atV p R.st) inp by unfold RS.does;simp only;rw [if_pos k1]]
  exact this
 by_cases k2:(jak p (atV p R.st)).kind=13
 ·have:=jou h R hd inp k2
  rw [show R.does p (atV p R.st) inp=R.call p (nth (jak p (atV p R.st)).l 0) by unfold RS.does;simp only;rw [if_neg k1,if_pos k2]]
  exact this
 by_cases k3:(jak p (atV p R.st)).kind=12
 ·have:=jpJ h R hd inp k3
  rw [show R.does p (atV p R.st) inp=R.put p (atV p R.st) by unfold RS.does;simp only;rw [if_neg k1,if_neg k2,if_pos k3]]
  exact this
 by_cases k4:(jak p (atV p R.st)).kind=17
 ·exact jpK h R hd inp k4 _ _ rfl
 by_cases k5:(jak p (atV p R.st)).kind=14
 ·exact jme h R hd inp k5 hrg _ _ rfl
 by_cases k6:(jak p (atV p R.st)).kind=15
 ·exact jr1 h R hd inp k6 _ _ rfl
 ·exact jmg h R hd inp (by omega) _ _ rfl
end Go.Proofs.YtfkgcobaheegbaaGreatDoor
namespace Go.Gd
open Go
def RS.rows (R:RS):List (Nat×Row):=
 (1,.vec 57 3 (tab R.frs.length R.fr))::(2,.vec 22 1 (tab R.heap.length fun k=>[.rs (fid 2 k) (nth R.heap k).length 1 (nth R.heap k).length]))::(3,.vec 9 1 (R.out_.map eS)) ::
  fam 0 R.frs.length R.sl (fam 1 R.frs.length R.pt (fam 2 R.heap.length R.hp []))
theorem jfT {n:Nat} {S:Type} {W:List (Nat×Nat)} {ok:S→Prop} {J:S→List (Nat×AV)} {G:S→Hp} {μ:S→Nat} {F₀ F:List AV} {B:List Nat} {l:List (Nat×Row)} (l':List (Nat×Row)) (D:Nat→Bool) (s:S) (h1:ok s) (h2:μ s < n) (hperm:∀ i,jas l i=jas l' i) (hB:B.all (jcB D)=true) (hl:jek D l') (h4:⟨B,ja9 D l'⟩=G s) (h3:VToL D ⟨B,l'⟩ F (jjB (J s) (jmC W F₀))):Next n W ok J G μ F₀ F ⟨B,l⟩:=
 ⟨s,h2,(FLe.perm l' hperm).trans (by rw [← h4];exact FLe.free D hB hl h3),h1⟩
theorem jlQ (D:Nat→Bool) (a:Nat) (f:Nat→Row) (l:List (Nat×Row)):∀ (n k:Nat),(∀ j,k≤j→j < k+n→jrC (jcB D) (f j))→jek D l→jek D (jel a f k n l)
 | 0,k,_,h=>h
 | n+1,k,hf,h=>⟨.inr (hf k (Nat.le_refl _) (by omega)),jlQ D a f l n (k+1) (fun j h1 h2=>hf j (by omega) (by omega)) h⟩
theorem jcM {D:Nat→Bool} {a n:Nat} {f:Nat→Row} {l:List (Nat×Row)} (hf:∀ j,j < n→jrC (jcB D) (f j)) (h:jek D l):jek D (fam a n f l):=jlQ D a f l n 0 (fun j _ h2=>hf j (by omega)) h
theorem jjo (D:Nat→Bool) (a:Nat) (f:Nat→Row) (l:List (Nat×Row)) (hD:∀ k,D (fid a k)=false):∀ (n k:Nat),ja9 D (jel a f k n l)=jel a f k n (ja9 D l)
 | 0,k=>rfl
 | n+1,k=>by
  show (bif D (fid a k) then _ else (fid a k,f k)::ja9 D (jel a f (k+1) n l))=_
  rw [hD k,jjo D a f l hD n (k+1)];rfl
theorem jce {D:Nat→Bool} {a n:Nat} {f:Nat→Row} {l:List (Nat×Row)} (hD:∀ k,D (fid a k)=false):ja9 D (fam a n f l)=fam a n f (ja9 D l):=jjo D a f l hD n 0
theorem jbs {L:List Nat} (h:L.all (fun i=>decide (i < 1000))=true) (a k:Nat):L.contains (fid a k)=false:=by
 cases e:L.contains (fid a k) with
 | false=>rfl
 | true=>
  have:=List.all_eq_true.1 h _ (List.contains_iff_mem.1 e)
  simp only [decide_eq_true_eq] at this
  have:=jbU a k;omega
theorem jyq {P:Program} {fn:Func} {F:List AV} {l0 l':List (Nat×Row)} {out:List AV} {e:Exit} {r:AV} {l:List (Nat×Row)} (hperm:∀ i,jas l0 i=jas l' i) (rs:List ResultVar) (hv:jbo out=r) (hl:jek lowQ l') (hq:(jbo out).all (jcB lowQ)=true) (h2:ja9 lowQ l'=l) (hrs:fn.results.toList=rs:=by rfl) (he:e=.normal∨e=.ret:=by first | exact Or.inr rfl | exact Or.inl rfl | fail)
  (ho:jgg P ⟨[],l0⟩ F rs=some out:=by first | (simp (disch:=first | omega | fail) only [go_sem,↓reduceIte,Nat.reduceEqDiff,Nat.reduceLeDiff,Nat.reduceSub,Nat.reduceAdd];rfl) | rfl) (hok:jbT P ⟨[],l0⟩ F rs:=by first | exact True.intro | (simp (disch:=first | omega | fail) only [go_sem,↓reduceIte,Nat.reduceEqDiff,Nat.reduceLeDiff,Nat.reduceSub,Nat.reduceAdd])):jhu P fn (fun r' l'=>r'=r∧l'=l) e F ⟨[],l0⟩:=by
 subst hrs
 refine jjz he ho hok r ⟨[],l⟩ ((jn3 l' hperm).trans ?_) ⟨rfl,rfl⟩
 have:=RLe.free (H:=⟨[],l'⟩) lowQ rfl hl (jiP hv hq)
 rw [h2] at this
 exact this
theorem j0t {P:Program} {A:AS} {H:Hp} (i:Nat) {t e:TypeId} {sz:Nat} {x:AV} {c:Prop} {ys:List (List AV)} {zs:List Value} {f:AV→Hp→Prop} {d:Dep fun r H'=>HLx A H H'∧f r H'} {q:Prop} (k:q) (ht:elT P t=some e:=by (simp only [go_sem];rfl)) (hs:jct P e=some sz:=by (simp only [go_sem];done)) (hz:jbK P e=some zs:=by (simp only [go_sem];rfl)) (hzl:zs.length=sz:=by rfl) (h0:0 < sz:=by decide)
  (hx:jmR H x=some (c,ys):=by rfl) (hc:c:=by trivial) (hg:jja sz ys:=by (simp (disch:=first | omega | assumption | fail) only [go_sem];done)) (hr:room (jcc P e) ys.length:=by (simp only [go_sem];omega)) (hi:H.get i=none:=by first | rfl | (simp (disch:=first | omega | assumption | fail) only [go_sem,↓reduceIte,Nat.reduceEqDiff,Nat.reduceAdd];done))
  (e:f (.rs i ys.length sz ys.length) (H.put i (.vec e sz ys))=q:=by (simp (disch:=first | omega | assumption | fail) only [go_sem,jeG,↓reduceIte,Int.reduceToNat,Nat.reduceMul,Nat.reduceAdd,Nat.reduceLeDiff,Nat.reduceSub,Nat.reduceEqDiff,Nat.reduceBEq];rfl)):jcZ P t t (.sl true sz [] []) x H (AP (fun r H'=>HLx A H H'∧f r H') d):=apN (b:=true) (d:=d) i k ht hs hz hzl h0 hx hc hg hr hi e
theorem jkt (D:Nat→Bool) (R:RS) (k:Nat):jrC (jcB D) (R.sl k):=jb7 (enc:=jag) (sz:=3) _
theorem jks (D:Nat→Bool) (R:RS) (k:Nat):jrC (jcB D) (R.pt k):=jb7 (enc:=jay) (sz:=2) _
theorem jqS (D:Nat→Bool) (R:RS) (k:Nat):jrC (jcB D) (R.hp k):=jb7 (enc:=eI) (sz:=1) _
def RS.rowsT (R:RS) (tl:List (Nat×Row)):List (Nat×Row):=
 (1,.vec 57 3 (tab R.frs.length R.fr))::(2,.vec 22 1 (tab R.heap.length fun k=>[.rs (fid 2 k) (nth R.heap k).length 1 (nth R.heap k).length]))::(3,.vec 9 1 (R.out_.map eS)) ::
  fam 0 R.frs.length R.sl (fam 1 R.frs.length R.pt (fam 2 R.heap.length R.hp tl))
theorem RS.rowsT_nil (R:RS):R.rowsT []=R.rows:=rfl
theorem RS.e_rows {t:TypeId} {pre post:List AV} {R:RS} {tl:List (Nat×Row)}:R.e t pre post tl=(0,.var t (pre++R.c++post))::R.rowsT tl:=rfl
theorem RS.rowsT_app (R:RS) (tl:List (Nat×Row)):R.rowsT tl=R.rows++tl:=by
 rw [← RS.rowsT_nil]
 unfold RS.rowsT
 rw [show tl=[]++tl from rfl,jd6,jd6,jd6]
 rfl
theorem RS.rows_no {R:RS} (i:Nat) (h:i=0∨4≤i) (h':i < 1000):jas R.rows i=none:=by
 rw [← RS.rowsT_nil]
 unfold RS.rowsT
 simp only [jas]
 rw [if_neg (by omega),if_neg (by omega),if_neg (by omega),jbG _ _ _ _ _ h',jbG _ _ _ _ _ h',jbG _ _ _ _ _ h']
 rfl
@[go_sem] theorem RS.rowsT_get (R:RS) (tl:List (Nat×Row)) (i:Nat) (h:i=0∨4≤i) (h':i < 1000):jas (R.rowsT tl) i=jas tl i:=by
 rw [RS.rowsT_app,jbB,RS.rows_no i h h'];rfl
@[go_sem] theorem RS.rowsT_put (R:RS) (tl:List (Nat×Row)) (i:Nat) (r:Row) (h:i=0∨4≤i) (h':i < 1000):jg4 (R.rowsT tl) i r=R.rowsT (jg4 tl i r):=by
 unfold RS.rowsT
 simp only [jg4]
 rw [if_neg (by omega),if_neg (by omega),if_neg (by omega),jew _ _ _ _ _ _ h',jew _ _ _ _ _ _ h',jew _ _ _ _ _ _ h']
end Go.Gd
namespace Go.Proofs.YtfkgcobaheegbaaGreatDoor
open Go Go.Gd
set_option maxHeartbeats 4000000
set_option maxRecDepth 10000
theorem juq (s:GState) (h1:s.frames.length≤1000) (h2:s.heap.length≤1000) (h3:s.out_.length≤1000) (h4:∀ k,k < s.frames.length→(nth s.frames k).slots.length≤1000∧(nth s.frames k).path.length≤1000) (h5:∀ k,k < s.heap.length→(nth s.heap k).length≤1000) :
  ACalls Tryz.prog 29 [.agg (jai s)] [] (fun r l=>r=.agg (RS.of s).c∧l=(RS.of s).rows):=by
 generalize hR:RS.of s=R
 refine jaw Tryz.func29 Tryz.ntmps29 ?_
 (repeat' (first|refine jaa fun K hK=>?_|refine wkA ?_|(refine hK _ _ ?_;clear hK K)|(refine jad (fun hc=>?_) (fun hc=>?_)<;>first | contradiction | (exfalso;omega) | skip)|refine bxF 4 ?_|refine alF 5 ?_|refine alF 6 ?_|refine jnH 3 ?_|refine wkB ?_|exact True.intro|(clear hK K)))
 refine jaU (FLe.nilC 1 6 0 57 3 rfl (by decide) rfl rfl) ?_
 refine jaU (FLe.nilC 2 6 1 22 1 rfl (by decide) rfl rfl) ?_
 (refine S ?_;try exact True.intro)
 have hKo:=hK;clear hK
 refine jah (S:=Nat) [(4,2),(15,28)] (fun k=>k≤s.frames.length) (fun k=>[(4,rI k)])
  (fun k=>⟨[],(4,.var 39 (jai s))::(5,.var 39 [.raw (.slice none 0 0),.raw (.slice none 0 0),rI 0,.raw (.slice none 0 0),rI 0,rI 0,rI 0])::(6,.var 39 [.rs 1 k 3 k,.rs 2 0 1 0,rI s.in_,.rs 3 s.out_.length 1 s.out_.length,rI s.status,rI s.trap,rI s.time])::(3,.vec 9 1 (s.out_.map eS))::(1,.vec 57 3 (tab k R.fr))::(2,.vec 22 1 [])::fam 0 k R.sl (fam 1 k R.pt [])⟩)
  (fun k=>s.frames.length - k) 0 (by omega) (jaE ?_ lle) ?_
 ·rfl
 rintro k hk Kr hKr
 by_cases hkl:k < s.frames.length
 ·obtain ⟨g1,g2⟩:=h4 k hkl
  have hfr:jaJ (nth s.frames k)=[rI (nth s.frames k).fn,jal jag 3 (nth s.frames k).slots,jal jay 2 (nth s.frames k).path]:=rfl
  (refine S ?_;try exact True.intro)
  (have W:=hfr;repeat' (first|refine jaa fun K hK=>?_|refine wkA ?_|(refine hK _ _ ?_;clear hK K)|(refine jad (fun hc=>?_) (fun hc=>?_)<;>first | contradiction | (exfalso;omega) | skip)|refine alF 7 ?_|refine jnH (fid 0 k) ?_|refine jnH (fid 1 k) ?_|refine jnH 8 ?_|refine wkB ?_|exact True.intro|(clear hK K)));all_goals (try clear W)
  have hRf:∀ j,j < k+1→(if j=k then [rI (nth s.frames k).fn,.rs (fid 0 k) (nth s.frames k).slots.length 3 (nth s.frames k).slots.length,.rs (fid 1 k) (nth s.frames k).path.length 2 (nth s.frames k).path.length] else R.fr j)=R.fr j:=fun j hj=>by
   split
   ·rename_i e
    subst e
    subst hR
    unfold RS.fr
    rw [show nth (RS.of s).jp j=[] from jey _ _ _ hkl]
    rfl
   ·rfl
  have hg0:=jbU 0 k
  have hg1:=jbU 1 k
  have hg2:fid 1 k≠fid 0 k:=fun e=>by have:=(jcX (by omega) (by omega) e).1;omega
  refine hKr _ _ (jfT ((4,.var 39 (jai s))::(5,.var 39 [.raw (.slice none 0 0),.raw (.slice none 0 0),rI 0,.raw (.slice none 0 0),rI 0,rI 0,rI 0])::(6,.var 39 [.rs 1 (k+1) 3 (k+1),.rs 2 0 1 0,rI s.in_,.rs 3 s.out_.length 1 s.out_.length,rI s.status,rI s.trap,rI s.time])::(3,.vec 9 1 (s.out_.map eS))::(1,.vec 57 3 (tab (k+1) R.fr))::(2,.vec 22 1 []) ::
   fam 0 (k+1) R.sl (fam 1 (k+1) R.pt [(7,.var 57 [rI (nth s.frames k).fn,.rs (fid 0 k) (nth s.frames k).slots.length 3 (nth s.frames k).slots.length,.rs (fid 1 k) (nth s.frames k).path.length 2 (nth s.frames k).path.length]),(8,.vec 57 3 [[rI (nth s.frames k).fn,.rs (fid 0 k) (nth s.frames k).slots.length 3 (nth s.frames k).slots.length,.rs (fid 1 k) (nth s.frames k).path.length 2 (nth s.frames k).path.length]])]))
   (fun i=>[7,8].contains i) (k+1) (by omega) (by show s.frames.length - (k+1) < s.frames.length - k;omega) (jaH _ _ (jaH _ _ (jaH _ _ (jaH _ _ (jbp _ ?_ (jaH _ _ fun i=>?_)))))) rfl ?_ ?_ ?_)
  ·exact congrArg (Row.vec _ _) (jch rfl hRf)
  ·refine (jaW 0 k R.sl (fun i=>jaW 1 k R.pt (l':=[_,_]++[(fid 1 k,.vec 89 2 ((nth s.frames k).path.map jay)),(fid 0 k,.vec 59 3 ((nth s.frames k).slots.map jag))]) (fun i=>?_) i) i).trans (jj2 (h:=0) (q:=R.hp) R.sl R.pt (fun _ _=>rfl) (fun _ _=>rfl) ?_ ?_ jac i)
   ·simp only [jas,List.cons_append,List.nil_append]
    repeat' split
    all_goals first
     | rfl
     | (exfalso;omega)
   ·subst hR;rfl
   ·subst hR
    unfold RS.pt
    rw [show nth (RS.of s).jp k=[] from jey _ _ _ hkl,List.append_nil];rfl
  ·refine ⟨.inr (jcD _ _),.inr rfl,.inr rfl,.inr (jb7 (enc:=eS) (sz:=1) _),.inr (jha fun j _=>?_),.inr (jn2 _),jcM (fun j _=>jkt _ _ _) (jcM (fun j _=>jks _ _ _) ⟨.inl rfl,.inl rfl,trivial⟩)⟩
   simp only [RS.fr,jaB,AV.all,jcB,jbs (L:=[7,8]) rfl];rfl
  ·show Hp.mk [] (_::_::_::_::_::_::ja9 _ (fam 0 _ _ _))=_
   rw [jce (jbs rfl 0),jce (jbs rfl 1)]
   rfl
  ·exact vtl
 ·have hke:k=s.frames.length:=by omega
  subst hke
  (refine S ?_;try exact True.intro)
  (repeat' (first|refine jaa fun K hK=>?_|refine wkA ?_|(refine hK _ _ ?_;clear hK K)|(refine jad (fun hc=>?_) (fun hc=>?_)<;>first | contradiction | (exfalso;omega) | skip)|(refine hKo _ _ ?_)|refine wkB ?_|exact True.intro|(clear hK K)))
  have hKp:=hK;clear hK
  refine jah (S:=Nat) [(6,1),(43,19)] (fun j=>j≤s.heap.length) (fun j=>[(6,rI j)])
   (fun j=>⟨[],(4,.var 39 (jai s))::(5,.var 39 [.raw (.slice none 0 0),.raw (.slice none 0 0),rI 0,.raw (.slice none 0 0),rI 0,rI 0,rI 0])::(6,.var 39 [.rs 1 s.frames.length 3 s.frames.length,.rs 2 j 1 j,rI s.in_,.rs 3 s.out_.length 1 s.out_.length,rI s.status,rI s.trap,rI s.time])::(3,.vec 9 1 (s.out_.map eS))::(1,.vec 57 3 (tab s.frames.length R.fr))::(2,.vec 22 1 (tab j fun k=>[.rs (fid 2 k) (nth s.heap k).length 1 (nth s.heap k).length]))::fam 0 s.frames.length R.sl (fam 1 s.frames.length R.pt (fam 2 j R.hp []))⟩)
   (fun j=>s.heap.length - j) 0 (by omega) (jaE rfl lle) ?_
  rintro j hj Ks hKs
  by_cases hjl:j < s.heap.length
  ·have g3:=h5 j hjl
   (refine S ?_;try exact True.intro)
   (repeat' (first|refine jaa fun K hK=>?_|refine wkA ?_|(with_reducible refine gR 15 ?_);refine dC 15 ([],[],[58,59]) [] [0,1,2,3,4,5,6,7,8,9,10,11,12] mixed ?_|(refine hK _ _ ?_;clear hK K)|(refine jad (fun hc=>?_) (fun hc=>?_)<;>first | contradiction | (exfalso;omega) | skip)|refine j0t (fid 2 j) ?_|refine jwQ 8 ?_|refine wkB ?_|exact True.intro|(clear hK K)))
   have hRp:∀ i,i < j+1→(if i=j then [AV.rs (fid 2 j) (nth s.heap j).length 1 (nth s.heap j).length] else [AV.rs (fid 2 i) (nth s.heap i).length 1 (nth s.heap i).length])=[AV.rs (fid 2 i) (nth s.heap i).length 1 (nth s.heap i).length]:=fun i hi=>by
    split
    ·rename_i e
     subst e
     rfl
    ·rfl
   have hg2:=jbU 2 j
   refine hKs _ _ (jfT ((4,.var 39 (jai s))::(5,.var 39 [.raw (.slice none 0 0),.raw (.slice none 0 0),rI 0,.raw (.slice none 0 0),rI 0,rI 0,rI 0])::(6,.var 39 [.rs 1 s.frames.length 3 s.frames.length,.rs 2 (j+1) 1 (j+1),rI s.in_,.rs 3 s.out_.length 1 s.out_.length,rI s.status,rI s.trap,rI s.time])::(3,.vec 9 1 (s.out_.map eS))::(1,.vec 57 3 (tab s.frames.length R.fr))::(2,.vec 22 1 (tab (j+1) fun k=>[.rs (fid 2 k) (nth s.heap k).length 1 (nth s.heap k).length])) ::
    fam 0 s.frames.length R.sl (fam 1 s.frames.length R.pt (fam 2 (j+1) R.hp [(8,.vec 22 1 [[.rs (fid 2 j) (nth s.heap j).length 1 (nth s.heap j).length]])])))
    (fun i=>[8].contains i) (j+1) (by omega) (by show s.heap.length - (j+1) < s.heap.length - j;omega) (jaH _ _ (jaH _ _ (jaH _ _ (jaH _ _ (jaH _ _ (jbp _ ?_ fun i=>?_)))))) rfl ?_ ?_ ?_)
   ·exact congrArg (Row.vec _ _) (jch rfl hRp)
   ·refine (jaW 0 _ R.sl (fun i=>jaW 1 _ R.pt (fun i=>jaW 2 j R.hp (l':=[_]++[(fid 2 j,.vec 3 1 ((nth s.heap j).map eI))]) (fun i=>?_) i) i) i).trans (jj1 R.hp (fun _ _=>rfl) ?_ jac i)
    ·simp only [jas,List.cons_append,List.nil_append]
     repeat' split
     all_goals first
      | rfl
      | (exfalso;omega)
    ·subst hR
     unfold RS.hp
     rfl
   ·refine ⟨.inr (jcD _ _),.inr rfl,.inr rfl,.inr (jb7 (enc:=eS) (sz:=1) _),.inr (jha fun j _=>?_),.inr (jha fun j _=>?_),jcM (fun j _=>jkt _ _ _) (jcM (fun j _=>jks _ _ _) (jcM (fun j _=>jqS _ _ _) ⟨.inl rfl,trivial⟩))⟩
    ·simp only [RS.fr,jaB,AV.all,jcB,jbs (L:=[8]) rfl];rfl
    ·simp only [jaB,AV.all,jcB,jbs (L:=[8]) rfl];rfl
   ·show Hp.mk [] (_::_::_::_::_::_::ja9 _ (fam 0 _ _ _))=_
    rw [jce (jbs rfl 0),jce (jbs rfl 1),jce (jbs rfl 2)]
    rfl
   ·exact vtl
  ·have hje:j=s.heap.length:=by omega
   subst hje
   (refine S ?_;try exact True.intro)
   (repeat' (first|refine jaa fun K hK=>?_|refine wkA ?_|(refine hK _ _ ?_;clear hK K)|(refine jad (fun hc=>?_) (fun hc=>?_)<;>first | contradiction | (exfalso;omega) | skip)|(refine hKp _ _ ?_)|refine wkB ?_|exact True.intro|(clear hK K)))
   refine jyq (l':=R.rowsT [(4,.var 39 (jai s)),(5,.var 39 R.c),(6,.var 39 R.c)]) (fun i=>?_) [.cell 2 39] ?_ ?_ ?_ ?_
   ·subst hR
    rw [RS.rowsT_app,jbB]
    by_cases i4:i=4
    ·subst i4;rw [RS.rows_no 4 (by omega) (by omega)];rfl
    by_cases i5:i=5
    ·subst i5;rw [RS.rows_no 5 (by omega) (by omega)];rfl
    by_cases i6:i=6
    ·subst i6;rw [RS.rows_no 6 (by omega) (by omega)];rfl
    rw [show jas [(4,Row.var 39 (jai s)),(5,.var 39 (RS.of s).c),(6,.var 39 (RS.of s).c)] i=none by simp only [jas,if_neg i4,if_neg i5,if_neg i6],Option.or_none]
    unfold RS.rows
    simp only [jas,if_neg i4,if_neg i5,if_neg i6]
    by_cases i1:i=1
    ·subst i1;rfl
    by_cases i2:i=2
    ·subst i2;rfl
    by_cases i3:i=3
    ·subst i3;rfl
    simp only [if_neg i1,if_neg i2,if_neg i3]
    rfl
   ·subst hR;rfl
   ·exact (RS.free (t:=0) (pre:=[]) (post:=[]) (R:=R) (t':=0) (pre':=[]) (post':=[]) (R':=R) rfl jac rfl rfl).2.1.2
   ·rfl
   ·have:=(RS.free (t:=0) (pre:=[]) (post:=[]) (R:=R) (t':=0) (pre':=[]) (post':=[]) (R':=R) (tl:=[(4,.var 39 (jai s)),(5,.var 39 R.c),(6,.var 39 R.c)]) rfl jac rfl rfl).2.2
    exact (List.cons.inj this).2
end Go.Proofs.YtfkgcobaheegbaaGreatDoor
