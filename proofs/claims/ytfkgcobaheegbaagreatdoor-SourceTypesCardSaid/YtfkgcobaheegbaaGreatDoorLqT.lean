/- The law SourceTypes: what it says is so. No conditions. -/
import Derived.Test.YtfkgcobaheegbaaGreatDoorLqX
import Derived.Test.YtfkgcobaheegbaaGreatDoorViK
set_option linter.all false
namespace Go.Proofs.YtfkgcobaheegbaaGreatDoor
open Go Go.Gd
set_option maxHeartbeats 4000000
set_option maxRecDepth 10000
theorem jwQ {p:GProg} (hw:WOk p) {s:GState} (hI:StInv p s) (t:WtR p (RS.of s)) (h0:¬ jaS p s < 0):1≤s.frames.length∧(jaS p s).toNat < p.tree.nodes.length∧∀ k,k < (jlz p (jaS p s)).length→0≤(nth (jlz p (jaS p s)) k).slot∧(nth (jlz p (jaS p s)) k).slot < (nth s.frames (s.frames.length - 1)).slots.length∧jhw (nth (nth s.frames (s.frames.length - 1)).slots (nth (jlz p (jaS p s)) k).slot.toNat)=true∧(nth (nth s.frames (s.frames.length - 1)).slots (nth (jlz p (jaS p s)) k).slot.toNat).ty=(nth (jlz p (jaS p s)) k).ty∧((nth (nth s.frames (s.frames.length - 1)).slots (nth (jlz p (jaS p s)) k).slot.toNat).ty=4→(nth (nth s.frames (s.frames.length - 1)).slots (nth (jlz p (jaS p s)) k).slot.toNat).n≤s.heap.length):=by
 have h2:¬ (s.status=2∨s.status=3):=fun hh=>h0 (by unfold jaS;rw [if_pos hh];decide)
 have hd:=hI.doing (fun hh=>h2 (.inl hh)) 0 (by decide)
 obtain ⟨_,s1,_⟩:=hd.stmt hw.ok
 have hat:atV p (RS.of { s with status:=0 }).st=jaS p s:=by rw [RS.of_st];unfold jaS;rw [if_neg h2];rfl
 rw [hat] at s1
 have h1:1≤s.frames.length:=hd.one
 have tf:FrT p s.heap.length (nth s.frames (s.frames.length - 1)):=t.fr (s.frames.length - 1) (by show _ < s.frames.length;omega)
 have hv:=jzZ hw hd.fr (N:=s.heap.length) tf hd.top
 have e:jfn p (RS.of { s with status:=0 }).topF=jaS p s:=by rw [← hat,hd.topSt]
 rw [e] at hv
 refine ⟨h1,s1,fun k hk=>?_⟩
 have hm:=jaw hk
 generalize nth (jlz p (jaS p s)) k=v at *
 rw [hv] at hm
 obtain ⟨g1,g2,g3,g4⟩:=tf.vis v hm
 exact ⟨g1,g2,g4,g3,tf.lst _ (jaw (by omega))⟩
theorem jlm (s:ByteArray) (inp:List Int) (a:Int) (hi:∀ x∈inp,rng x) (ha:0≤a∧a < 256):PCall Tryz.prog 8 [rS s,jal eI 1 inp,.raw (.int .u8 a)] (rB true):=by
 have hs:=jic (jdm s) (jgY s)
 have hok:=@jpY (jdm s)
 have hfn:=@jrF (jdm s)
 obtain ⟨n,hn,ea⟩:=jqo 101 (by decide) ha
 have ea:a.tmod 101=(n:Int):=ea
 generalize jaX (jdm s)=R at hs hok hfn
 obtain ⟨p,x,e⟩:=R
 simp only at hs hok hfn
 by_cases he:e=0
 rotate_left
 ·refine jb9 Tryz.func8 Tryz.ntmps8 ?_
  (have W:=he;repeat' (first|refine jaa fun K hK=>?_|refine wkA ?_|(refine hK _ _ ?_;clear hK K)|(refine jae (fun hc=>?_) (fun hc=>?_)<;>first | contradiction | (exfalso;omega) | skip)|refine cp (jgZ) ?_|refine cp (jgX _) ?_|refine al 0 ?_|refine cp (hs) ?_|refine wkB ?_|exact True.intro|(clear hK K)));all_goals (try clear W)
  (refine ja2 [.tmp 6] ?_;try simp only [go_sem])
 have hw:WOk p:=hok he
 have hp:=hw.ok
 have hfn:=hfn he
 have hin:=jnd inp
 have hir:=jne hi
 have hl:(jd9 inp).length≤1000:=by omega
 have hst:=jig hp
 refine jb9 Tryz.func8 Tryz.ntmps8 ?_
 (have W:=he;repeat' (first|refine jaa fun K hK=>?_|refine wkA ?_|(refine hK _ _ ?_;clear hK K)|(refine jae (fun hc=>?_) (fun hc=>?_)<;>first | contradiction | (exfalso;omega) | skip)|refine cp (jgZ) ?_|refine cp (jgX _) ?_|refine al 0 ?_|refine al 1 ?_|refine cp (hs) ?_|refine cp (jkZ _) ?_|refine cp (hst) ?_|refine wkB ?_|exact True.intro|(clear hK K)));all_goals (try clear W)
 have hKo:=hK;clear hK
 refine jah (S:=Nat) [(6,1),(12,7),(34,91)] (fun i=>i≤n) (fun i=>[(12,rI i)]) (fun i=>⟨[],[(0,.var 29 (jaB p)),(1,.var 39 (jao (je8 p (jd9 inp) i)))]⟩) (fun i=>n - i) 0 (by omega) (jaH rfl lle) ?_
 rintro i hi2 Kr hKr
 by_cases hlt:i < n
 rotate_left
 ·(refine S ?_;try exact True.intro)
  (have W:=ea;repeat' (first|refine jaa fun K hK=>?_|refine wkA ?_|(refine hK _ _ ?_;clear hK K)|(refine jae (fun hc=>?_) (fun hc=>?_)<;>first | contradiction | (exfalso;omega) | skip)|(refine hKo _ _ ?_)|refine wkB ?_|exact True.intro|(clear hK K)));all_goals (try clear W)
  (refine ja2 [.tmp 6] ?_;try simp only [go_sem])
 have hg:=jdd hp hl hir i
 have e2:je8 p (jd9 inp) (i+1)=jdo p (je8 p (jd9 inp) i) (jd9 inp):=rfl
 have hs1:=jln hp hg (by omega) (jd9 inp) hl
 rw [← e2] at hs1
 clear e2
 have hz:=hg.inv.fits hp
 have hn1:=jfb hp hg.inv
 have hwt:=jut hw hl hir i
 have hvr:=jwQ hw hg.inv hwt
 have hvl:=fun h=>jwP hp.ok hfn (node:=jaS p (je8 p (jd9 inp) i)) h
 clear hg hwt
 generalize h2e:je8 p (jd9 inp) (i+1)=s2 at *
 generalize je8 p (jd9 inp) i=s1 at *
 have f9:=hz.frs
 by_cases h0:jaS p s1 < 0
 ·have c0:=eq_true h0
  (refine S ?_;try exact True.intro)
  (have W:=And.intro ea (c0);repeat' (first|refine jaa fun K hK=>?_|refine wkA ?_|(refine hK _ _ ?_;clear hK K)|(refine jae (fun hc=>?_) (fun hc=>?_)<;>first | contradiction | (exfalso;omega) | skip)|refine cp (hn1) ?_|refine wkB ?_|exact True.intro|(clear hK K)));all_goals (try clear W)
  (refine ja2 [.tmp 6] ?_;try simp only [go_sem])
 obtain ⟨g1,g2,g3⟩:=hvr h0
 have hvl:=hvl g2
 have hv4:=jzY hp.ok hfn (jaS p s1) (by omega) g2
 have c0:=eq_false h0
 have c1:((s1.frames.length:Int)=0)=False:=eq_false (by omega)
 obtain ⟨L,hL⟩:∃ L,s1.frames.length=L+1:=⟨s1.frames.length - 1,by omega⟩
 rw [hL,Nat.add_sub_cancel] at g3
 clear hvr
 generalize hvs:jlz p (jaS p s1)=vs at *
 generalize hf0:nth s1.frames L=f at *
 have hf1:nth s1.frames (L+1 - 1)=f:=hf0
 (refine S ?_;try exact True.intro)
 (have W:=And.intro ea (And.intro c0 (And.intro c1 (And.intro hL (hf1))));repeat' (first|refine jaa fun K hK=>?_|refine wkA ?_|(refine hK _ _ ?_;clear hK K)|(refine jae (fun hc=>?_) (fun hc=>?_)<;>first | contradiction | (exfalso;omega) | skip)|refine al 2 ?_|refine cp (hn1) ?_|refine cp (hv4) ?_|refine wkB ?_|exact True.intro|(clear hK K)));all_goals (try clear W)
 have hKi:=hK;clear hK
 have hKb:=hK;clear hK
 refine jah (S:=Nat) [(6,1),(16,3),(62,59)] (fun k=>k≤vs.length) (fun k=>[(16,rI k)]) (fun k=>⟨[],[(0,.var 29 (jaB p)),(1,.var 39 (jao s1)),(2,.var 57 (jaN f))]⟩) (fun k=>vs.length - k) 0 (by omega) (jaH rfl lle) ?_
 rintro k hk Ks hKs
 by_cases hkl:k < vs.length
 ·obtain ⟨v1,v2,v3,v4,v5⟩:=g3 k hkl
  generalize hv:nth vs k=v at *
  have hm:=jul (nth f.slots v.slot.toNat)
  have hsl:v.slot.toNat < f.slots.length:=by omega
  generalize hu:nth f.slots v.slot.toNat=u at *
  rw [v3] at hm
  by_cases h4:u.ty=4
  ·have v6:=v5 h4
   rw [h4] at v4
   (refine S ?_;try exact True.intro)
   (have W:=And.intro hv (And.intro hu (And.intro h4 (v4)));repeat' (first|refine jaa fun K hK=>?_|refine wkA ?_|(with_reducible refine gR 20 ?_);refine dE 20 [0,1,2,3,4,5,6,7,8,9,10,11,12,13,14,15,16] mixed ?_|(with_reducible refine gR 22 ?_);refine dE 22 [0,1,2,3,4,5,6,7,8,9,10] mixed ?_|(with_reducible refine gR 24 ?_);refine dE 24 [0,1,2,3,4,5,6,7,8,9,10,11,12,13,14,15,16,17,18,19,20,21,22,23,24] mixed ?_|(refine hK _ _ ?_;clear hK K)|(refine jae (fun hc=>?_) (fun hc=>?_)<;>first | contradiction | (exfalso;omega) | skip)|refine al 3 ?_|refine cp (hm) ?_|refine wkB ?_|exact True.intro|(clear hK K)));all_goals (try clear W)
   refine hKs _ _ (ja5 [3] (k+1) (by omega) (by show vs.length - (k+1) < vs.length - k;omega) rfl Sd rfl vtl)
  ·have h5:=eq_false h4
   (refine S ?_;try exact True.intro)
   (have W:=And.intro hv (And.intro hu (And.intro h5 (v4)));repeat' (first|refine jaa fun K hK=>?_|refine wkA ?_|(with_reducible refine gR 20 ?_);refine dE 20 [0,1,2,3,4,5,6,7,8,9,10,11,12,13,14,15,16] mixed ?_|(with_reducible refine gR 22 ?_);refine dE 22 [0,1,2,3,4,5,6,7,8,9,10] mixed ?_|(with_reducible refine gR 24 ?_);refine dE 24 [0,1,2,3,4,5,6,7,8,9,10,11,12,13,14,15,16,17,18,19,20,21,22,23,24] mixed ?_|(refine hK _ _ ?_;clear hK K)|(refine jae (fun hc=>?_) (fun hc=>?_)<;>first | contradiction | (exfalso;omega) | skip)|refine al 3 ?_|refine cp (hm) ?_|refine wkB ?_|exact True.intro|(clear hK K)));all_goals (try clear W)
   refine hKs _ _ (ja5 [3] (k+1) (by omega) (by show vs.length - (k+1) < vs.length - k;omega) rfl Sd rfl vtl)
 ·(refine S ?_;try exact True.intro)
  (repeat' (first|refine jaa fun K hK=>?_|refine wkA ?_|(refine hK _ _ ?_;clear hK K)|(refine jae (fun hc=>?_) (fun hc=>?_)<;>first | contradiction | (exfalso;omega) | skip)|(refine hKi _ _ ?_)|(refine hKb _ _ ?_)|refine cp (hs1) ?_|refine wkB ?_|exact True.intro|(clear hK K)))
  refine hKr _ _ (ja5 [2] (i+1) (by omega) (by show n - (i+1) < n - i;omega) rfl Sd (by rw [h2e];rfl) vtl)
end Go.Proofs.YtfkgcobaheegbaaGreatDoor
