/- What a step does to a state: what stays, what grows. A run that waits, and one input more. The laws of the source: what they share. No conditions. -/
import Derived.Test.YtfkgcobaheegbaaGreatDoorSoH
import Derived.Test.YtfkgcobaheegbaaGreatDoorSrH
import Derived.Test.YtfkgcobaheegbaaGreatDoorSoL
import Derived.Test.YtfkgcobaheegbaaGreatDoorGdR
set_option linter.all false
namespace Go.Gd
open Go
structure Lw (R R':RS):Prop where
 nf:R'.nf≤R.nf
 low:∀ k,k+1 < R'.nf→nth R'.frs k=nth R.frs k
 len:R'.frs.length=R.frs.length
 st:R'.status=R.status∨(R'.status=2∧R'.nf=0)
theorem Lw.refl (R:RS):Lw R R:=⟨Nat.le_refl _,fun _ _=>rfl,rfl,.inl rfl⟩
theorem Lw.trans {a b c:RS} (h:Lw a b) (k:Lw b c):Lw a c:=⟨Nat.le_trans k.nf h.nf,fun i hi=>(k.low i hi).trans (h.low i (by have:=k.nf;omega)),k.len.trans h.len,by
 rcases k.st with e | e
 ·rcases h.st with e' | e'
  ·exact .inl (e.trans e')
  ·exact .inr ⟨e.trans e'.1,by have:=k.nf;omega⟩
 ·exact .inr e⟩
theorem jql {R:RS} (h:R.nf≤R.frs.length) (h1:1≤R.nf) (f:GFrame):Lw R (R.upd (R.nf - 1) f):=⟨Nat.le_refl _,fun k hk=>by
 have hk:k+1 < R.nf:=hk
 rw [RS.nth_upd (by omega),if_neg (by omega)],RS.upd_len.symm,.inl rfl⟩
theorem jqk {R:RS} (h:R.nf≤R.frs.length) (h1:1≤R.nf):Lw R R.on:=jql h h1 _
theorem jhC {R:RS} (h:R.nf≤R.frs.length) (h1:1≤R.nf) (p:GProg) (a:Int) (v:GValue):Lw R (R.store p a v):=
 (jql h h1 _).trans (jqk (R:=R.setS p a v) (by show R.nf≤(R.frs.set _ _).length;simpa using h) h1)
theorem jlj {R:RS} (h:R.nf≤R.frs.length) (h1:1≤R.nf) (b:Int):Lw R (R.deeper b):=jql h h1 _
theorem jtI (R:RS):Lw R R.pop:=⟨Nat.sub_le _ _,fun _ _=>rfl,rfl,.inl rfl⟩
theorem jnK {R:RS} (h:R.nf≤R.frs.length) (p:GProg) (v:GValue):Lw R (R.tells p v):=by
 unfold RS.tells
 split
 ·rename_i e
  exact ⟨Nat.sub_le _ _,fun _ _=>rfl,rfl,.inr ⟨rfl,by show R.nf - 1=0;omega⟩⟩
 ·have h1:1≤R.pop.nf:=by show 1≤R.nf - 1;omega
  have h2:R.pop.nf≤R.pop.frs.length:=by show R.nf - 1≤R.frs.length;omega
  split
  ·exact (jtI R).trans (jhC h2 h1 _ _ _)
  ·exact (jtI R).trans (jqk h2 h1)
theorem jdT (p:GProg):∀ (n:Nat) (R:RS),R.nf≤R.frs.length→(R.status≠2→1≤R.nf)→Lw R (jbf p n R)
 | 0,R,_,_=>Lw.refl R
 | n+1,R,h,h1=>by
  unfold jbf
  split
  ·exact Lw.refl R
  rename_i e
  have hn:=h1 e
  split
  ·have ht:=jnK h p (vZ (nth p.tree.fns R.topF.fn.toNat).ret)
   refine ht.trans (jdT p n _ (by have:=ht.nf;have:=ht.len;omega) fun e2=>?_)
   unfold RS.tells at e2 ⊢
   split
   ·rename_i e3;rw [if_pos e3] at e2;exact (e2 rfl).elim
   ·split<;>(show 1≤R.nf - 1;omega)
  split
  ·exact Lw.refl R
  ·have hc:Lw R R.cut:=⟨Nat.le_refl _,fun k hk=>by
    have hk:k+1 < R.nf:=hk
    show nth (R.frs.set _ _) k=_
    rw [Go.Gd.nth_upd _ _ _ _ (by omega),if_neg (by omega)],by show (R.frs.set _ _).length=_;simp,.inl rfl⟩
   exact hc.trans (jdT p n _ (by show R.nf≤(R.frs.set _ _).length;simpa using h) h1)
def jpD (p:GProg) (a:Int):Prop:=1≤(jak p a).l.length∧(jak p (nth (jak p a).l 0)).kind=21
structure Mv (p:GProg) (inp:List Int) (a:Int) (R R':RS):Prop where
 out:∃ o:List ByteArray,R'.out_=R.out_++o∧o.length≤1
 hl:R.heap.length≤R'.heap.length
 len:∀ k,k < R.heap.length→(nth R'.heap k).length=(nth R.heap k).length
 i0:R.in_≤R'.in_
 i1:R'.in_=R.in_∨R'.in_≤inp.length
 nf:R'.nf≤R.nf∨(R'.nf≤R.nf+1∧jpD p a)
 low:∀ k,k+1 < R.nf→k+1 < R'.nf→nth R'.frs k=nth R.frs k
 st:R'.status=R.status∨(R'.status=2∧R'.nf=0)
 trap:R'.trap=R.trap
theorem Mv.refl (p:GProg) (inp:List Int) (a:Int) (R:RS):Mv p inp a R R:=⟨⟨[],by simp⟩,Nat.le_refl _,fun _ _=>rfl,Int.le_refl _,.inl rfl,.inl (Nat.le_refl _),fun _ _ _=>rfl,.inl rfl,rfl⟩
theorem Mv.lw {p:GProg} {inp:List Int} {a:Int} {R R1 R2:RS} (h:Mv p inp a R R1) (k:Lw R1 R2) (c:Kept R1 R2):Mv p inp a R R2:=
 ⟨by rw [c.out_];exact h.out,by rw [c.heap];exact h.hl,by rw [c.heap];exact h.len,by rw [c.in_];exact h.i0,by rw [c.in_];exact h.i1,by have:=k.nf;exact h.nf.elim (fun e=>.inl (by omega)) fun e=>.inr ⟨by omega,e.2⟩,
  fun i h1 h2=>(k.low i h2).trans (h.low i h1 (by have:=k.nf;omega)),by
   rcases k.st with e | e
   ·rcases h.st with e' | e'
    ·exact .inl (e.trans e')
    ·exact .inr ⟨e.trans e'.1,by have:=k.nf;omega⟩
   ·exact .inr e,c.trap.trans h.trap⟩
theorem jgL (R:RS) (p:GProg) (a:Int) (v:GValue):Kept R (R.store p a v):=⟨rfl,rfl,rfl,rfl,rfl⟩
theorem jqo (R:RS) (p:GProg) (inp:List Int) (a x:Int) (hf:R.nf=R.frs.length) (hc:jpD p a):Mv p inp a R (R.call p x).1:=by
 unfold RS.call
 simp only
 split
 ·exact Mv.refl _ _ _ R
 split
 ·exact Mv.refl _ _ _ R
 ·refine ⟨⟨[],by simp [RS.push]⟩,Nat.le_refl _,fun _ _=>rfl,Int.le_refl _,.inl rfl,.inr ⟨Nat.le_refl _,hc⟩,fun k h1 h2=>?_,.inl rfl,rfl⟩
  show nth (R.frs++[_]) k=_
  rw [jbb (by omega)]
theorem jss (R:RS) (p:GProg) (inp:List Int) (a x:Int):Mv p inp a R (R.fresh p x).1:=by
 unfold RS.fresh
 simp only
 split
 ·exact Mv.refl _ _ _ R
 split
 ·exact Mv.refl _ _ _ R
 split
 ·exact Mv.refl _ _ _ R
 ·refine ⟨⟨[],by simp⟩,by show _≤(R.heap++[_]).length;simp,fun k hk=>?_,Int.le_refl _,.inl rfl,.inl (Nat.le_refl _),fun _ _ _=>rfl,.inl rfl,rfl⟩
  show (nth (R.heap++[_]) k).length=_
  rw [jbb hk]
theorem joI (R:RS) (p:GProg) (x:Int):(R.fresh p x).1.nf=R.nf∧(R.fresh p x).1.frs=R.frs:=by
 unfold RS.fresh
 simp only
 (repeat' split)<;>exact ⟨rfl,rfl⟩
theorem jyg (R:RS) (p:GProg) (inp:List Int) (a:Int) (h:R.nf≤R.frs.length) (h1:1≤R.nf):Mv p inp a R (R.put p a).1:=by
 unfold RS.put
 simp only
 split
 ·exact Mv.refl _ _ _ R
 split
 ·exact Mv.refl _ _ _ R
 split
 ·exact Mv.refl _ _ _ R
 ·have hm:∀ (i:Nat) (j:Nat) (y:Int),Mv p inp a R { R with heap:=R.heap.set i ((nth R.heap i).set j y) }:=fun i j y=>by
   refine ⟨⟨[],by simp⟩,by show _≤(R.heap.set _ _).length;simp,fun k hk=>?_,Int.le_refl _,.inl rfl,.inl (Nat.le_refl _),fun _ _ _=>rfl,.inl rfl,rfl⟩
   show (nth (R.heap.set _ _) k).length=_
   by_cases e:i < R.heap.length
   ·rw [Go.Gd.nth_upd _ _ _ _ e]
    split
    ·rename_i e2;subst e2;simp
    ·rfl
   ·rw [List.set_eq_of_length_le (by omega)]
  exact (hm _ _ _).lw (jqk (by exact h) h1) ⟨rfl,rfl,rfl,rfl,rfl⟩
end Go.Gd
namespace Go.Proofs.YtfkgcobaheegbaaGreatDoor
open Go Go.Gd
set_option maxHeartbeats 4000000
theorem jpM {p:GProg} (hs:SOk p) {R:RS} (h:Doing p R) {inp:List Int} (hw:¬ jbR p R.st (atV p R.st) inp):Mv p inp (atV p R.st) R (R.does p (atV p R.st) inp).1:=by
 obtain ⟨s0,s1,s2,_⟩:=h.stmt hs
 have sh:=(hs.ok.tree.shape _ s1)
 have hnf:=h.inv.ok.nf
 have h1:=h.one
 have hful:=h.full
 generalize hnode:atV p R.st=node at *
 have hR:=Mv.refl p inp node R
 have hon:Mv p inp node R R.on:=hR.lw (jqk hnf h1) ⟨rfl,rfl,rfl,rfl,rfl⟩
 have hst:∀ v,Mv p inp node R (R.store p node v):=fun v=>hR.lw (jhC hnf h1 _ _ _) (jgL _ _ _ _)
 have hdp:∀ b,Mv p inp node R (R.deeper b):=fun b=>hR.lw (jlj hnf h1 _) ⟨rfl,rfl,rfl,rfl,rfl⟩
 have hod:∀ b,Mv p inp node R (R.on.deeper b):=fun b=>hon.lw (jlj (R:=R.on) (by show R.nf≤(R.frs.set _ _).length;simpa using hnf) h1 _) ⟨rfl,rfl,rfl,rfl,rfl⟩
 have htl:∀ v,Mv p inp node R (R.tells p v):=fun v=>hR.lw (jnK hnf p v) (jeZ _ _ _)
 unfold RS.does
 simp only
 split
 ·rename_i e
  obtain ⟨a,ha,hr⟩:=sh.1.right e
  have hla:(jak p node).l=[a]:=ha
  have hx:nth (jak p node).l 0=a:=by rw [hla];rfl
  unfold RS.right
  simp only [hx]
  split
  ·rename_i e1
   exact jqo R p inp node a hful ⟨by rw [hla];simp,by rw [hx];exact e1⟩
  split
  ·rename_i e2
   have hin:¬ ((inp.length:Int)≤R.in_):=fun hle=>hw ⟨e,by rw [hx];exact e2,hle⟩
   have hm:Mv p inp node R { R with in_:=R.in_+1 }:=⟨⟨[],by simp⟩,Nat.le_refl _,fun _ _=>rfl,by show R.in_≤R.in_+1;omega,.inr (by show R.in_+1≤_;omega),.inl (Nat.le_refl _),fun _ _ _=>rfl,.inl rfl,rfl⟩
   exact hm.lw (jhC (by exact hnf) (by exact h1) _ _ _) (jgL _ _ _ _)
  split
  ·have hf:=jss R p inp node a
   obtain ⟨f1,f2⟩:=joI R p a
   split
   ·exact hf.lw (jhC (by rw [f1,f2];exact hnf) (by rw [f1];exact h1) _ _ _) (jgL _ _ _ _)
   ·exact hf
  split
  ·exact hst _
  ·exact hR
 split
 ·rename_i e1
  obtain ⟨a,ha,hr⟩:=sh.1.do_ e1
  have hla:(jak p node).l=[a]:=ha
  have hx:nth (jak p node).l 0=a:=by rw [hla];rfl
  rw [hx]
  exact jqo R p inp node a hful ⟨by rw [hla];simp,by rw [hx];exact hr⟩
 split
 ·exact jyg R p inp node hnf h1
 split
 ·split
  ·exact htl _
  split
  ·exact hR
  ·exact htl _
 split
 ·exact hR
 split
 ·split
  ·exact hR
  ·have hm:∀ t,Mv p inp node R { R with out_:=R.out_++[t] }:=fun t=>⟨⟨[t],rfl,Nat.le_refl _⟩,Nat.le_refl _,fun _ _=>rfl,Int.le_refl _,.inl rfl,.inl (Nat.le_refl _),fun _ _ _=>rfl,.inl rfl,rfl⟩
   exact (hm _).lw (jqk (by exact hnf) (by exact h1)) ⟨rfl,rfl,rfl,rfl,rfl⟩
 split
 ·(repeat' split)<;>first | exact hod _ | exact hon
 split
 ·split
  ·exact hdp _
  ·exact hon
 ·exact hR
structure StQ (inp:List Int) (s:GState):Prop where
 s0:0≤s.status
 s3:s.status≤3
 none:s.status=2→s.frames.length=0
 trap:s.status=3↔s.trap≠0
 in1:s.in_≤inp.length
structure StepF (p:GProg) (inp:List Int) (s b:GState):Prop where
 out:∃ o:List ByteArray,b.out_=s.out_++o∧o.length≤1
 hl:s.heap.length≤b.heap.length
 len:∀ k,k < s.heap.length→(nth b.heap k).length=(nth s.heap k).length
 i0:s.in_≤b.in_
 nf:b.frames.length≤s.frames.length∨(b.frames.length≤s.frames.length+1∧jpD p (jav p s)∧0≤jav p b∧(s.status≠2∧s.status≠3))
 low:∀ k,k+1 < s.frames.length→k+1 < b.frames.length→nth b.frames k=nth s.frames k
 t0:s.time≤b.time
 t1:b.time≤s.time+1
 still:s.status=2∨s.status=3→b=s
 go:¬ (s.status=2∨s.status=3)→b.status≠1→b.time=s.time+1
theorem StepF.refl (p:GProg) (inp:List Int) (s:GState) (h:s.status=2∨s.status=3):StepF p inp s s:=
 ⟨⟨[],by simp⟩,Nat.le_refl _,fun _ _=>rfl,Int.le_refl _,.inl (Nat.le_refl _),fun _ _ _=>rfl,Int.le_refl _,by omega,fun _=>rfl,fun h'=>(h' h).elim⟩
theorem jpa {p:GProg} (hs:SOk p) {n:Nat} {s:GState} (h:jja p n s) {inp:List Int} (hn:inp.length≤1000) (hq:StQ inp s):StQ inp (jbc p s inp)∧StepF p inp s (jbc p s inp):=by
 have hb:=jq6 hs h.inv hn
 generalize hbe:jbc p s inp=b at hb ⊢
 unfold jbc at hbe
 by_cases h0:jav p s < 0
 ·rw [if_pos h0] at hbe
  subst hbe
  refine ⟨hq,StepF.refl p inp s ?_⟩
  apply Classical.byContradiction
  intro hh
  have hd:=h.inv.doing (fun e=>hh (.inl e)) 0 (by decide)
  obtain ⟨s0,_⟩:=hd.stmt hs
  rw [RS.of_st] at s0
  unfold jav at h0
  rw [if_neg hh] at h0
  have:atV p { s with status:=0 }=atV p s:=rfl
  omega
 rw [if_neg h0] at hbe
 have h2:¬ (s.status=2∨s.status=3):=fun hh=>h0 (by unfold jav;rw [if_pos hh];decide)
 have ht0:s.trap=0:=Classical.byContradiction fun e=>h2 (.inr (hq.trap.2 e))
 by_cases hw:jbR p s (jav p s) inp
 ·rw [if_pos hw] at hbe
  subst hbe
  refine ⟨⟨by show (0:Int)≤1;decide,by show (1:Int)≤3;decide,fun e=>absurd e (by show ¬ ((1:Int)=2);decide),⟨fun e=>absurd e (by show ¬ ((1:Int)=3);decide),fun e=>(e ht0).elim⟩,hq.in1⟩,
   ⟨⟨[],by simp⟩,Nat.le_refl _,fun _ _=>rfl,Int.le_refl _,.inl (Nat.le_refl _),fun _ _ _=>rfl,Int.le_refl _,by show s.time≤s.time+1;omega,fun e=>(h2 e).elim,fun _ e=>(e rfl).elim⟩⟩
 rw [if_neg hw] at hbe
 simp only at hbe
 have hd:=h.inv.doing (fun hh=>h2 (.inl hh)) 0 (by decide)
 have hst:(RS.of { s with status:=0 }).st={ s with status:=0 }:=RS.of_st _
 have hat:atV p (RS.of { s with status:=0 }).st=jav p s:=by rw [RS.of_st];unfold jav;rw [if_neg h2];rfl
 have hm:=jpM hs hd (inp:=inp) (by rw [hat,hst];exact hw)
 have ha:=fun e=>hd.does hs hn (by rw [hat,hst];exact hw) e
 rw [hat] at hm ha
 generalize (RS.of { s with status:=0 }).does p (jav p s) inp=X at *
 by_cases hz:X.2=0
 rotate_left
 ·rw [if_pos hz] at hbe
  subst hbe
  exact ⟨⟨by show (0:Int)≤3;decide,by show (3:Int)≤3;decide,fun e=>absurd e (by show ¬ ((3:Int)=2);decide),⟨fun _=>hz,fun _=>rfl⟩,hq.in1⟩,
   ⟨⟨[],by simp⟩,Nat.le_refl _,fun _ _=>rfl,Int.le_refl _,.inl (Nat.le_refl _),fun _ _ _=>rfl,by show s.time≤s.time+1;omega,by show s.time+1≤s.time+1;omega,fun e=>(h2 e).elim,fun _ _=>rfl⟩⟩
 rw [if_neg (fun e=>e hz)] at hbe
 have hA:=ha hz
 have hI2:InvR p { X.1 with time:=s.time+1 }:=⟨⟨hA.inv.ok.nf,hA.inv.ok.jp⟩,hA.inv.frs,hA.inv.fr,hA.inv.busy,hA.inv.go⟩
 have hlw:=jdT p (RS.left { X.1 with time:=s.time+1 }+1) { X.1 with time:=s.time+1 } hI2.ok.nf hI2.go
 have hkp:=jbJ p (RS.left { X.1 with time:=s.time+1 }+1) { X.1 with time:=s.time+1 }
 have hok:(RS.settle { X.1 with time:=s.time+1 } p).nf≤(RS.settle { X.1 with time:=s.time+1 } p).frs.length:=(jcx (RS.left { X.1 with time:=s.time+1 }+1) { X.1 with time:=s.time+1 } hI2 (by omega)).1.ok.nf
 have hX:Mv p inp (jav p s) (RS.of { s with status:=0 }) { X.1 with time:=s.time+1 }:=⟨hm.out,hm.hl,hm.len,hm.i0,hm.i1,hm.nf,hm.low,hm.st,hm.trap⟩
 have hm2:=hX.lw hlw hkp
 have htm:b.time=s.time+1:=by rw [← hbe];exact hkp.time
 change (RS.settle { X.1 with time:=s.time+1 } p).st=b at hbe
 change Mv p inp (jav p s) _ (RS.settle { X.1 with time:=s.time+1 } p) at hm2
 generalize RS.settle { X.1 with time:=s.time+1 } p=T at *
 have hfl:b.frames.length=T.nf:=by rw [← hbe];show (T.frs.take T.nf).length=_;simp;omega
 have hfk:∀ k,k < T.nf→nth b.frames k=nth T.frs k:=fun k hk=>by rw [← hbe];exact jih _ _ _ hk
 have hsl:(RS.of { s with status:=0 }).nf=s.frames.length:=rfl
 have hbst:b.status=T.status:=by rw [← hbe];rfl
 have hbtr:b.trap=T.trap:=by rw [← hbe];rfl
 have hbin:b.in_=T.in_:=by rw [← hbe];rfl
 have hbhp:b.heap=T.heap:=by rw [← hbe];rfl
 have hbou:b.out_=T.out_:=by rw [← hbe];rfl
 have hst2:T.status=0∨(T.status=2∧T.nf=0):=hm2.st
 have htr2:T.trap=s.trap:=hm2.trap
 refine ⟨⟨by rw [hbst];rcases hst2 with e | e<;>omega,by rw [hbst];rcases hst2 with e | e<;>omega,fun e=>?_,?_,?_⟩,⟨by rw [hbou];exact hm2.out,by rw [hbhp];exact hm2.hl,by rw [hbhp];exact hm2.len,by rw [hbin];exact hm2.i0,?_,fun k k1 k2=>?_,by omega,by omega,fun e=>(h2 e).elim,fun _ _=>htm⟩⟩
 ·rw [hbst] at e;rw [hfl];rcases hst2 with e' | e'<;>omega
 ·rw [hbst,hbtr,htr2,ht0]
  rcases hst2 with e | e<;>(constructor<;>intro e'<;>omega)
 ·rw [hbin]
  rcases hm2.i1 with e | e
  ·rw [e];exact hq.in1
  ·exact e
 ·rw [hfl]
  rcases hm2.nf with e | ⟨e1,e2⟩
  ·exact .inl e
  by_cases hle:T.nf≤s.frames.length
  ·exact .inl hle
  refine .inr ⟨e1,e2,?_,fun e=>h2 (.inl e),fun e=>h2 (.inr e)⟩
  have hne:¬ (b.status=2∨b.status=3):=by rw [hbst];rcases hst2 with e | e<;>omega
  have hdb:=hb.doing (fun hh=>hne (.inl hh)) 0 (by decide)
  obtain ⟨s0,_⟩:=hdb.stmt hs
  rw [RS.of_st] at s0
  unfold jav
  rw [if_neg hne]
  exact s0
 ·rw [hfl] at k2
  rw [hfk k (by omega),hm2.low k (by rw [hsl];exact k1) k2]
  rfl
theorem jq3 {p:GProg} (hs:SOk p) (inp:List Int):StQ inp (jiD p):=by
 rw [jkD]
 have hI:=(jcP hs).inv
 have hlw:=jdT p ((jdm p).left+1) (jdm p) hI.ok.nf hI.go
 have hkp:=jbJ p ((jdm p).left+1) (jdm p)
 have hok:((jdm p).settle p).nf≤((jdm p).settle p).frs.length:=(jcx ((jdm p).left+1) (jdm p) hI (by omega)).1.ok.nf
 change Lw _ ((jdm p).settle p) at hlw
 change Kept _ ((jdm p).settle p) at hkp
 generalize (jdm p).settle p=T at *
 have h0:T.status=0∨(T.status=2∧T.nf=0):=hlw.st
 have ht:T.trap=0:=hkp.trap
 have hi:T.in_=0:=hkp.in_
 refine ⟨by show 0≤T.status;omega,by show T.status≤3;omega,fun e=>?_,?_,by show T.in_≤_;omega⟩
 ·show (T.frs.take T.nf).length=0
  have e:T.status=2:=e
  have:T.nf=0:=by omega
  rw [this];rfl
 ·show T.status=3↔T.trap≠0
  constructor<;>intro e<;>omega
theorem jsS {p:GProg} (hs:SOk p) {inp:List Int} (hn:inp.length≤1000) (hi:∀ x∈inp,rng x):∀ n,StQ inp (jbS p inp n)
 | 0=>jq3 hs inp
 | n+1=>(jpa hs (jb1 hs hn hi n) hn (jsS hs hn hi n)).1
theorem jpL {p:GProg} {R:RS} {a:Int} {inp:List Int} (x:Int) (hi0:0≤R.in_) (hw:jfn p a→(jak p (nth (jak p a).l 0)).kind=19→R.in_ < inp.length):R.does p a (inp++[x])=R.does p a inp:=by
 unfold RS.does
 simp only
 by_cases e:(jak p a).kind=10∨(jak p a).kind=11
 rotate_left
 ·rw [if_neg e,if_neg e]
 rw [if_pos e,if_pos e]
 unfold RS.right
 simp only
 by_cases e1:(jak p (nth (jak p a).l 0)).kind=21
 ·rw [if_pos e1,if_pos e1]
 rw [if_neg e1,if_neg e1]
 by_cases e2:(jak p (nth (jak p a).l 0)).kind=19
 ·rw [if_pos e2,if_pos e2]
  have hlt:=hw e e2
  rw [show nth (inp++[x]) R.in_.toNat=nth inp R.in_.toNat from jbb (by omega)]
 ·rw [if_neg e2,if_neg e2]
theorem jq5 {p:GProg} {s:GState} (hI:StInv p s) {inp:List Int} (x:Int) (hw:¬ jav p s < 0→¬ jbR p s (jav p s) inp):jbc p s (inp++[x])=jbc p s inp:=by
 unfold jbc
 by_cases h0:jav p s < 0
 ·rw [if_pos h0,if_pos h0]
 rw [if_neg h0,if_neg h0]
 have hw:=hw h0
 have hw2:¬ jbR p s (jav p s) (inp++[x]):=fun ⟨a,b,c⟩=>hw ⟨a,b,by simp at c;omega⟩
 rw [if_neg hw,if_neg hw2]
 rw [jpL (R:=RS.of { s with status:=0 }) x hI.in0 fun a b=>by
  have:¬ ((inp.length:Int)≤s.in_):=fun c=>hw ⟨a,b,c⟩
  show s.in_ < _
  omega]
def WQ (p:GProg) (inp:List Int) (s:GState):Prop:=s.status=1→jbR p s (jav p s) inp
theorem jnQ (p:GProg) (s:GState) (h:¬ (s.status=2∨s.status=3)) (c:Int) (hc:c=0∨c=1):jav p { s with status:=c }=jav p s:=by
 unfold jav
 rw [if_neg h,if_neg (by show ¬ (c=2∨c=3);omega)]
 rfl
theorem jmE {p:GProg} (hs:SOk p) {s:GState} (hI:StInv p s) (h:¬ (s.status=2∨s.status=3)):¬ jav p s < 0:=fun h0=>by
 have hd:=hI.doing (fun e=>h (.inl e)) 0 (by decide)
 obtain ⟨s0,_⟩:=hd.stmt hs
 rw [RS.of_st] at s0
 unfold jav at h0
 rw [if_neg h] at h0
 have:atV p { s with status:=0 }=atV p s:=rfl
 omega
theorem jlJ {p:GProg} (n:Nat) (R:RS) (hI:InvR p R) (h:R.status=0):(jbf p n R).status=0∨(jbf p n R).status=2:=by
 have:=(jdT p n R hI.ok.nf hI.go).st
 rcases this with e | e
 ·exact .inl (e.trans h)
 ·exact .inr e.1
theorem jeX {p:GProg} (hs:SOk p) {s:GState} (hI:StInv p s) {inp:List Int} (hn:inp.length≤1000) :
  ((s.status=2∨s.status=3)∧jbc p s inp=s)∨(¬ (s.status=2∨s.status=3)∧jbR p s (jav p s) inp∧jbc p s inp={ s with status:=1 })∨
   (¬ (s.status=2∨s.status=3)∧¬ jbR p s (jav p s) inp∧(jbc p s inp).status≠1∧(jbc p s inp).time=s.time+1):=by
 by_cases h2:s.status=2∨s.status=3
 ·refine .inl ⟨h2,?_⟩
  unfold jbc
  rw [if_pos (by unfold jav;rw [if_pos h2];decide)]
 have h0:=jmE hs hI h2
 by_cases hw:jbR p s (jav p s) inp
 ·refine .inr (.inl ⟨h2,hw,?_⟩)
  unfold jbc
  rw [if_neg h0,if_pos hw]
 refine .inr (.inr ⟨h2,hw,?_⟩)
 have hd:=hI.doing (fun hh=>h2 (.inl hh)) 0 (by decide)
 have hst:(RS.of { s with status:=0 }).st={ s with status:=0 }:=RS.of_st _
 have hat:atV p (RS.of { s with status:=0 }).st=jav p s:=by rw [RS.of_st];unfold jav;rw [if_neg h2];rfl
 have hm:=jpM hs hd (inp:=inp) (by rw [hat,hst];exact hw)
 have ha:=fun e=>hd.does hs hn (by rw [hat,hst];exact hw) e
 rw [hat] at hm ha
 unfold jbc
 rw [if_neg h0,if_neg hw]
 simp only
 generalize (RS.of { s with status:=0 }).does p (jav p s) inp=X at *
 by_cases hz:X.2=0
 rotate_left
 ·rw [if_pos hz]
  exact ⟨by show ¬ ((3:Int)=1);decide,rfl⟩
 rw [if_neg (fun e=>e hz)]
 have hA:=ha hz
 have hI2:InvR p { X.1 with time:=s.time+1 }:=⟨⟨hA.inv.ok.nf,hA.inv.ok.jp⟩,hA.inv.frs,hA.inv.fr,hA.inv.busy,hA.inv.go⟩
 have hlw:=(jdT p (RS.left { X.1 with time:=s.time+1 }+1) { X.1 with time:=s.time+1 } hI2.ok.nf hI2.go).st
 have hkp:=jbJ p (RS.left { X.1 with time:=s.time+1 }+1) { X.1 with time:=s.time+1 }
 have hX:X.1.status=0∨(X.1.status=2∧X.1.nf=0):=hm.st
 refine ⟨?_,hkp.time⟩
 show ¬ ((jbf p (RS.left { X.1 with time:=s.time+1 }+1) { X.1 with time:=s.time+1 }).status=1)
 rcases hlw with e | e
 ·rw [e];show ¬ (X.1.status=1);omega
 ·rw [e.1];decide
theorem jgB {p:GProg} (hs:SOk p) {inp:List Int} (hn:inp.length≤1000) (hi:∀ x∈inp,rng x):∀ n,WQ p inp (jbS p inp n)∧((jbS p inp n).status=0→(jbS p inp n).time=n)
 | 0=>by
  have hq:=jq3 hs inp
  have hI:=(jcP hs).inv
  have h:=jlJ (p:=p) ((jdm p).left+1) (jdm p) hI rfl
  have hkp:=jbJ p ((jdm p).left+1) (jdm p)
  refine ⟨fun e=>?_,fun _=>?_⟩
  ·exfalso
   have e:(jbf p ((jdm p).left+1) (jdm p)).status=1:=e
   omega
  ·exact hkp.time
 | n+1=>by
  obtain ⟨h1,h2⟩:=jgB hs hn hi n
  have hg:=jb1 hs hn hi n
  have hq:=jsS hs hn hi n
  show WQ p inp (jbc p (jbS p inp n) inp)∧((jbc p (jbS p inp n) inp).status=0→(jbc p (jbS p inp n) inp).time=((n+1:Nat):Int))
  generalize jbS p inp n=s at *
  rcases jeX hs hg.inv hn with ⟨a,b⟩ | ⟨a,b,c⟩ | ⟨a,b,c,d⟩
  ·rw [b]
   exact ⟨h1,fun e=>by omega⟩
  ·rw [c]
   refine ⟨fun _=>?_,fun e=>absurd e (by show ¬ ((1:Int)=0);decide)⟩
   rw [jnQ p s a 1 (.inr rfl)]
   exact b
  ·refine ⟨fun e=>(c e).elim,fun e=>?_⟩
   have h3:s.status=0:=by
    have:=hq.s0
    have:=hq.s3
    have:s.status≠1:=fun e1=>b (h1 e1)
    omega
   rw [d,h2 h3]
   push_cast;rfl
theorem jku {p:GProg} (hs:SOk p) {inp:List Int} (hn:inp.length≤1000) (hi:∀ x∈inp,rng x) (x:Int):∀ n,(jbS p inp n).status≠1→jbS p (inp++[x]) n=jbS p inp n
 | 0,_=>rfl
 | n+1,h=>by
  obtain ⟨h1,_⟩:=jgB hs hn hi n
  have hg:=jb1 hs hn hi n
  have h:(jbc p (jbS p inp n) inp).status≠1:=h
  have hc:=jeX hs hg.inv hn
  have hn1:(jbS p inp n).status≠1:=fun e=>by
   rcases hc with ⟨a,b⟩ | ⟨a,b,c⟩ | ⟨a,b,c,d⟩
   ·omega
   ·rw [c] at h;exact h rfl
   ·exact b (h1 e)
  show jbc p (jbS p (inp++[x]) n) (inp++[x])=jbc p (jbS p inp n) inp
  rw [jku hs hn hi x n hn1]
  refine jq5 hg.inv x fun h0 hw=>?_
  rcases hc with ⟨a,b⟩ | ⟨a,b,c⟩ | ⟨a,b,c,d⟩
  ·exact h0 (by unfold jav;rw [if_pos a];decide)
  ·rw [c] at h;exact h rfl
  ·exact b hw
theorem jv1 {s:GState} (h:s.status=1):{ s with status:=1 }=s:=by
 cases s
 simp only at h
 subst h
 rfl
theorem jn8 {p:GProg} (hs:SOk p) {inp:List Int} (hn:inp.length≤1000) (hi:∀ x∈inp,rng x):∀ n,(jbS p inp n).status=1→∃ m:Nat,m≤n∧(jbS p inp m).status=0∧(m:Int)=(jbS p inp n).time∧jbS p inp n={ jbS p inp m with status:=1 }∧jbR p (jbS p inp m) (jav p (jbS p inp m)) inp
 | 0,h=>by
  exfalso
  have h':=jlJ (p:=p) ((jdm p).left+1) (jdm p) (jcP hs).inv rfl
  have e:(jbf p ((jdm p).left+1) (jdm p)).status=1:=h
  omega
 | n+1,h=>by
  obtain ⟨h1,h2⟩:=jgB hs hn hi n
  have hg:=jb1 hs hn hi n
  have hq:=jsS hs hn hi n
  have h:(jbc p (jbS p inp n) inp).status=1:=h
  rcases jeX hs hg.inv hn with ⟨a,b⟩ | ⟨a,b,c⟩ | ⟨a,b,c,d⟩
  ·rw [b] at h;omega
  ·by_cases e1:(jbS p inp n).status=1
   ·obtain ⟨m,g1,g2,g3,g4,g5⟩:=jn8 hs hn hi n e1
    have e:jbS p inp (n+1)=jbS p inp n:=by
     show jbc p (jbS p inp n) inp=_
     rw [c,jv1 e1]
    rw [e]
    exact ⟨m,by omega,g2,g3,g4,g5⟩
   ·have e0:(jbS p inp n).status=0:=by have:=hq.s0;have:=hq.s3;omega
    refine ⟨n,by omega,e0,?_,c,b⟩
    show (n:Int)=(jbc p (jbS p inp n) inp).time
    rw [c]
    exact (h2 e0).symm
  ·exact (c h).elim
theorem jvF (p:GProg) (t:GState) (h:t.status=0) (inp:List Int) (h0:¬ jav p t < 0):jbc p { t with status:=1 } inp=jbc p t inp:=by
 have e:=jnQ p t (by omega) 1 (.inr rfl)
 unfold jbc
 rw [e,if_neg h0,if_neg h0]
 rfl
theorem jpb {p:GProg} (hs:SOk p) {s:GState} (hI:StInv p s) {inp:List Int} (hn:inp.length≤1000) (h2:¬ (s.status=2∨s.status=3)) (hls:jfn p (jav p s)) (hk:(jak p (nth (jak p (jav p s)).l 0)).kind=19) (hlt:s.in_ < inp.length):(jbc p s inp).status≠1∧(jbc p s inp).in_=s.in_+1:=by
 have hw:¬ jbR p s (jav p s) inp:=fun ⟨_,_,c⟩=>by omega
 have h0:=jmE hs hI h2
 rcases jeX hs hI hn with ⟨a,b⟩ | ⟨a,b,c⟩ | ⟨a,b,c,d⟩
 ·exact (h2 a).elim
 ·exact (hw b).elim
 refine ⟨c,?_⟩
 clear c d
 unfold jbc
 rw [if_neg h0,if_neg hw]
 have e:(RS.of { s with status:=0 }).does p (jav p s) inp=(({ RS.of { s with status:=0 } with in_:=s.in_+1 }:RS).store p (jav p s) (vI (nth inp s.in_.toNat)),0):=by
  unfold RS.does
  simp only
  rw [if_pos (show (jak p (jav p s)).kind=10∨(jak p (jav p s)).kind=11 from hls)]
  unfold RS.right
  simp only
  rw [if_neg (by omega),if_pos hk]
  rfl
 simp only
 rw [e,if_neg (fun h=>h rfl)]
 exact (jbJ p _ _).in_
theorem jpk {p:GProg} (hs:SOk p) {inp:List Int} (hn:inp.length < 1000) (hi:∀ x∈inp,rng x) (x:Int) (n:Nat) (h:(jbS p inp n).status=1):(jbS p inp n).in_=inp.length∧(jbc p (jbS p inp n) (inp++[x])).status≠1∧(jbc p (jbS p inp n) (inp++[x])).in_=(inp++[x]).length∧∃ m:Nat,m≤n+1∧(jbS p inp n).time+1=m∧jbS p (inp++[x]) m=jbc p (jbS p inp n) (inp++[x]):=by
 obtain ⟨m,g1,g2,g3,g4,g5⟩:=jn8 hs (by omega) hi n h
 have hm:=jku hs (by omega) hi x m (by omega)
 have hg:=jb1 hs (show inp.length≤1000 by omega) hi m
 have hq:=jsS hs (show inp.length≤1000 by omega) hi m
 have h2:¬ ((jbS p inp m).status=2∨(jbS p inp m).status=3):=by omega
 have h0:=jmE hs hg.inv h2
 have hin:(jbS p inp m).in_=inp.length:=by have:=hq.in1;have:=g5.2.2;omega
 have e:jbc p (jbS p inp n) (inp++[x])=jbc p (jbS p inp m) (inp++[x]):=by
  rw [g4]
  exact jvF p _ g2 _ h0
 obtain ⟨t1,t2⟩:=jpb hs hg.inv (inp:=inp++[x]) (by simp;omega) h2 g5.1 g5.2.1 (by simp;omega)
 refine ⟨by rw [g4];exact hin,by rw [e];exact t1,by rw [e,t2,hin];simp,m+1,by omega,by rw [← g3];push_cast;rfl,?_⟩
 rw [e]
 show jbc p (jbS p (inp++[x]) m) (inp++[x])=_
 rw [hm]
end Go.Proofs.YtfkgcobaheegbaaGreatDoor
namespace Go.Gd
open Go
def jdy (s:ByteArray):ByteArray:=if 700 < s.size then s.extract 0 700 else s
theorem jgC (s:ByteArray):(jdy s).size≤1000000:=by
 unfold jdy
 split
 ·rw [ByteArray.size_extract];omega
 ·omega
def jcq (l:List Int):List Int:=l.take 20
theorem jmu (l:List Int):(jcq l).length≤20:=by unfold jcq;simp;omega
theorem jmv {l:List Int} (h:∀ x∈l,rng x):∀ x∈jcq l,rng x:=fun x hx=>h x (List.mem_of_mem_take hx)
end Go.Gd
namespace Go.Proofs.YtfkgcobaheegbaaGreatDoor
open Go Go.Gd
set_option maxHeartbeats 4000000
set_option maxRecDepth 10000
theorem jfs (s:ByteArray):PCall Tryz.prog 17 [rS s] (rS (jdy s)):=by
 refine jbA Tryz.func17 Tryz.ntmps17 ?_
 (repeat' (first|refine jaa fun K hK=>?_|refine wkA ?_|(refine hK _ _ ?_;clear hK K)|(refine jad (fun hc=>?_) (fun hc=>?_)<;>first | contradiction | (exfalso;omega) | skip)|refine wkB ?_|exact True.intro|(clear hK K)))
 ·(refine jaN [.tmp 2] ?_;try simp only [go_sem])
  unfold jdy
  rw [if_pos (by omega)]
 ·(refine jaN [.tmp 2] ?_;try simp only [go_sem])
  unfold jdy
  rw [if_neg (by omega)]
theorem jhy (l:List Int):PCall Tryz.prog 18 [jal eI 1 l] (jal eI 1 (jcq l)):=by
 refine jbA Tryz.func18 Tryz.ntmps18 ?_
 (repeat' (first|refine jaa fun K hK=>?_|refine wkA ?_|(refine hK _ _ ?_;clear hK K)|(refine jad (fun hc=>?_) (fun hc=>?_)<;>first | contradiction | (exfalso;omega) | skip)|refine wkB ?_|exact True.intro|(clear hK K)))
 ·(refine jaN [.tmp 2] ?_;try simp only [go_sem])
  rfl
 ·(refine jaN [.tmp 2] ?_;try simp only [go_sem])
  rw [show jcq l=l from List.take_of_length_le (by omega)]
def jn9:ByteArray:=(⟨#[102,110,32,109,97,105,110,40,41,123,112,114,105,110,116,32,49,59,112,114,105,110,116,32,50,59,125]⟩:ByteArray)
theorem jqT:(jbO jn9).2.2=0:=by decide +kernel
theorem jvr:jbS (jbO jn9).1 [] 1=⟨[⟨0,[],[⟨4,1⟩]⟩],[],0,[(⟨#[49]⟩:ByteArray)],0,0,1⟩:=by decide +kernel
theorem jvq:∃ p x,jbO jn9=(p,x,0)∧SOk p∧jbS p [] 1=⟨[⟨0,[],[⟨4,1⟩]⟩],[],0,[(⟨#[49]⟩:ByteArray)],0,0,1⟩:=
 ⟨_,_,by rw [← jqT],jdz jqT,jvr⟩
theorem jft:PCall Tryz.prog 15 [] (rB true):=by
 obtain ⟨p,x,e,hp,hl⟩:=jvq
 have hs:=jhD jn9 (by decide)
 rw [e] at hs
 have hr:=jjG hp [] (by decide) (fun x hx=>by cases hx) 1 (by decide)
 rw [hl] at hr
 have hr:=joT (args':=[rP p,.raw (.slice none 0 0),rI 1]) hr ⟨.refl _,.nil _ _,.refl _,trivial⟩
 refine jbA Tryz.func15 Tryz.ntmps15 ?_
 (repeat' (first|refine jaa fun K hK=>?_|refine wkA ?_|(refine hK _ _ ?_;clear hK K)|(refine jad (fun hc=>?_) (fun hc=>?_)<;>first | contradiction | (exfalso;omega) | skip)|refine al 0 ?_|refine al 1 ?_|refine cp (hs) ?_|refine cp (hr) ?_|refine wkB ?_|exact True.intro|(clear hK K)))
 (refine jaN [.tmp 0] ?_;try simp only [go_sem])
theorem jpx {a:Int} (m:Nat) (hm:0 < m) (h:0≤a∧a < 256):∃ n:Nat,n < m∧a.tmod m=(n:Int):=by
 refine ⟨(a.tmod m).toNat,?_,?_⟩<;>(rw [Int.tmod_eq_emod_of_nonneg h.1];have:=Int.emod_nonneg a (b:=m) (by omega);have:=Int.emod_lt_of_pos a (b:=(m:Int)) (by omega);omega)
end Go.Proofs.YtfkgcobaheegbaaGreatDoor
