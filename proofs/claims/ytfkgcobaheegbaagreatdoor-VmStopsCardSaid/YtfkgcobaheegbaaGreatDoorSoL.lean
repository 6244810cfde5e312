/- Lemmas. No conditions. -/
import Derived.Test.YtfkgcobaheegbaaGreatDoorSoC
import Derived.Test.YtfkgcobaheegbaaGreatDoorSoH
set_option linter.all false
set_option maxHeartbeats 4000000
set_option maxRecDepth 10000
namespace Go.Gd
open Go
theorem Iw:∀(l:List (Nat×Row)),gJ (fun _=>true) l
 |[]=>trivial
 |_::l=>⟨.inl rfl,Iw l⟩
theorem Is:∀(l:List (Nat×Row)),eu (fun _=>true) l=[]
 |[]=>rfl
 |x::l=>Is l
theorem H5{P:Program}{fn:Func}{F:List AV}{l:List (Nat×Row)}{H:Hp}{out:List AV}{e:Exit}{r:AV}(rs:List ResultVar)(hH:H=⟨[],l⟩)(hv:dv (fun _=>true) H (jU out) r)(hrs:fn.results.toList=rs:=by rfl)(he:e=.normal\/e=.ret:=by first|exact Or.inr rfl|exact Or.inl rfl|fail)
  (ho:jg P H F rs=some out:=by first|rfl|(simp(disch:=first|omega|fail) only[go_sem,↓reduceIte,Nat.reduceEqDiff,Nat.reduceLeDiff,Nat.reduceSub,Nat.reduceAdd];rfl)) (hok:j3 P H F rs:=by first|exact jI|(simp(disch:=first|omega|fail) only[go_sem,↓reduceIte,Nat.reduceEqDiff,Nat.reduceLeDiff,Nat.reduceSub,Nat.reduceAdd])):kX P fn (fun r' l'=>r'=r/\l'=[]) e F H:=by
 subst hrs hH;refine rE he ho hok r ⟨[],[]⟩ ?_ ⟨rfl,rfl⟩;have:=hZ.free (H:=⟨[],l⟩) (fun _=>true) rfl (Iw _) hv;rw[Is]at this;exact this
end Go.Gd
namespace Go.Proofs.YtfkgcobaheegbaaGreatDoor
open Go Go.Gd Tryz
theorem cI.copy{p:ab}(hs:dx p){s:aJ}(h:cI p s):aj prog 29 [.agg (lK s)] [] (fun r l=>r=.agg (RS.of s).c/\l=(RS.of s).rows):=by
 have h1:s.aq.length<=8:=h.inv.aK;have h2:=BE s.heap;have h3:=h.cells;refine OY s jB jB (by have:=h.outs;omega) (fun k hk=>?_) fun k hk=>?_
 ·have hf:dr p (nth s.aq k):=h.inv.fr k hk;have:=hf.len hs;exact⟨by have:=(hs.ao (nth s.aq k).fn.toNat (by have:=hf.f0;have:=hf.f1;omega)).hi;have:=hf.sl;omega,jB⟩
 ·have:=Bx s.heap k hk;omega
end Go.Proofs.YtfkgcobaheegbaaGreatDoor
namespace Go.Gd
open Go
end Go.Gd
namespace Go.Proofs.YtfkgcobaheegbaaGreatDoor
open Go Go.Gd Tryz
end Go.Proofs.YtfkgcobaheegbaaGreatDoor
