/- Lemmas. No conditions. -/
import Derived.Test.YtfkgcobaheegbaaGreatDoorSoC
import Derived.Test.YtfkgcobaheegbaaGreatDoorSoH
set_option linter.all false
set_option maxHeartbeats 4000000
set_option maxRecDepth 10000
namespace Go.Gd
open Go
theorem Gf:∀(l:List (Nat×Row)),gz (fun _=>true) l
 |[]=>trivial
 |_::l=>⟨.inl rfl,Gf l⟩
theorem GX:∀(l:List (Nat×Row)),eo (fun _=>true) l=[]
 |[]=>rfl
 |x::l=>GX l
theorem Cq{P:Program}{fn:Func}{F:List AV}{l:List (Nat×Row)}{H:Hp}{out:List AV}{e:Exit}{r:AV}(rs:List ResultVar)(hH:H=⟨[],l⟩)(hv:dU (fun _=>true) H (jy out) r)(hrs:fn.results.toList=rs:=by rfl)(he:e=.normal\/e=.ret:=by first|exact Or.inr rfl|exact Or.inl rfl|fail)
  (ho:iO P H F rs=some out:=by first|rfl|(simp(disch:=first|omega|fail) only[go_sem,↓reduceIte,Nat.reduceEqDiff,Nat.reduceLeDiff,Nat.reduceSub,Nat.reduceAdd];rfl)) (hok:jc P H F rs:=by first|exact jI|(simp(disch:=first|omega|fail) only[go_sem,↓reduceIte,Nat.reduceEqDiff,Nat.reduceLeDiff,Nat.reduceSub,Nat.reduceAdd])):kj P fn (fun r' l'=>r'=r/\l'=[]) e F H:=by
 subst hrs hH;refine rK he ho hok r ⟨[],[]⟩ ?_ ⟨rfl,rfl⟩;have:=gH.free (H:=⟨[],l⟩) (fun _=>true) rfl (Gf _) hv;rw[GX]at this;exact this
end Go.Gd
namespace Go.Proofs.YtfkgcobaheegbaaGreatDoor
open Go Go.Gd Tryz
theorem cV.copy{p:ab}(hs:dT p){s:aK}(h:cV p s):aj prog 29 [.agg (jT s)] [] (fun r l=>r=.agg (RS.of s).c/\l=(RS.of s).rows):=by
 have h1:s.ao.length<=8:=h.inv.aJ;have h2:=xc s.heap;have h3:=h.cells;refine KQ s jB jB (by have:=h.outs;omega) (fun k hk=>?_) fun k hk=>?_
 ·have hf:dc p (nth s.ao k):=h.inv.fr k hk
  have:=hf.len hs;exact⟨by have:=(hs.ap (nth s.ao k).fn.toNat (by have:=hf.f0;have:=hf.f1;omega)).hi;have:=hf.sl;omega,jB⟩
 ·have:=AB s.heap k hk;omega
end Go.Proofs.YtfkgcobaheegbaaGreatDoor
namespace Go.Gd
open Go
end Go.Gd
namespace Go.Proofs.YtfkgcobaheegbaaGreatDoor
open Go Go.Gd Tryz
end Go.Proofs.YtfkgcobaheegbaaGreatDoor
