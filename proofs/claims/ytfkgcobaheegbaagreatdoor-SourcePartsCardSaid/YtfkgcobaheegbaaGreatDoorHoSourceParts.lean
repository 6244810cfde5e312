/- SourceParts: the given statement (the tied card). No conditions. -/
import Derived.Test.YtfkgcobaheegbaaGreatDoorLqR
import Derived.Test.YtfkgcobaheegbaaGreatDoorLqD
import Derived.Test.YtfkgcobaheegbaaGreatDoorTie
import Derived.Test.YtfkgcobaheegbaaGreatDoorCards
import Derived.LaidMore
import Derived.OpenShut
import Derived.Stop.Joined
set_option linter.all false
namespace Go.Proofs.YtfkgcobaheegbaaGreatDoor
open Go Go.Gd Go.ChangeShapes Go.WideShapes Go.ChangeAt Go.ChangeMaps Go.RowKit
theorem jhm (os:Os) (args:Array Value):laidMetH Tryz.prog Rows.sourcePartsRow.laid ((World.doorLaid Tryz.prog 62 os).forCall (fun _ _=>0) ⟨#[],args,[]⟩).memory:=
 laidMetH_of_parts3 (fuel:=8) (laidMet_of_run' 8 (by kernel_rfl) (by kernel_rfl)) (by kernel_rfl) (by kernel_rfl)
set_option maxRecDepth 100000 in
theorem jf6 (os:Os) (started:os.Started) (T:Type) (enc:TypeId×Value→T) :
  ReturnsInHanded {} Tryz.checked os 4 .any (fun w args=>(Rows.sourcePartsSpec.pre enc Tryz.prog Tryz.f4 [] false w args∧laidMetH Tryz.prog Rows.sourcePartsRow.laid w)∧sizedMet enc Tryz.prog Tryz.f4 (OpenSpec.ofChange Rows.sourcePartsSpec) false w args)
   (Rows.sourcePartsSpec.post enc Tryz.prog Tryz.f4 false true false false):=by
 refine returnsInHanded_of_change_and (C:=Tryz.checked) (X:=fun w _=>laidMetH Tryz.prog Rows.sourcePartsRow.laid w) (fun _ _ _ hh h=>h.of_heap hh) jkm started (by kernel_rfl) Tryz.func4
  (ChangeSpec.witness_shaped (enc:=enc) (C:=Tryz.checked) (os:=os) (X:=fun w _=>laidMetH Tryz.prog Rows.sourcePartsRow.laid w) false (World.doorLaid Tryz.prog 62 os) #[.string ⟨#[]⟩,.slice none 0 0,.agg #[.int .u8 0,.int .u8 0]] 8 rfl (World.shaped_of_RefB (by kernel_rfl) (by kernel_rfl)) (by kernel_rfl) (by kernel_rfl) (by kernel_rfl) (jhm os _)) ?_
 intro W base args ds gs before hval0 hW hz1 hz2 hz3 hz4
 have hval:∀ (j:Nat) t v,Tryz.f4.params[j]?=some t→args[j]?=some v→Value.okWide Tryz.prog W .any base t v:=hval0
 have hW':=hW
 obtain ⟨p,q,hA0,hV,rfl,hfz,hnd⟩:=hW
 have hA:DataW.TrodAll enc Tryz.prog W 0 (fun _=>true) true Tryz.f4.params.toList args.toList ds p:=hA0
 rw [Tryz.params4] at hA hval
 obtain ⟨v0,v1,v2,d0,d1,d2,p0,p1,p2,rfl,rfl,rfl,h0,h1,h2⟩:=trodAll_three hA
 obtain ⟨rfl,rfl⟩:=trodVars_none hV
 obtain ⟨a0,rfl,_,_,ha0⟩:=open_string Tryz.underlying9 (hval 0 9 v0 rfl rfl) h0
 obtain ⟨a1,ha1,hr1⟩:=jjL (hval 1 22 v1 rfl rfl) h1
 obtain ⟨_,⟨a2x,a2y,⟨hwx2,hwy2⟩,rfl⟩,hr2⟩:=jpw Tryz.underlying46 (jpI (k:=.u8) Tryz.underlying46 (by kernel_rfl) (by kernel_rfl) (by kernel_rfl)) (hval 2 46 v2 rfl rfl) h2
 have ha2x:=wf8 hwx2
 have ha2y:=wf8 hwy2
 refine (jh8 (jh6 rfl (by first | exact hz1 | exact hz2 | exact hz3 | exact hz4)) (jkw a0 a1 a2x a2y ha1 ha2x ha2y) (jdi (.raw _) (jdi hr1 (jec hr2)))).mono fun e W' ⟨he,hx⟩=>⟨_,he,?_⟩
 exact jko hW' hx jh7 (by intro t ht;rw [Tryz.params4] at ht;simp at ht;rcases ht with rfl | rfl | rfl<;>exact ⟨by kernel_rfl,of_decide_eq_true (by kernel_rfl)⟩) (by kernel_rfl) Tryz.underlying4 rfl rfl rfl rfl
theorem ji1:(Rows.sourcePartsRow.inPlace == Tryz.pinned.checked.prog.inPlace 4)=true:=by kernel_rfl
theorem ji2:(Rows.sourcePartsRow.unfollowed == Tryz.pinned.checked.prog.unfollowed 4)=true:=by kernel_rfl
theorem ji3:(Rows.sourcePartsRow.recurses == Tryz.pinned.checked.prog.recurses 4)=true:=by kernel_rfl
theorem ji4:(Rows.sourcePartsRow.named == Tryz.pinned.checked.prog.varsNamed 4)=true:=by kernel_rfl
theorem jf5:joinedFacts Tryz.pinned.checked.prog 4 Tryz.f4 Rows.sourcePartsSpec Rows.sourcePartsRow=true:=by
 unfold joinedFacts
 rw [ji1,ji2,ji3,ji4]
 kernel_rfl
theorem jho:Tryz.f4.isWrapper Tryz.pinned.checked.prog Rows.sourcePartsRow.wrapper Rows.sourcePartsRow.mainSum:=by unfold Func.isWrapper;first | (rw [if_pos (by decide +kernel)];kernel_rfl) | (rw [if_neg (by decide +kernel)];exact ⟨rfl,rfl⟩)
theorem jiw:Rows.SourcePartsSaid:=
 OpenClaim.holds_of_wide 4 Tryz.f4 rfl rfl rfl rfl rfl rfl rfl ⟨rfl,rfl,rfl,rfl,rfl⟩ rfl rfl rfl rfl rfl (by kernel_rfl) Tryz.func4 jf5
  (of_decide_eq_true (by kernel_rfl)) jho
  (fun os started T enc _=>jf6 os started T enc)
theorem jgE:true=Tryz.pinned.checked.prog.looks []:=by kernel_rfl
theorem jhn:false=Rows.sourcePartsRow.goesBy Tryz.pinned.checked.prog:=by kernel_rfl
theorem sourceParts_holds:Rows.SourcePartsCardSaid:=
 Claim7.holds_tied_plain_at .later [] _ true _ true
  jiw (fun _ h=>by cases h) (by kernel_rfl) (fun _ h=>by cases h) sourceParts_row_tie rfl ⟨rfl,rfl⟩ (by kernel_rfl) rfl
  (fun f fn hf hfn=>by
   obtain rfl : f = 4 := Option.some.inj ((show Tryz.prog.funcNamed "furcate/furcatelaw07.SourceParts" = some 4 by kernel_rfl).symm.trans hf) |>.symm
   obtain rfl:fn=Tryz.f4:=(Option.some.inj (Tryz.func4.symm.trans hfn)).symm
   exact ⟨jgE,fun j t ht=>by
    rw [Tryz.params4] at ht
    have hm:t∈[9,22,46]:=by simpa using Array.mem_of_getElem? ht
    have hall:([9,22,46].all fun u=>!Tryz.prog.wantsStandIn u)=true:=by kernel_rfl
    exact (show Tryz.prog.wantsStandIn t=false by simpa using List.all_eq_true.1 hall t hm)⟩)
  jhn
#print axioms sourceParts_holds
end Go.Proofs.YtfkgcobaheegbaaGreatDoor
