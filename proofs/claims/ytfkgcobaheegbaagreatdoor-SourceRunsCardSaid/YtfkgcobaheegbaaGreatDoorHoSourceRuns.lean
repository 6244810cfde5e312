/- SourceRuns: the given statement (the tied card). No conditions. -/
import Derived.Test.YtfkgcobaheegbaaGreatDoorLqR
import Derived.Test.YtfkgcobaheegbaaGreatDoorLqD
import Derived.Test.YtfkgcobaheegbaaGreatDoorTie
import Derived.Test.YtfkgcobaheegbaaGreatDoorCards
import Derived.LaidMore
import Derived.OpenShut
import Derived.Stop.Joined
set_option linter.all false
namespace Go.Proofs.YtfkgcobaheegbaaGreatDoor
open Go Go.Gd Go.ChangeShapes Go.WideShapes Go.ChangeAt Go.ChangeMaps Go.RowKit
theorem jix (os:Os) (args:Array Value):laidMetH Tryz.prog Rows.sourceRunsRow.laid ((World.doorLaid Tryz.prog 62 os).forCall (fun _ _=>0) ⟨#[],args,[]⟩).memory:=
 laidMetH_of_parts3 (fuel:=8) (laidMet_of_run' 8 (by kernel_rfl) (by kernel_rfl)) (by kernel_rfl) (by kernel_rfl)
set_option maxRecDepth 100000 in
theorem jgG (os:Os) (started:os.Started) (T:Type) (enc:TypeId×Value→T) :
  ReturnsInHanded {} Tryz.checked os 3 .any (fun w args=>(Rows.sourceRunsSpec.pre enc Tryz.prog Tryz.f3 [] false w args∧laidMetH Tryz.prog Rows.sourceRunsRow.laid w)∧sizedMet enc Tryz.prog Tryz.f3 (OpenSpec.ofChange Rows.sourceRunsSpec) false w args)
   (Rows.sourceRunsSpec.post enc Tryz.prog Tryz.f3 false true false false):=by
 refine returnsInHanded_of_change_and (C:=Tryz.checked) (X:=fun w _=>laidMetH Tryz.prog Rows.sourceRunsRow.laid w) (fun _ _ _ hh h=>h.of_heap hh) jkm started (by kernel_rfl) Tryz.func3
  (ChangeSpec.witness_shaped (enc:=enc) (C:=Tryz.checked) (os:=os) (X:=fun w _=>laidMetH Tryz.prog Rows.sourceRunsRow.laid w) false (World.doorLaid Tryz.prog 62 os) #[.string ⟨#[]⟩,.slice none 0 0,.int .u8 0] 8 rfl (World.shaped_of_RefB (by kernel_rfl) (by kernel_rfl)) (by kernel_rfl) (by kernel_rfl) (by kernel_rfl) (jix os _)) ?_
 intro W base args ds gs before hval0 hW hz1 hz2 hz3 hz4
 have hval:∀ (j:Nat) t v,Tryz.f3.params[j]?=some t→args[j]?=some v→Value.okWide Tryz.prog W .any base t v:=hval0
 have hW':=hW
 obtain ⟨p,q,hA0,hV,rfl,hfz,hnd⟩:=hW
 have hA:DataW.TrodAll enc Tryz.prog W 0 (fun _=>true) true Tryz.f3.params.toList args.toList ds p:=hA0
 rw [Tryz.params3] at hA hval
 obtain ⟨v0,v1,v2,d0,d1,d2,p0,p1,p2,rfl,rfl,rfl,h0,h1,h2⟩:=trodAll_three hA
 obtain ⟨rfl,rfl⟩:=trodVars_none hV
 obtain ⟨a0,rfl,_,_,ha0⟩:=open_string Tryz.underlying9 (hval 0 9 v0 rfl rfl) h0
 obtain ⟨a1,ha1,hr1⟩:=jjL (hval 1 22 v1 rfl rfl) h1
 obtain ⟨a2,rfl,_,_,ha2⟩:=open_int Tryz.underlying5 (hval 2 5 v2 rfl rfl) h2
 have ha2:=wf8 ha2
 refine (jh8 (jh6 rfl (by first | exact hz1 | exact hz2 | exact hz3 | exact hz4)) (jlM a0 a1 a2 ha1 ha2) (jdi (.raw _) (jdi hr1 (jec (.raw _))))).mono fun e W' ⟨he,hx⟩=>⟨_,he,?_⟩
 exact jko hW' hx jh7 (by intro t ht;rw [Tryz.params3] at ht;simp at ht;rcases ht with rfl | rfl | rfl<;>exact ⟨by kernel_rfl,of_decide_eq_true (by kernel_rfl)⟩) (by kernel_rfl) Tryz.underlying4 rfl rfl rfl rfl
theorem jkx:(Rows.sourceRunsRow.inPlace == Tryz.pinned.checked.prog.inPlace 3)=true:=by kernel_rfl
theorem jky:(Rows.sourceRunsRow.unfollowed == Tryz.pinned.checked.prog.unfollowed 3)=true:=by kernel_rfl
theorem jkz:(Rows.sourceRunsRow.recurses == Tryz.pinned.checked.prog.recurses 3)=true:=by kernel_rfl
theorem jkA:(Rows.sourceRunsRow.named == Tryz.pinned.checked.prog.varsNamed 3)=true:=by kernel_rfl
theorem jgF:joinedFacts Tryz.pinned.checked.prog 3 Tryz.f3 Rows.sourceRunsSpec Rows.sourceRunsRow=true:=by
 unfold joinedFacts
 rw [jkx,jky,jkz,jkA]
 kernel_rfl
theorem jiz:Tryz.f3.isWrapper Tryz.pinned.checked.prog Rows.sourceRunsRow.wrapper Rows.sourceRunsRow.mainSum:=by unfold Func.isWrapper;first | (rw [if_pos (by decide +kernel)];kernel_rfl) | (rw [if_neg (by decide +kernel)];exact ⟨rfl,rfl⟩)
theorem ji5:Rows.SourceRunsSaid:=
 OpenClaim.holds_of_wide 3 Tryz.f3 rfl rfl rfl rfl rfl rfl rfl ⟨rfl,rfl,rfl,rfl,rfl⟩ rfl rfl rfl rfl rfl (by kernel_rfl) Tryz.func3 jgF
  (of_decide_eq_true (by kernel_rfl)) jiz
  (fun os started T enc _=>jgG os started T enc)
theorem jhp:true=Tryz.pinned.checked.prog.looks []:=by kernel_rfl
theorem jiy:false=Rows.sourceRunsRow.goesBy Tryz.pinned.checked.prog:=by kernel_rfl
theorem sourceRuns_holds:Rows.SourceRunsCardSaid:=
 Claim7.holds_tied_plain_at .later [] _ true _ true
  ji5 (fun _ h=>by cases h) (by kernel_rfl) (fun _ h=>by cases h) sourceRuns_row_tie rfl ⟨rfl,rfl⟩ (by kernel_rfl) rfl
  (fun f fn hf hfn=>by
   obtain rfl : f = 3 := Option.some.inj ((show Tryz.prog.funcNamed "furcate/furcatelaw07.SourceRuns" = some 3 by kernel_rfl).symm.trans hf) |>.symm
   obtain rfl:fn=Tryz.f3:=(Option.some.inj (Tryz.func3.symm.trans hfn)).symm
   exact ⟨jhp,fun j t ht=>by
    rw [Tryz.params3] at ht
    have hm:t∈[9,22,5]:=by simpa using Array.mem_of_getElem? ht
    have hall:([9,22,5].all fun u=>!Tryz.prog.wantsStandIn u)=true:=by kernel_rfl
    exact (show Tryz.prog.wantsStandIn t=false by simpa using List.all_eq_true.1 hall t hm)⟩)
  jiy
#print axioms sourceRuns_holds
end Go.Proofs.YtfkgcobaheegbaaGreatDoor
