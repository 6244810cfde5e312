/- BranchNames: the given statement (the tied card). No conditions. -/
import Derived.Test.YtoclmdkhgfghbaaGreatDoorTqF
import Derived.Test.YtoclmdkhgfghbaaGreatDoorTqG
import Derived.Test.YtoclmdkhgfghbaaGreatDoorTie
import Derived.Test.YtoclmdkhgfghbaaGreatDoorCards
import Derived.LaidMore
import Derived.OpenShut
import Derived.Stop.Joined
set_option linter.all false
namespace Go.Proofs.YtoclmdkhgfghbaaGreatDoor
open Go Go.Gd Go.ChangeShapes Go.WideShapes Go.ChangeAt Go.ChangeMaps Go.RowKit
theorem jcL (os:Os) (args:Array Value):laidMetH Tryz.prog Rows.branchNamesRow.laid ((World.doorLaid Tryz.prog 62 os).forCall (fun _ _=>0) ⟨#[],args,[]⟩).memory:=
 laidMetH_of_parts3 (fuel:=8) (laidMet_of_run' 8 (by kernel_rfl) (by kernel_rfl)) (by kernel_rfl) (by kernel_rfl)
set_option maxRecDepth 100000 in
theorem jb9 (os:Os) (started:os.Started) (T:Type) (enc:TypeId×Value→T) :
  ReturnsInHanded {} Tryz.checked os 3 .any (fun w args=>(Rows.branchNamesSpec.pre enc Tryz.prog Tryz.f3 [] false w args∧laidMetH Tryz.prog Rows.branchNamesRow.laid w)∧sizedMet enc Tryz.prog Tryz.f3 (OpenSpec.ofChange Rows.branchNamesSpec) false w args)
   (Rows.branchNamesSpec.post enc Tryz.prog Tryz.f3 false true false false):=by
 refine returnsInHanded_of_change_and (C:=Tryz.checked) (X:=fun w _=>laidMetH Tryz.prog Rows.branchNamesRow.laid w) (fun _ _ _ hh h=>h.of_heap hh) jia started (by kernel_rfl) Tryz.func3
  (ChangeSpec.witness_shaped (enc:=enc) (C:=Tryz.checked) (os:=os) (X:=fun w _=>laidMetH Tryz.prog Rows.branchNamesRow.laid w) false (World.doorLaid Tryz.prog 62 os) #[.string ⟨#[]⟩] 8 rfl (World.shaped_of_RefB (by kernel_rfl) (by kernel_rfl)) (by kernel_rfl) (by kernel_rfl) (by kernel_rfl) (jcL os _)) ?_
 intro W base args ds gs before hval0 hW _ _ _ _
 have hval:∀ (j:Nat) t v,Tryz.f3.params[j]?=some t→args[j]?=some v→Value.okWide Tryz.prog W .any base t v:=hval0
 have hW':=hW
 obtain ⟨p,q,hA0,hV,rfl,hfz,hnd⟩:=hW
 have hA:DataW.TrodAll enc Tryz.prog W 0 (fun _=>true) true Tryz.f3.params.toList args.toList ds p:=hA0
 rw [Tryz.params3] at hA hval
 obtain ⟨v0,d0,rfl,rfl,h0⟩:=trodAll_one hA
 obtain ⟨rfl,rfl⟩:=trodVars_none hV
 obtain ⟨a0,rfl,_,_,ha0⟩:=open_string Tryz.underlying9 (hval 0 9 v0 rfl rfl) h0
 refine (jgT (fun _ _ h=>(by cases h)) (jdS a0) (jfS (.raw _))).mono fun e W' ⟨he,hx⟩=>⟨_,he,?_⟩
 exact jib hW' hx jgS (by intro t ht;rw [Tryz.params3] at ht;simp at ht;rcases ht with rfl<;>exact ⟨by kernel_rfl,of_decide_eq_true (by kernel_rfl)⟩) (by kernel_rfl) Tryz.underlying4 rfl rfl rfl rfl
theorem jdl:(Rows.branchNamesRow.inPlace == Tryz.pinned.checked.prog.inPlace 3)=true:=by kernel_rfl
theorem jdm:(Rows.branchNamesRow.unfollowed == Tryz.pinned.checked.prog.unfollowed 3)=true:=by kernel_rfl
theorem jdn:(Rows.branchNamesRow.recurses == Tryz.pinned.checked.prog.recurses 3)=true:=by kernel_rfl
theorem jdo:(Rows.branchNamesRow.named == Tryz.pinned.checked.prog.varsNamed 3)=true:=by kernel_rfl
theorem jb8:joinedFacts Tryz.pinned.checked.prog 3 Tryz.f3 Rows.branchNamesSpec Rows.branchNamesRow=true:=by
 unfold joinedFacts
 rw [jdl,jdm,jdn,jdo]
 kernel_rfl
theorem jcN:Tryz.f3.isWrapper Tryz.pinned.checked.prog Rows.branchNamesRow.wrapper Rows.branchNamesRow.mainSum:=by unfold Func.isWrapper;first | (rw [if_pos (by decide +kernel)];kernel_rfl) | (rw [if_neg (by decide +kernel)];exact ⟨rfl,rfl⟩)
theorem jc0:Rows.BranchNamesSaid:=
 OpenClaim.holds_of_wide 3 Tryz.f3 rfl rfl rfl rfl rfl rfl rfl ⟨rfl,rfl,rfl,rfl,rfl⟩ rfl rfl rfl rfl rfl (by kernel_rfl) Tryz.func3 jb8
  (of_decide_eq_true (by kernel_rfl)) jcN
  (fun os started T enc _=>jb9 os started T enc)
theorem jcm:true=Tryz.pinned.checked.prog.looks []:=by kernel_rfl
theorem jcM:false=Rows.branchNamesRow.goesBy Tryz.pinned.checked.prog:=by kernel_rfl
theorem branchNames_holds:Rows.BranchNamesCardSaid:=
 Claim7.holds_tied_plain_at .later [] _ true _ true
  jc0 (fun _ h=>by cases h) (by kernel_rfl) (fun _ h=>by cases h) branchNames_row_tie rfl ⟨rfl,rfl⟩ (by kernel_rfl) rfl
  (fun f fn hf hfn=>by
   obtain rfl : f = 3 := Option.some.inj ((show Tryz.prog.funcNamed "furcate/furcatelaw17.BranchNames" = some 3 by kernel_rfl).symm.trans hf) |>.symm
   obtain rfl:fn=Tryz.f3:=(Option.some.inj (Tryz.func3.symm.trans hfn)).symm
   exact ⟨jcm,fun j t ht=>by
    rw [Tryz.params3] at ht
    have hm:t∈[9]:=by simpa using Array.mem_of_getElem? ht
    have hall:([9].all fun u=>!Tryz.prog.wantsStandIn u)=true:=by kernel_rfl
    exact (show Tryz.prog.wantsStandIn t=false by simpa using List.all_eq_true.1 hall t hm)⟩)
  jcM
#print axioms branchNames_holds
end Go.Proofs.YtoclmdkhgfghbaaGreatDoor
