/- Lemmas. No conditions. -/
import Derived.Test.YtfkgcobaheegbaaGreatDoorVlU
import Derived.Test.YtfkgcobaheegbaaGreatDoorVlD
import Derived.Test.YtfkgcobaheegbaaGreatDoorTie
import Derived.Test.YtfkgcobaheegbaaGreatDoorCards
import Derived.LaidMore
import Derived.Stop.Joined
set_option linter.all false
namespace Go.Proofs.YtfkgcobaheegbaaGreatDoor
open Go Go.Gd Go.ChangeShapes Go.WideShapes Go.ChangeAt Go.ChangeMaps Go.RowKit
theorem P6(os:Os)(args:Array Value):laidMetH Tryz.prog Rows.vmStopsRow.laid ((World.doorLaid Tryz.prog 62 os).forCall (fun _ _=>0) ⟨#[],args,[]⟩).memory:=
 laidMetH_of_parts3 (fuel:=8) (laidMet_of_run' 8 jG jG) jG jG
set_option maxRecDepth 100000 in
theorem NF(os:Os)(started:os.Started)(T:Type)(enc:TypeId×Value->T) :
  ReturnsInHanded {} Tryz.checked os 13 .any (fun w args=>(Rows.vmStopsSpec.pre enc Tryz.prog Tryz.f13 [] false w args/\laidMetH Tryz.prog Rows.vmStopsRow.laid w)/\sizedMet enc Tryz.prog Tryz.f13 (OpenSpec.ofChange Rows.vmStopsSpec) false w args)
   (Rows.vmStopsSpec.post enc Tryz.prog Tryz.f13 false true false false):=by
 refine returnsInHanded_of_change_and (C:=Tryz.checked) (X:=fun w _=>laidMetH Tryz.prog Rows.vmStopsRow.laid w) (fun _ _ _ hh h=>h.of_heap hh) Ra started jG Tryz.func13
  (ChangeSpec.witness_shaped (enc:=enc) (C:=Tryz.checked) (os:=os) (X:=fun w _=>laidMetH Tryz.prog Rows.vmStopsRow.laid w) false (World.doorLaid Tryz.prog 62 os) #[.string ⟨#[]⟩,.slice none 0 0,.int .u8 0] 8 rfl (World.shaped_of_RefB jG jG) jG jG jG (P6 os _)) ?_
 intro W base args ds gs before hval0 hW hz1 hz2 hz3 hz4;have hval:∀(j:Nat) t v,Tryz.f13.params[j]?=some t->args[j]?=some v->Value.okWide Tryz.prog W .any base t v:=hval0;have hW':=hW;obtain⟨p,q,hA0,hV,rfl,hfz,hnd⟩:=hW;have hA:DataW.TrodAll enc Tryz.prog W 0 (fun _=>true) true Tryz.f13.params.toList args.toList ds p:=hA0;rw[Tryz.params13]at hA hval;obtain⟨v0,v1,v2,d0,d1,d2,p0,p1,p2,rfl,rfl,rfl,h0,h1,h2⟩:=trodAll_three hA;obtain⟨rfl,rfl⟩:=trodVars_none hV;obtain⟨a0,rfl,_,_,ha0⟩:=open_string Tryz.underlying9 (hval 0 9 v0 rfl rfl) h0;obtain⟨a1,ha1,hr1⟩:=KW (hval 1 22 v1 rfl rfl) h1;obtain⟨a2,rfl,_,_,ha2⟩:=open_int Tryz.underlying5 (hval 2 5 v2 rfl rfl) h2;have ha2:=Pr ha2;refine(Me (JO rfl (by first|exact hz1|exact hz2|exact hz3|exact hz4)) (J5 a0 a1 a2 ha1 ha2) (E8 (.raw _) (E8 hr1 (yG (.raw _))))).mono fun e W' ⟨he,hx⟩=>⟨_,he,?_⟩
 exact OW hW' hx Of (by intro t ht;rw[Tryz.params13]at ht;simp at ht;rcases ht with rfl|rfl|rfl<;>exact⟨jG,of_decide_eq_true jG⟩) jG Tryz.underlying4 rfl rfl rfl rfl
theorem Qf:(Rows.vmStopsRow.inPlace == Tryz.pinned.checked.prog.inPlace 13)=true:=jG
theorem O4:(Rows.vmStopsRow.unfollowed == Tryz.pinned.checked.prog.unfollowed 13)=true:=jG
theorem LR:(Rows.vmStopsRow.recurses == Tryz.pinned.checked.prog.recurses 13)=true:=jG
theorem Rm:(Rows.vmStopsRow.named == Tryz.pinned.checked.prog.varsNamed 13)=true:=jG
theorem Nt:joinedFacts Tryz.pinned.checked.prog 13 Tryz.f13 Rows.vmStopsSpec Rows.vmStopsRow=true:=by unfold joinedFacts;rw[Qf,O4,LR,Rm];kernel_rfl
theorem MD:Tryz.f13.isWrapper Tryz.pinned.checked.prog Rows.vmStopsRow.wrapper Rows.vmStopsRow.mainSum:=by unfold Func.isWrapper;first|(rw[if_pos (by decide +kernel)];kernel_rfl)|(rw[if_neg (by decide +kernel)];exact⟨rfl,rfl⟩)
theorem Oa:Rows.VmStopsSaid:=
 OpenClaim.holds_of_wide 13 Tryz.f13 rfl rfl rfl rfl rfl rfl rfl ⟨rfl,rfl,rfl,rfl,rfl⟩ rfl rfl rfl rfl rfl jG Tryz.func13 Nt
  (of_decide_eq_true jG) MD
  (fun os started T enc _=>NF os started T enc)
theorem MU:true=Tryz.pinned.checked.prog.looks []:=jG
theorem KT:false=Rows.vmStopsRow.goesBy Tryz.pinned.checked.prog:=jG
theorem vmStops_holds:Rows.VmStopsCardSaid:=
 Claim7.holds_tied_plain_at .later [] _ true _ true
  Oa (fun _ h=>by cases h) jG (fun _ h=>by cases h) vmStops_row_tie rfl ⟨rfl,rfl⟩ jG rfl
  (fun f fn hf hfn=>by
   obtain rfl : f = 13 := Option.some.inj ((show Tryz.prog.funcNamed "furcate/furcatelaw11.VmStops" = some 13 by kernel_rfl).symm.trans hf) |>.symm;obtain rfl:fn=Tryz.f13:=(Option.some.inj (Tryz.func13.symm.trans hfn)).symm;exact⟨MU,fun j t ht=>by
    rw[Tryz.params13]at ht;have hm:t∈[9,22,5]:=by simpa using Array.mem_of_getElem? ht
    have hall:([9,22,5].all fun u=>!Tryz.prog.wantsStandIn u)=true:=jG;exact(show Tryz.prog.wantsStandIn t=false by simpa using List.all_eq_true.1 hall t hm)⟩)
  KT
#print axioms vmStops_holds
end Go.Proofs.YtfkgcobaheegbaaGreatDoor
