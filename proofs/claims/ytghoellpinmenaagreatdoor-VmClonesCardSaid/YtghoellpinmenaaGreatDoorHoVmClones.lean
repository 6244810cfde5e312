/- Lemmas. No conditions. -/
import Derived.Test.YtghoellpinmenaaGreatDoorTnF
import Derived.Test.YtghoellpinmenaaGreatDoorTie
import Derived.Test.YtghoellpinmenaaGreatDoorCards
import Derived.LaidMore
import Derived.Stop.Joined
set_option linter.all false
namespace Go.Proofs.YtghoellpinmenaaGreatDoor
open Go Go.Gd Go.ChangeShapes Go.WideShapes Go.ChangeAt Go.ChangeMaps Go.RowKit
theorem IB(os:Os)(args:Array Value):laidMetH Tryz.prog Rows.vmClonesRow.laid ((World.doorLaid Tryz.prog 62 os).forCall (fun _ _=>0) ⟨#[],args,[]⟩).memory:=
 laidMetH_of_parts3 (fuel:=8) (laidMet_of_run' 8 jG jG) jG jG
set_option maxRecDepth 100000 in
theorem Kx(os:Os)(started:os.Started)(T:Type)(enc:TypeId×Value->T) :
  ReturnsInHanded {} Tryz.checked os 8 .any (fun w args=>(Rows.vmClonesSpec.pre enc Tryz.prog Tryz.f8 [] false w args/\laidMetH Tryz.prog Rows.vmClonesRow.laid w)/\sizedMet enc Tryz.prog Tryz.f8 (OpenSpec.ofChange Rows.vmClonesSpec) false w args)
   (Rows.vmClonesSpec.post enc Tryz.prog Tryz.f8 false true false false):=by
 refine returnsInHanded_of_change_and (C:=Tryz.checked) (X:=fun w _=>laidMetH Tryz.prog Rows.vmClonesRow.laid w) (fun _ _ _ hh h=>h.of_heap hh) Ji started jG Tryz.func8
  (ChangeSpec.witness_shaped (enc:=enc) (C:=Tryz.checked) (os:=os) (X:=fun w _=>laidMetH Tryz.prog Rows.vmClonesRow.laid w) false (World.doorLaid Tryz.prog 62 os) #[.string ⟨#[]⟩,.slice none 0 0,.agg #[.int .u8 0,.int .u8 0]] 8 rfl (World.shaped_of_RefB jG jG) jG jG jG (IB os _)) ?_
 intro W base args ds gs before V7 hW T5 Uv Zt Zu;have T2:∀(j:Nat) t v,Tryz.f8.params[j]?=some t->args[j]?=some v->Value.okWide Tryz.prog W .any base t v:=V7;have Wb:=hW;obtain⟨p,q,Zv,hV,rfl,Yo,Vw⟩:=hW;have hA:DataW.TrodAll enc Tryz.prog W 0 (fun _=>true) true Tryz.f8.params.toList args.toList ds p:=Zv;rw[Tryz.params8]at hA T2;obtain⟨v0,v1,v2,d0,d1,d2,p0,p1,p2,rfl,rfl,rfl,h0,h1,h2⟩:=trodAll_three hA;obtain⟨rfl,rfl⟩:=trodVars_none hV;obtain⟨a0,rfl,_,_,SS⟩:=open_string Tryz.underlying9 (T2 0 9 v0 rfl rfl) h0;obtain⟨a1,Zw,RZ⟩:=I8 (T2 1 22 v1 rfl rfl) h1;obtain⟨_,⟨a2x,a2y,⟨Xt,Xu⟩,rfl⟩,SM⟩:=Kg Tryz.underlying57 (Je (k:=.u8) Tryz.underlying57 jG jG jG) (T2 2 57 v2 rfl rfl) h2;have Xv:=Eo Xt;have Xw:=Eo Xu;refine(JH (Hc rfl (by first|exact T5|exact Uv|exact Zt|exact Zu)) (ND a0 a1 a2x a2y Zw Xv Xw) (AH (.raw _) (AH RZ (wj SM)))).mono fun e W' ⟨he,hx⟩=>⟨_,he,?_⟩
 exact Pj Wb hx NJ (by intro t ht;rw[Tryz.params8]at ht;simp at ht;rcases ht with rfl|rfl|rfl<;>exact⟨jG,of_decide_eq_true jG⟩) jG Tryz.underlying4 rfl rfl rfl rfl
theorem IA:(Rows.vmClonesRow.inPlace == Tryz.pinned.checked.prog.inPlace 8)=true:=jG
theorem Pm:(Rows.vmClonesRow.unfollowed == Tryz.pinned.checked.prog.unfollowed 8)=true:=jG
theorem Hr:(Rows.vmClonesRow.recurses == Tryz.pinned.checked.prog.recurses 8)=true:=jG
theorem HK:(Rows.vmClonesRow.named == Tryz.pinned.checked.prog.varsNamed 8)=true:=jG
theorem KE:joinedFacts Tryz.pinned.checked.prog 8 Tryz.f8 Rows.vmClonesSpec Rows.vmClonesRow=true:=by unfold joinedFacts;rw[IA,Pm,Hr,HK];kernel_rfl
theorem Iy:Tryz.f8.isWrapper Tryz.pinned.checked.prog Rows.vmClonesRow.wrapper Rows.vmClonesRow.mainSum:=by unfold Func.isWrapper;first|(rw[if_pos (by decide +kernel)];kernel_rfl)|(rw[if_neg (by decide +kernel)];exact⟨rfl,rfl⟩)
theorem HS:Rows.VmClonesSaid:=
 OpenClaim.holds_of_wide 8 Tryz.f8 rfl rfl rfl rfl rfl rfl rfl ⟨rfl,rfl,rfl,rfl,rfl⟩ rfl rfl rfl rfl rfl jG Tryz.func8 KE
  (of_decide_eq_true jG) Iy
  (fun os started T enc _=>Kx os started T enc)
theorem JZ:true=Tryz.pinned.checked.prog.looks []:=jG
theorem Pq:false=Rows.vmClonesRow.goesBy Tryz.pinned.checked.prog:=jG
theorem vmClones_holds:Rows.VmClonesCardSaid:=
 Claim7.holds_tied_plain_at .later [] _ true _ true
  HS (fun _ h=>by cases h) jG (fun _ h=>by cases h) vmClones_row_tie rfl ⟨rfl,rfl⟩ jG rfl
  (fun f fn hf SF=>by
   obtain rfl : f = 8 := Option.some.inj ((show Tryz.prog.funcNamed "furcate/furcatelaw11.VmClones" = some 8 by kernel_rfl).symm.trans hf) |>.symm;obtain rfl:fn=Tryz.f8:=(Option.some.inj (Tryz.func8.symm.trans SF)).symm;exact⟨JZ,fun j t ht=>by
    rw[Tryz.params8]at ht;have hm:t∈[9,22,57]:=by simpa using Array.mem_of_getElem? ht
    have Qm:([9,22,57].all fun u=>!Tryz.prog.wantsStandIn u)=true:=jG;exact(show Tryz.prog.wantsStandIn t=false by simpa using List.all_eq_true.1 Qm t hm)⟩)
  Pq
#print axioms vmClones_holds
end Go.Proofs.YtghoellpinmenaaGreatDoor