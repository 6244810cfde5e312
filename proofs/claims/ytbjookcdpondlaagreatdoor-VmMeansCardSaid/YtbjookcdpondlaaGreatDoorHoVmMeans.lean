/- Lemmas. No conditions. -/
import Derived.Test.YtbjookcdpondlaaGreatDoorVlD
import Derived.Test.YtbjookcdpondlaaGreatDoorTie
import Derived.Test.YtbjookcdpondlaaGreatDoorCards
import Derived.LaidMore
import Derived.Stop.Joined
set_option linter.all false
namespace Go.Proofs.YtbjookcdpondlaaGreatDoor
open Go Go.Gd Go.ChangeShapes Go.WideShapes Go.ChangeAt Go.ChangeMaps Go.RowKit
theorem Pd(os:Os)(args:Array Value):laidMetH Tryz.prog Rows.vmMeansRow.laid ((World.doorLaid Tryz.prog 62 os).forCall (fun _ _=>0) ⟨#[],args,[]⟩).memory:=
 laidMetH_of_parts3 (fuel:=8) (laidMet_of_run' 8 jG jG) jG jG
set_option maxRecDepth 100000 in
theorem OV(os:Os)(started:os.Started)(T:Type)(enc:TypeId×Value->T) :
  ReturnsInHanded {} Tryz.checked os 3 .any (fun w args=>(Rows.vmMeansSpec.pre enc Tryz.prog Tryz.f3 [] false w args/\laidMetH Tryz.prog Rows.vmMeansRow.laid w)/\sizedMet enc Tryz.prog Tryz.f3 (OpenSpec.ofChange Rows.vmMeansSpec) false w args)
   (Rows.vmMeansSpec.post enc Tryz.prog Tryz.f3 false true false false):=by
 refine returnsInHanded_of_change_and (C:=Tryz.checked) (X:=fun w _=>laidMetH Tryz.prog Rows.vmMeansRow.laid w) (fun _ _ _ hh h=>h.of_heap hh) Rb started jG Tryz.func3
  (ChangeSpec.witness_shaped (enc:=enc) (C:=Tryz.checked) (os:=os) (X:=fun w _=>laidMetH Tryz.prog Rows.vmMeansRow.laid w) false (World.doorLaid Tryz.prog 62 os) #[.string ⟨#[]⟩,.slice none 0 0,.int .u8 0] 8 rfl (World.shaped_of_RefB jG jG) jG jG jG (Pd os _)) ?_
 intro W base args ds gs before Z5 hW XN Xs hz3 hz4;have W0:∀(j:Nat) t v,Tryz.f3.params[j]?=some t->args[j]?=some v->Value.okWide Tryz.prog W .any base t v:=Z5;have hW':=hW;obtain⟨p,q,hA0,hV,rfl,hfz,Tt⟩:=hW;have hA:DataW.TrodAll enc Tryz.prog W 0 (fun _=>true) true Tryz.f3.params.toList args.toList ds p:=hA0;rw[Tryz.params3]at hA W0;obtain⟨v0,v1,v2,d0,d1,d2,p0,p1,p2,rfl,rfl,rfl,h0,h1,h2⟩:=trodAll_three hA;obtain⟨rfl,rfl⟩:=trodVars_none hV;obtain⟨a0,rfl,_,_,Ua⟩:=open_string Tryz.underlying9 (W0 0 9 v0 rfl rfl) h0;obtain⟨a1,ha1,VD⟩:=LJ (W0 1 22 v1 rfl rfl) h1;obtain⟨a2,rfl,_,_,ha2⟩:=open_int Tryz.underlying5 (W0 2 5 v2 rfl rfl) h2;have ha2:=Qe ha2;refine(Nw (Rx rfl (by first|exact XN|exact Xs|exact hz3|exact hz4)) (LI a0 a1 a2 ha1 ha2) (Hg (.raw _) (Hg VD (yJ (.raw _))))).mono fun e W' ⟨he,hx⟩=>⟨_,he,?_⟩
 exact N7 hW' hx Kv (by intro t ht;rw[Tryz.params3]at ht;simp at ht;rcases ht with rfl|rfl|rfl<;>exact⟨jG,of_decide_eq_true jG⟩) jG Tryz.underlying4 rfl rfl rfl rfl
theorem QC:(Rows.vmMeansRow.inPlace == Tryz.pinned.checked.prog.inPlace 3)=true:=jG
theorem Sk:(Rows.vmMeansRow.unfollowed == Tryz.pinned.checked.prog.unfollowed 3)=true:=jG
theorem MW:(Rows.vmMeansRow.recurses == Tryz.pinned.checked.prog.recurses 3)=true:=jG
theorem QF:(Rows.vmMeansRow.named == Tryz.pinned.checked.prog.varsNamed 3)=true:=jG
theorem Oi:joinedFacts Tryz.pinned.checked.prog 3 Tryz.f3 Rows.vmMeansSpec Rows.vmMeansRow=true:=by unfold joinedFacts;rw[QC,Sk,MW,QF];kernel_rfl
theorem Sm:Tryz.f3.isWrapper Tryz.pinned.checked.prog Rows.vmMeansRow.wrapper Rows.vmMeansRow.mainSum:=by unfold Func.isWrapper;first|(rw[if_pos (by decide +kernel)];kernel_rfl)|(rw[if_neg (by decide +kernel)];exact⟨rfl,rfl⟩)
theorem PI:Rows.VmMeansSaid:=
 OpenClaim.holds_of_wide 3 Tryz.f3 rfl rfl rfl rfl rfl rfl rfl ⟨rfl,rfl,rfl,rfl,rfl⟩ rfl rfl rfl rfl rfl jG Tryz.func3 Oi
  (of_decide_eq_true jG) Sm
  (fun os started T enc _=>OV os started T enc)
theorem RX:true=Tryz.pinned.checked.prog.looks []:=jG
theorem Rr:false=Rows.vmMeansRow.goesBy Tryz.pinned.checked.prog:=jG
theorem vmMeans_holds:Rows.VmMeansCardSaid:=
 Claim7.holds_tied_plain_at .later [] _ true _ true
  PI (fun _ h=>by cases h) jG (fun _ h=>by cases h) vmMeans_row_tie rfl ⟨rfl,rfl⟩ jG rfl
  (fun f fn hf US=>by
   obtain rfl : f = 3 := Option.some.inj ((show Tryz.prog.funcNamed "furcate/furcatelaw11.VmMeans" = some 3 by kernel_rfl).symm.trans hf) |>.symm;obtain rfl:fn=Tryz.f3:=(Option.some.inj (Tryz.func3.symm.trans US)).symm;exact⟨RX,fun j t ht=>by
    rw[Tryz.params3]at ht;have hm:t∈[9,22,5]:=by simpa using Array.mem_of_getElem? ht
    have Tv:([9,22,5].all fun u=>!Tryz.prog.wantsStandIn u)=true:=jG;exact(show Tryz.prog.wantsStandIn t=false by simpa using List.all_eq_true.1 Tv t hm)⟩)
  Rr
#print axioms vmMeans_holds
end Go.Proofs.YtbjookcdpondlaaGreatDoor