/- Lemmas. No conditions. -/
import Derived.Test.YtjpcgmjaipfgdaaGreatDoorTwP
import Derived.Test.YtjpcgmjaipfgdaaGreatDoorTie
import Derived.Test.YtjpcgmjaipfgdaaGreatDoorCards
import Derived.LaidMore
import Derived.Stop.Joined
set_option linter.all false
namespace Go.Proofs.YtjpcgmjaipfgdaaGreatDoor
open Go Go.Gd Go.ChangeShapes Go.WideShapes Go.ChangeAt Go.ChangeMaps Go.RowKit
theorem QZ(os:Os)(args:Array Value):laidMetH Tryz.prog Rows.treeOthersRow.laid ((World.doorLaid Tryz.prog 62 os).forCall (fun _ _=>0) ⟨#[],args,[]⟩).memory:=
 laidMetH_of_parts3 (fuel:=8) (laidMet_of_run' 8 jG jG) jG jG
set_option maxRecDepth 100000 in
theorem JL(os:Os)(started:os.Started)(T:Type)(enc:TypeId×Value->T) :
  ReturnsInHanded {} Tryz.checked os 8 .any (fun w args=>(Rows.treeOthersSpec.pre enc Tryz.prog Tryz.f8 [] false w args/\laidMetH Tryz.prog Rows.treeOthersRow.laid w)/\sizedMet enc Tryz.prog Tryz.f8 (OpenSpec.ofChange Rows.treeOthersSpec) false w args)
   (Rows.treeOthersSpec.post enc Tryz.prog Tryz.f8 false true false false):=by
 refine returnsInHanded_of_change_and (C:=Tryz.checked) (X:=fun w _=>laidMetH Tryz.prog Rows.treeOthersRow.laid w) (fun _ _ _ hh h=>h.of_heap hh) LH started jG Tryz.func8
  (ChangeSpec.witness_shaped (enc:=enc) (C:=Tryz.checked) (os:=os) (X:=fun w _=>laidMetH Tryz.prog Rows.treeOthersRow.laid w) false (World.doorLaid Tryz.prog 62 os) #[.string ⟨#[]⟩,.slice none 0 0] 8 rfl (World.shaped_of_RefB jG jG) jG jG jG (QZ os _)) ?_
 intro W base args ds gs before hai hW Uv YR hz3 Zs;have Zo:∀(j:Nat) t v,Tryz.f8.params[j]?=some t->args[j]?=some v->Value.okWide Tryz.prog W .any base t v:=hai;have hW':=hW;obtain⟨p,q,hA0,hV,rfl,hfz,Y0⟩:=hW;have hA:DataW.TrodAll enc Tryz.prog W 0 (fun _=>true) true Tryz.f8.params.toList args.toList ds p:=hA0;rw[Tryz.params8]at hA Zo;obtain⟨v0,v1,d0,d1,p0,p1,rfl,rfl,rfl,h0,h1⟩:=trodAll_two hA;obtain⟨rfl,rfl⟩:=trodVars_none hV;obtain⟨a0,rfl,_,_,ha0⟩:=open_string Tryz.underlying9 (Zo 0 9 v0 rfl rfl) h0;obtain⟨a1,ha1,VT⟩:=Kc (Zo 1 87 v1 rfl rfl) h1;refine(OO (Ku jG (by first|exact Uv|exact YR|exact hz3|exact Zs)) (RE a0 a1 ha1) (Ow (.raw _) (vJ VT))).mono fun e W' ⟨he,hx⟩=>⟨_,he,?_⟩
 exact PF hW' hx SM (by intro t ht;rw[Tryz.params8]at ht;simp at ht;rcases ht with rfl|rfl<;>exact⟨jG,of_decide_eq_true jG⟩) jG Tryz.underlying4 rfl rfl rfl rfl
theorem KD:(Rows.treeOthersRow.inPlace == Tryz.pinned.checked.prog.inPlace 8)=true:=jG
theorem QH:(Rows.treeOthersRow.unfollowed == Tryz.pinned.checked.prog.unfollowed 8)=true:=jG
theorem S4:(Rows.treeOthersRow.recurses == Tryz.pinned.checked.prog.recurses 8)=true:=jG
theorem Ny:(Rows.treeOthersRow.named == Tryz.pinned.checked.prog.varsNamed 8)=true:=jG
theorem Sm:joinedFacts Tryz.pinned.checked.prog 8 Tryz.f8 Rows.treeOthersSpec Rows.treeOthersRow=true:=by unfold joinedFacts;rw[KD,QH,S4,Ny];kernel_rfl
theorem LQ:Tryz.f8.isWrapper Tryz.pinned.checked.prog Rows.treeOthersRow.wrapper Rows.treeOthersRow.mainSum:=by unfold Func.isWrapper;first|(rw[if_pos (by decide +kernel)];kernel_rfl)|(rw[if_neg (by decide +kernel)];exact⟨rfl,rfl⟩)
theorem Rs:Rows.TreeOthersSaid:=
 OpenClaim.holds_of_wide 8 Tryz.f8 rfl rfl rfl rfl rfl rfl rfl ⟨rfl,rfl,rfl,rfl,rfl⟩ rfl rfl rfl rfl rfl jG Tryz.func8 Sm
  (of_decide_eq_true jG) LQ
  (fun os started T enc _=>JL os started T enc)
theorem Ri:true=Tryz.pinned.checked.prog.looks []:=jG
theorem JX:false=Rows.treeOthersRow.goesBy Tryz.pinned.checked.prog:=jG
theorem treeOthers_holds:Rows.TreeOthersCardSaid:=
 Claim7.holds_tied_plain_at .later [] _ true _ true
  Rs (fun _ h=>by cases h) jG (fun _ h=>by cases h) treeOthers_row_tie rfl ⟨rfl,rfl⟩ jG rfl
  (fun f fn hf UX=>by
   obtain rfl : f = 8 := Option.some.inj ((show Tryz.prog.funcNamed "furcate/furcatelaw18.TreeOthers" = some 8 by kernel_rfl).symm.trans hf) |>.symm;obtain rfl:fn=Tryz.f8:=(Option.some.inj (Tryz.func8.symm.trans UX)).symm;exact⟨Ri,fun j t ht=>by
    rw[Tryz.params8]at ht;have hm:t∈[9,87]:=by simpa using Array.mem_of_getElem? ht
    have T7:([9,87].all fun u=>!Tryz.prog.wantsStandIn u)=true:=jG;exact(show Tryz.prog.wantsStandIn t=false by simpa using List.all_eq_true.1 T7 t hm)⟩)
  JX
#print axioms treeOthers_holds
end Go.Proofs.YtjpcgmjaipfgdaaGreatDoor