/- Lemmas. No conditions. -/
import Derived.Test.YtijdhbokcdpklaaGreatDoorTwP
import Derived.Test.YtijdhbokcdpklaaGreatDoorTie
import Derived.Test.YtijdhbokcdpklaaGreatDoorCards
import Derived.LaidMore
import Derived.Stop.Joined
set_option linter.all false
namespace Go.Proofs.YtijdhbokcdpklaaGreatDoor
open Go Go.Gd Go.ChangeShapes Go.WideShapes Go.ChangeAt Go.ChangeMaps Go.RowKit
theorem Qz(os:Os)(args:Array Value):laidMetH Tryz.prog Rows.treeNamesRow.laid ((World.doorLaid Tryz.prog 62 os).forCall (fun _ _=>0) ⟨#[],args,[]⟩).memory:=
 laidMetH_of_parts3 (fuel:=8) (laidMet_of_run' 8 jG jG) jG jG
set_option maxRecDepth 100000 in
theorem Mq(os:Os)(started:os.Started)(T:Type)(enc:TypeId×Value->T) :
  ReturnsInHanded {} Tryz.checked os 4 .any (fun w args=>(Rows.treeNamesSpec.pre enc Tryz.prog Tryz.f4 [] false w args/\laidMetH Tryz.prog Rows.treeNamesRow.laid w)/\sizedMet enc Tryz.prog Tryz.f4 (OpenSpec.ofChange Rows.treeNamesSpec) false w args)
   (Rows.treeNamesSpec.post enc Tryz.prog Tryz.f4 false true false false):=by
 refine returnsInHanded_of_change_and (C:=Tryz.checked) (X:=fun w _=>laidMetH Tryz.prog Rows.treeNamesRow.laid w) (fun _ _ _ hh h=>h.of_heap hh) SO started jG Tryz.func4
  (ChangeSpec.witness_shaped (enc:=enc) (C:=Tryz.checked) (os:=os) (X:=fun w _=>laidMetH Tryz.prog Rows.treeNamesRow.laid w) false (World.doorLaid Tryz.prog 62 os) #[.string ⟨#[]⟩,.slice none 0 0,.agg #[.string ⟨#[]⟩,.int .u8 0]] 8 rfl (World.shaped_of_RefB jG jG) jG jG jG (Qz os _)) ?_
 intro W base args ds gs before haV hW VK YB hz3 hz4;have ZH:∀(j:Nat) t v,Tryz.f4.params[j]?=some t->args[j]?=some v->Value.okWide Tryz.prog W .any base t v:=haV;have hW':=hW;obtain⟨p,q,hA0,hV,rfl,hfz,hnd⟩:=hW;have hA:DataW.TrodAll enc Tryz.prog W 0 (fun _=>true) true Tryz.f4.params.toList args.toList ds p:=hA0;rw[Tryz.params4]at hA ZH;obtain⟨v0,v1,v2,d0,d1,d2,p0,p1,p2,rfl,rfl,rfl,h0,h1,h2⟩:=trodAll_three hA;obtain⟨rfl,rfl⟩:=trodVars_none hV;obtain⟨a0,rfl,_,_,ha0⟩:=open_string Tryz.underlying9 (ZH 0 9 v0 rfl rfl) h0;obtain⟨a1,ha1,Xh⟩:=Ou (ZH 1 22 v1 rfl rfl) h1;obtain⟨a2,ha2,Xn⟩:=LO (ZH 2 56 v2 rfl rfl) h2;refine(NU (LW jG (by first|exact VK|exact YB|exact hz3|exact hz4)) (Lk a0 a1 a2 ha1 ha2) (HV (.raw _) (HV Xh (wj Xn)))).mono fun e W' ⟨he,hx⟩=>⟨_,he,?_⟩
 exact LM hW' hx Si (by intro t ht;rw[Tryz.params4]at ht;simp at ht;rcases ht with rfl|rfl|rfl<;>exact⟨jG,of_decide_eq_true jG⟩) jG Tryz.underlying4 rfl rfl rfl rfl
theorem NR:(Rows.treeNamesRow.inPlace == Tryz.pinned.checked.prog.inPlace 4)=true:=jG
theorem MA:(Rows.treeNamesRow.unfollowed == Tryz.pinned.checked.prog.unfollowed 4)=true:=jG
theorem R5:(Rows.treeNamesRow.recurses == Tryz.pinned.checked.prog.recurses 4)=true:=jG
theorem PI:(Rows.treeNamesRow.named == Tryz.pinned.checked.prog.varsNamed 4)=true:=jG
theorem Tc:joinedFacts Tryz.pinned.checked.prog 4 Tryz.f4 Rows.treeNamesSpec Rows.treeNamesRow=true:=by unfold joinedFacts;rw[NR,MA,R5,PI];kernel_rfl
theorem M4:Tryz.f4.isWrapper Tryz.pinned.checked.prog Rows.treeNamesRow.wrapper Rows.treeNamesRow.mainSum:=by unfold Func.isWrapper;first|(rw[if_pos (by decide +kernel)];kernel_rfl)|(rw[if_neg (by decide +kernel)];exact⟨rfl,rfl⟩)
theorem QQ:Rows.TreeNamesSaid:=
 OpenClaim.holds_of_wide 4 Tryz.f4 rfl rfl rfl rfl rfl rfl rfl ⟨rfl,rfl,rfl,rfl,rfl⟩ rfl rfl rfl rfl rfl jG Tryz.func4 Tc
  (of_decide_eq_true jG) M4
  (fun os started T enc _=>Mq os started T enc)
theorem MN:true=Tryz.pinned.checked.prog.looks []:=jG
theorem OI:false=Rows.treeNamesRow.goesBy Tryz.pinned.checked.prog:=jG
theorem treeNames_holds:Rows.TreeNamesCardSaid:=
 Claim7.holds_tied_plain_at .later [] _ true _ true
  QQ (fun _ h=>by cases h) jG (fun _ h=>by cases h) treeNames_row_tie rfl ⟨rfl,rfl⟩ jG rfl
  (fun f fn hf VY=>by
   obtain rfl : f = 4 := Option.some.inj ((show Tryz.prog.funcNamed "furcate/furcatelaw18.TreeNames" = some 4 by kernel_rfl).symm.trans hf) |>.symm;obtain rfl:fn=Tryz.f4:=(Option.some.inj (Tryz.func4.symm.trans VY)).symm;exact⟨MN,fun j t ht=>by
    rw[Tryz.params4]at ht;have hm:t∈[9,22,56]:=by simpa using Array.mem_of_getElem? ht
    have Vj:([9,22,56].all fun u=>!Tryz.prog.wantsStandIn u)=true:=jG;exact(show Tryz.prog.wantsStandIn t=false by simpa using List.all_eq_true.1 Vj t hm)⟩)
  OI
#print axioms treeNames_holds
end Go.Proofs.YtijdhbokcdpklaaGreatDoor