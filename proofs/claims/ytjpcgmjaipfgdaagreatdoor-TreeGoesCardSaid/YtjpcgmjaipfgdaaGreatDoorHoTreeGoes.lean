/- Lemmas. No conditions. -/
import Derived.Test.YtjpcgmjaipfgdaaGreatDoorTwL
import Derived.Test.YtjpcgmjaipfgdaaGreatDoorTwP
import Derived.Test.YtjpcgmjaipfgdaaGreatDoorTie
import Derived.Test.YtjpcgmjaipfgdaaGreatDoorCards
import Derived.LaidMore
import Derived.Stop.Joined
set_option linter.all false
namespace Go.Proofs.YtjpcgmjaipfgdaaGreatDoor
open Go Go.Gd Go.ChangeShapes Go.WideShapes Go.ChangeAt Go.ChangeMaps Go.RowKit
theorem LF(os:Os)(args:Array Value):laidMetH Tryz.prog Rows.treeGoesRow.laid ((World.doorLaid Tryz.prog 62 os).forCall (fun _ _=>0) ⟨#[],args,[]⟩).memory:=
 laidMetH_of_parts3 (fuel:=8) (laidMet_of_run' 8 jG jG) jG jG
set_option maxRecDepth 100000 in
theorem Ra(os:Os)(started:os.Started)(T:Type)(enc:TypeId×Value->T) :
  ReturnsInHanded {} Tryz.checked os 10 .any (fun w args=>(Rows.treeGoesSpec.pre enc Tryz.prog Tryz.f10 [] false w args/\laidMetH Tryz.prog Rows.treeGoesRow.laid w)/\sizedMet enc Tryz.prog Tryz.f10 (OpenSpec.ofChange Rows.treeGoesSpec) false w args)
   (Rows.treeGoesSpec.post enc Tryz.prog Tryz.f10 false true false false):=by
 refine returnsInHanded_of_change_and (C:=Tryz.checked) (X:=fun w _=>laidMetH Tryz.prog Rows.treeGoesRow.laid w) (fun _ _ _ hh h=>h.of_heap hh) Pn started jG Tryz.func10
  (ChangeSpec.witness_shaped (enc:=enc) (C:=Tryz.checked) (os:=os) (X:=fun w _=>laidMetH Tryz.prog Rows.treeGoesRow.laid w) false (World.doorLaid Tryz.prog 62 os) #[.string ⟨#[]⟩,.slice none 0 0,.int .u8 0] 8 rfl (World.shaped_of_RefB jG jG) jG jG jG (LF os _)) ?_
 intro W base args ds gs before Z5 hW Ty YA hz3 Xp;have Ya:∀(j:Nat) t v,Tryz.f10.params[j]?=some t->args[j]?=some v->Value.okWide Tryz.prog W .any base t v:=Z5;have hW':=hW;obtain⟨p,q,hA0,hV,rfl,hfz,YI⟩:=hW;have hA:DataW.TrodAll enc Tryz.prog W 0 (fun _=>true) true Tryz.f10.params.toList args.toList ds p:=hA0;rw[Tryz.params10]at hA Ya;obtain⟨v0,v1,v2,d0,d1,d2,p0,p1,p2,rfl,rfl,rfl,h0,h1,h2⟩:=trodAll_three hA;obtain⟨rfl,rfl⟩:=trodVars_none hV;obtain⟨a0,rfl,_,_,ha0⟩:=open_string Tryz.underlying9 (Ya 0 9 v0 rfl rfl) h0;obtain⟨a1,ha1,Vy⟩:=Kk (Ya 1 87 v1 rfl rfl) h1;obtain⟨a2,rfl,_,_,ha2⟩:=open_int Tryz.underlying5 (Ya 2 5 v2 rfl rfl) h2;have ha2:=BC ha2;refine(MO (LX jG (by first|exact Ty|exact YA|exact hz3|exact Xp)) (SV a0 a1 a2 ha1 ha2) (HZ (.raw _) (HZ Vy (vX (.raw _))))).mono fun e W' ⟨he,hx⟩=>⟨_,he,?_⟩
 exact MY hW' hx Pp (by intro t ht;rw[Tryz.params10]at ht;simp at ht;rcases ht with rfl|rfl|rfl<;>exact⟨jG,of_decide_eq_true jG⟩) jG Tryz.underlying4 rfl rfl rfl rfl
theorem KU:(Rows.treeGoesRow.inPlace == Tryz.pinned.checked.prog.inPlace 10)=true:=jG
theorem ML:(Rows.treeGoesRow.unfollowed == Tryz.pinned.checked.prog.unfollowed 10)=true:=jG
theorem Ov:(Rows.treeGoesRow.recurses == Tryz.pinned.checked.prog.recurses 10)=true:=jG
theorem OP:(Rows.treeGoesRow.named == Tryz.pinned.checked.prog.varsNamed 10)=true:=jG
theorem M0:joinedFacts Tryz.pinned.checked.prog 10 Tryz.f10 Rows.treeGoesSpec Rows.treeGoesRow=true:=by unfold joinedFacts;rw[KU,ML,Ov,OP];kernel_rfl
theorem Mz:Tryz.f10.isWrapper Tryz.pinned.checked.prog Rows.treeGoesRow.wrapper Rows.treeGoesRow.mainSum:=by unfold Func.isWrapper;first|(rw[if_pos (by decide +kernel)];kernel_rfl)|(rw[if_neg (by decide +kernel)];exact⟨rfl,rfl⟩)
theorem RM:Rows.TreeGoesSaid:=
 OpenClaim.holds_of_wide 10 Tryz.f10 rfl rfl rfl rfl rfl rfl rfl ⟨rfl,rfl,rfl,rfl,rfl⟩ rfl rfl rfl rfl rfl jG Tryz.func10 M0
  (of_decide_eq_true jG) Mz
  (fun os started T enc _=>Ra os started T enc)
theorem Px:true=Tryz.pinned.checked.prog.looks []:=jG
theorem OK:false=Rows.treeGoesRow.goesBy Tryz.pinned.checked.prog:=jG
theorem treeGoes_holds:Rows.TreeGoesCardSaid:=
 Claim7.holds_tied_plain_at .later [] _ true _ true
  RM (fun _ h=>by cases h) jG (fun _ h=>by cases h) treeGoes_row_tie rfl ⟨rfl,rfl⟩ jG rfl
  (fun f fn hf UA=>by
   obtain rfl : f = 10 := Option.some.inj ((show Tryz.prog.funcNamed "furcate/furcatelaw18.TreeGoes" = some 10 by kernel_rfl).symm.trans hf) |>.symm;obtain rfl:fn=Tryz.f10:=(Option.some.inj (Tryz.func10.symm.trans UA)).symm;exact⟨Px,fun j t ht=>by
    rw[Tryz.params10]at ht;have hm:t∈[9,87,5]:=by simpa using Array.mem_of_getElem? ht
    have Tu:([9,87,5].all fun u=>!Tryz.prog.wantsStandIn u)=true:=jG;exact(show Tryz.prog.wantsStandIn t=false by simpa using List.all_eq_true.1 Tu t hm)⟩)
  OK
#print axioms treeGoes_holds
end Go.Proofs.YtjpcgmjaipfgdaaGreatDoor