/- Lemmas. No conditions. -/
import Derived.Test.YtijdhbokcdpklaaGreatDoorTwP
import Derived.Test.YtijdhbokcdpklaaGreatDoorTie
import Derived.Test.YtijdhbokcdpklaaGreatDoorCards
import Derived.LaidMore
import Derived.Stop.Joined
set_option linter.all false
namespace Go.Proofs.YtijdhbokcdpklaaGreatDoor
open Go Go.Gd Go.ChangeShapes Go.WideShapes Go.ChangeAt Go.ChangeMaps Go.RowKit
theorem P2(os:Os)(args:Array Value):laidMetH Tryz.prog Rows.treeForksRow.laid ((World.doorLaid Tryz.prog 62 os).forCall (fun _ _=>0) ⟨#[],args,[]⟩).memory:=
 laidMetH_of_parts3 (fuel:=8) (laidMet_of_run' 8 jG jG) jG jG
set_option maxRecDepth 100000 in
theorem OS(os:Os)(started:os.Started)(T:Type)(enc:TypeId×Value->T) :
  ReturnsInHanded {} Tryz.checked os 3 .any (fun w args=>(Rows.treeForksSpec.pre enc Tryz.prog Tryz.f3 [] false w args/\laidMetH Tryz.prog Rows.treeForksRow.laid w)/\sizedMet enc Tryz.prog Tryz.f3 (OpenSpec.ofChange Rows.treeForksSpec) false w args)
   (Rows.treeForksSpec.post enc Tryz.prog Tryz.f3 false true false false):=by
 refine returnsInHanded_of_change_and (C:=Tryz.checked) (X:=fun w _=>laidMetH Tryz.prog Rows.treeForksRow.laid w) (fun _ _ _ hh h=>h.of_heap hh) Rb started jG Tryz.func3
  (ChangeSpec.witness_shaped (enc:=enc) (C:=Tryz.checked) (os:=os) (X:=fun w _=>laidMetH Tryz.prog Rows.treeForksRow.laid w) false (World.doorLaid Tryz.prog 62 os) #[.string ⟨#[]⟩,.slice none 0 0,.int .i64 0] 8 rfl (World.shaped_of_RefB jG jG) jG jG jG (P2 os _)) ?_
 intro W base args ds gs before haM hW Vp ZK hz3 hz4;have Zj:∀(j:Nat) t v,Tryz.f3.params[j]?=some t->args[j]?=some v->Value.okWide Tryz.prog W .any base t v:=haM;have hW':=hW;obtain⟨p,q,hA0,hV,rfl,hfz,ZS⟩:=hW;have hA:DataW.TrodAll enc Tryz.prog W 0 (fun _=>true) true Tryz.f3.params.toList args.toList ds p:=hA0;rw[Tryz.params3]at hA Zj;obtain⟨v0,v1,v2,d0,d1,d2,p0,p1,p2,rfl,rfl,rfl,h0,h1,h2⟩:=trodAll_three hA;obtain⟨rfl,rfl⟩:=trodVars_none hV;obtain⟨a0,rfl,_,_,ha0⟩:=open_string Tryz.underlying9 (Zj 0 9 v0 rfl rfl) h0;obtain⟨a1,ha1,WO⟩:=LY (Zj 1 22 v1 rfl rfl) h1;obtain⟨a2,rfl,_,_,ha2⟩:=open_int Tryz.underlying3 (Zj 2 3 v2 rfl rfl) h2;have ha2:=Bh ha2;refine(Tm (NZ jG (by first|exact Vp|exact ZK|exact hz3|exact hz4)) (QJ a0 a1 a2 ha1 ha2) (Im (.raw _) (Im WO (vR (.raw _))))).mono fun e W' ⟨he,hx⟩=>⟨_,he,?_⟩
 exact Rg hW' hx Mw (by intro t ht;rw[Tryz.params3]at ht;simp at ht;rcases ht with rfl|rfl|rfl<;>exact⟨jG,of_decide_eq_true jG⟩) jG Tryz.underlying4 rfl rfl rfl rfl
theorem Rt:(Rows.treeForksRow.inPlace == Tryz.pinned.checked.prog.inPlace 3)=true:=jG
theorem QX:(Rows.treeForksRow.unfollowed == Tryz.pinned.checked.prog.unfollowed 3)=true:=jG
theorem LR:(Rows.treeForksRow.recurses == Tryz.pinned.checked.prog.recurses 3)=true:=jG
theorem KC:(Rows.treeForksRow.named == Tryz.pinned.checked.prog.varsNamed 3)=true:=jG
theorem QR:joinedFacts Tryz.pinned.checked.prog 3 Tryz.f3 Rows.treeForksSpec Rows.treeForksRow=true:=by unfold joinedFacts;rw[Rt,QX,LR,KC];kernel_rfl
theorem S7:Tryz.f3.isWrapper Tryz.pinned.checked.prog Rows.treeForksRow.wrapper Rows.treeForksRow.mainSum:=by unfold Func.isWrapper;first|(rw[if_pos (by decide +kernel)];kernel_rfl)|(rw[if_neg (by decide +kernel)];exact⟨rfl,rfl⟩)
theorem LO:Rows.TreeForksSaid:=
 OpenClaim.holds_of_wide 3 Tryz.f3 rfl rfl rfl rfl rfl rfl rfl ⟨rfl,rfl,rfl,rfl,rfl⟩ rfl rfl rfl rfl rfl jG Tryz.func3 QR
  (of_decide_eq_true jG) S7
  (fun os started T enc _=>OS os started T enc)
theorem MP:true=Tryz.pinned.checked.prog.looks []:=jG
theorem Le:false=Rows.treeForksRow.goesBy Tryz.pinned.checked.prog:=jG
theorem treeForks_holds:Rows.TreeForksCardSaid:=
 Claim7.holds_tied_plain_at .later [] _ true _ true
  LO (fun _ h=>by cases h) jG (fun _ h=>by cases h) treeForks_row_tie rfl ⟨rfl,rfl⟩ jG rfl
  (fun f fn hf VO=>by
   obtain rfl : f = 3 := Option.some.inj ((show Tryz.prog.funcNamed "furcate/furcatelaw18.TreeForks" = some 3 by kernel_rfl).symm.trans hf) |>.symm;obtain rfl:fn=Tryz.f3:=(Option.some.inj (Tryz.func3.symm.trans VO)).symm;exact⟨MP,fun j t ht=>by
    rw[Tryz.params3]at ht;have hm:t∈[9,22,3]:=by simpa using Array.mem_of_getElem? ht
    have UX:([9,22,3].all fun u=>!Tryz.prog.wantsStandIn u)=true:=jG;exact(show Tryz.prog.wantsStandIn t=false by simpa using List.all_eq_true.1 UX t hm)⟩)
  Le
#print axioms treeForks_holds
end Go.Proofs.YtijdhbokcdpklaaGreatDoor