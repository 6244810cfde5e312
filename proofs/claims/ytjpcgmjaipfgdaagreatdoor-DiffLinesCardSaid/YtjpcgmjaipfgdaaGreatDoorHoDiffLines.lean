/- Lemmas. No conditions. -/
import Derived.Test.YtjpcgmjaipfgdaaGreatDoorDmP
import Derived.Test.YtjpcgmjaipfgdaaGreatDoorTie
import Derived.Test.YtjpcgmjaipfgdaaGreatDoorCards
import Derived.LaidMore
import Derived.Stop.Joined
set_option linter.all false
namespace Go.Proofs.YtjpcgmjaipfgdaaGreatDoor
open Go Go.Gd Go.ChangeShapes Go.WideShapes Go.ChangeAt Go.ChangeMaps Go.RowKit
theorem LS(os:Os)(args:Array Value):laidMetH Tryz.prog Rows.diffLinesRow.laid ((World.doorLaid Tryz.prog 62 os).forCall (fun _ _=>0) ⟨#[],args,[]⟩).memory:=
 laidMetH_of_parts3 (fuel:=8) (laidMet_of_run' 8 jG jG) jG jG
set_option maxRecDepth 100000 in
theorem QY(os:Os)(started:os.Started)(T:Type)(enc:TypeId×Value->T) :
  ReturnsInHanded {} Tryz.checked os 6 .any (fun w args=>(Rows.diffLinesSpec.pre enc Tryz.prog Tryz.f6 [] false w args/\laidMetH Tryz.prog Rows.diffLinesRow.laid w)/\sizedMet enc Tryz.prog Tryz.f6 (OpenSpec.ofChange Rows.diffLinesSpec) false w args)
   (Rows.diffLinesSpec.post enc Tryz.prog Tryz.f6 false true false false):=by
 refine returnsInHanded_of_change_and (C:=Tryz.checked) (X:=fun w _=>laidMetH Tryz.prog Rows.diffLinesRow.laid w) (fun _ _ _ hh h=>h.of_heap hh) Lv started jG Tryz.func6
  (ChangeSpec.witness_shaped (enc:=enc) (C:=Tryz.checked) (os:=os) (X:=fun w _=>laidMetH Tryz.prog Rows.diffLinesRow.laid w) false (World.doorLaid Tryz.prog 62 os) #[.string ⟨#[]⟩,.agg #[.string ⟨#[]⟩,.slice none 0 0,.slice none 0 0,.slice none 0 0,.string ⟨#[]⟩,.slice none 0 0,.slice none 0 0,.slice none 0 0],.int .u8 0] 8 rfl (World.shaped_of_RefB jG jG) jG jG jG (LS os _)) ?_
 intro W base args ds gs before haV hW VT hz2 hz3 hz4;have ZO:∀(j:Nat) t v,Tryz.f6.params[j]?=some t->args[j]?=some v->Value.okWide Tryz.prog W .any base t v:=haV;have hW':=hW;obtain⟨p,q,Yy,hV,rfl,hfz,Xe⟩:=hW;have hA:DataW.TrodAll enc Tryz.prog W 0 (fun _=>true) true Tryz.f6.params.toList args.toList ds p:=Yy;rw[Tryz.params6]at hA ZO;obtain⟨v0,v1,v2,d0,d1,d2,p0,p1,p2,rfl,rfl,rfl,h0,h1,h2⟩:=trodAll_three hA;obtain⟨rfl,rfl⟩:=trodVars_none hV;obtain⟨a0,rfl,_,_,ha0⟩:=open_string Tryz.underlying9 (ZO 0 9 v0 rfl rfl) h0;obtain⟨a1,ha1,W8⟩:=QS (ZO 1 74 v1 rfl rfl) h1;obtain⟨a2,rfl,_,_,ha2⟩:=open_int Tryz.underlying5 (ZO 2 5 v2 rfl rfl) h2;have ha2:=Sl ha2;refine(Sj (OJ jG (by first|exact VT|exact hz2|exact hz3|exact hz4)) (N5 a0 a1 a2 ha1 ha2) (Hm (.raw _) (Hm W8 (xM (.raw _))))).mono fun e W' ⟨he,hx⟩=>⟨_,he,?_⟩
 exact Oi hW' hx Qx (by intro t ht;rw[Tryz.params6]at ht;simp at ht;rcases ht with rfl|rfl|rfl<;>exact⟨jG,of_decide_eq_true jG⟩) jG Tryz.underlying4 rfl rfl rfl rfl
theorem TY:(Rows.diffLinesRow.inPlace == Tryz.pinned.checked.prog.inPlace 6)=true:=jG
theorem Qg:(Rows.diffLinesRow.unfollowed == Tryz.pinned.checked.prog.unfollowed 6)=true:=jG
theorem Uj:(Rows.diffLinesRow.recurses == Tryz.pinned.checked.prog.recurses 6)=true:=jG
theorem NG:(Rows.diffLinesRow.named == Tryz.pinned.checked.prog.varsNamed 6)=true:=jG
theorem Tj:joinedFacts Tryz.pinned.checked.prog 6 Tryz.f6 Rows.diffLinesSpec Rows.diffLinesRow=true:=by unfold joinedFacts;rw[TY,Qg,Uj,NG];kernel_rfl
theorem P8:Tryz.f6.isWrapper Tryz.pinned.checked.prog Rows.diffLinesRow.wrapper Rows.diffLinesRow.mainSum:=by unfold Func.isWrapper;first|(rw[if_pos (by decide +kernel)];kernel_rfl)|(rw[if_neg (by decide +kernel)];exact⟨rfl,rfl⟩)
theorem Tn:Rows.DiffLinesSaid:=
 OpenClaim.holds_of_wide 6 Tryz.f6 rfl rfl rfl rfl rfl rfl rfl ⟨rfl,rfl,rfl,rfl,rfl⟩ rfl rfl rfl rfl rfl jG Tryz.func6 Tj
  (of_decide_eq_true jG) P8
  (fun os started T enc _=>QY os started T enc)
theorem PH:true=Tryz.pinned.checked.prog.looks []:=jG
theorem Pb:false=Rows.diffLinesRow.goesBy Tryz.pinned.checked.prog:=jG
theorem diffLines_holds:Rows.DiffLinesCardSaid:=
 Claim7.holds_tied_plain_at .later [] _ true _ true
  Tn (fun _ h=>by cases h) jG (fun _ h=>by cases h) diffLines_row_tie rfl ⟨rfl,rfl⟩ jG rfl
  (fun f fn hf VB=>by
   obtain rfl : f = 6 := Option.some.inj ((show Tryz.prog.funcNamed "furcate/furcatelaw19.DiffLines" = some 6 by kernel_rfl).symm.trans hf) |>.symm;obtain rfl:fn=Tryz.f6:=(Option.some.inj (Tryz.func6.symm.trans VB)).symm;exact⟨PH,fun j t ht=>by
    rw[Tryz.params6]at ht;have hm:t∈[9,74,5]:=by simpa using Array.mem_of_getElem? ht
    have Vm:([9,74,5].all fun u=>!Tryz.prog.wantsStandIn u)=true:=jG;exact(show Tryz.prog.wantsStandIn t=false by simpa using List.all_eq_true.1 Vm t hm)⟩)
  Pb
#print axioms diffLines_holds
end Go.Proofs.YtjpcgmjaipfgdaaGreatDoor