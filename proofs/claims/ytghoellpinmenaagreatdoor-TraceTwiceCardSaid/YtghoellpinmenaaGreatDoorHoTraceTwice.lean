/- Lemmas. No conditions. -/
import Derived.Test.YtghoellpinmenaaGreatDoorTlKW
import Derived.Test.YtghoellpinmenaaGreatDoorTie
import Derived.Test.YtghoellpinmenaaGreatDoorCards
import Derived.LaidMore
import Derived.Stop.Joined
set_option linter.all false
namespace Go.Proofs.YtghoellpinmenaaGreatDoor
open Go Go.Gd Go.ChangeShapes Go.WideShapes Go.ChangeAt Go.ChangeMaps Go.RowKit
theorem OE(os:Os)(args:Array Value):laidMetH Tryz.prog Rows.traceTwiceRow.laid ((World.doorLaid Tryz.prog 62 os).forCall (fun _ _=>0) ⟨#[],args,[]⟩).memory:=
 laidMetH_of_parts3 (fuel:=8) (laidMet_of_run' 8 jG jG) jG jG
set_option maxRecDepth 100000 in
theorem IL(os:Os)(started:os.Started)(T:Type)(enc:TypeId×Value->T) :
  ReturnsInHanded {} Tryz.checked os 5 .any (fun w args=>(Rows.traceTwiceSpec.pre enc Tryz.prog Tryz.f5 [] false w args/\laidMetH Tryz.prog Rows.traceTwiceRow.laid w)/\sizedMet enc Tryz.prog Tryz.f5 (OpenSpec.ofChange Rows.traceTwiceSpec) false w args)
   (Rows.traceTwiceSpec.post enc Tryz.prog Tryz.f5 false true false false):=by
 refine returnsInHanded_of_change_and (C:=Tryz.checked) (X:=fun w _=>laidMetH Tryz.prog Rows.traceTwiceRow.laid w) (fun _ _ _ hh h=>h.of_heap hh) uH started jG Tryz.func5
  (ChangeSpec.witness_shaped (enc:=enc) (C:=Tryz.checked) (os:=os) (X:=fun w _=>laidMetH Tryz.prog Rows.traceTwiceRow.laid w) false (World.doorLaid Tryz.prog 62 os) #[.string ⟨#[]⟩,.agg #[.slice none 0 0,.slice none 0 0],.int .u8 0] 8 rfl (World.shaped_of_RefB jG jG) jG jG jG (OE os _)) ?_
 intro W base args ds gs before RG hW Tc SG UH UI;have QE:∀(j:Nat) t v,Tryz.f5.params[j]?=some t->args[j]?=some v->Value.okWide Tryz.prog W .any base t v:=RG;have TH:=hW;obtain⟨p,q,UJ,hV,rfl,V',Uv⟩:=hW;have hA:DataW.TrodAll enc Tryz.prog W 0 (fun _=>true) true Tryz.f5.params.toList args.toList ds p:=UJ;rw[Tryz.params5]at hA QE;obtain⟨v0,v1,v2,d0,d1,d2,p0,p1,p2,rfl,rfl,rfl,h0,h1,h2⟩:=trodAll_three hA;obtain⟨rfl,rfl⟩:=trodVars_none hV;obtain⟨a0,rfl,_,_,Rx⟩:=open_string Tryz.underlying9 (QE 0 9 v0 rfl rfl) h0;obtain⟨a1,Ub,Tk⟩:=wa (QE 1 47 v1 rfl rfl) h1;obtain⟨a2,rfl,_,_,SA⟩:=open_int Tryz.underlying5 (QE 2 5 v2 rfl rfl) h2;have SA:=wv SA;refine(uI (uY rfl (by first|exact Tc|exact SG|exact UH|exact UI)) (Ov a0 a1 a2 Ub SA) (oo (.raw _) (oo Tk (pC (.raw _))))).mono fun e W' ⟨he,hx⟩=>⟨_,he,?_⟩
 exact ux TH hx vn (by intro t ht;rw[Tryz.params5]at ht;simp at ht;rcases ht with rfl|rfl|rfl<;>exact⟨jG,of_decide_eq_true jG⟩) jG Tryz.underlying4 rfl rfl rfl rfl
theorem Hd:(Rows.traceTwiceRow.inPlace == Tryz.pinned.checked.prog.inPlace 5)=true:=jG
theorem MU:(Rows.traceTwiceRow.unfollowed == Tryz.pinned.checked.prog.unfollowed 5)=true:=jG
theorem MH:(Rows.traceTwiceRow.recurses == Tryz.pinned.checked.prog.recurses 5)=true:=jG
theorem Ot:(Rows.traceTwiceRow.named == Tryz.pinned.checked.prog.varsNamed 5)=true:=jG
theorem IN:joinedFacts Tryz.pinned.checked.prog 5 Tryz.f5 Rows.traceTwiceSpec Rows.traceTwiceRow=true:=by unfold joinedFacts;rw[Hd,MU,MH,Ot];kernel_rfl
theorem Li:Tryz.f5.isWrapper Tryz.pinned.checked.prog Rows.traceTwiceRow.wrapper Rows.traceTwiceRow.mainSum:=by unfold Func.isWrapper;first|(rw[if_pos (by decide +kernel)];kernel_rfl)|(rw[if_neg (by decide +kernel)];exact⟨rfl,rfl⟩)
theorem KX:Rows.TraceTwiceSaid:=
 OpenClaim.holds_of_wide 5 Tryz.f5 rfl rfl rfl rfl rfl rfl rfl ⟨rfl,rfl,rfl,rfl,rfl⟩ rfl rfl rfl rfl rfl jG Tryz.func5 IN
  (of_decide_eq_true jG) Li
  (fun os started T enc _=>IL os started T enc)
theorem LD:true=Tryz.pinned.checked.prog.looks []:=jG
theorem ME:false=Rows.traceTwiceRow.goesBy Tryz.pinned.checked.prog:=jG
theorem traceTwice_holds:Rows.TraceTwiceCardSaid:=
 Claim7.holds_tied_plain_at .later [] _ true _ true
  KX (fun _ h=>by cases h) jG (fun _ h=>by cases h) traceTwice_row_tie rfl ⟨rfl,rfl⟩ jG rfl
  (fun f fn hf Q5=>by
   obtain rfl : f = 5 := Option.some.inj ((show Tryz.prog.funcNamed "furcate/furcatelaw13.TraceTwice" = some 5 by kernel_rfl).symm.trans hf) |>.symm;obtain rfl:fn=Tryz.f5:=(Option.some.inj (Tryz.func5.symm.trans Q5)).symm;exact⟨LD,fun j t ht=>by
    rw[Tryz.params5]at ht;have hm:t∈[9,47,5]:=by simpa using Array.mem_of_getElem? ht
    have Qp:([9,47,5].all fun u=>!Tryz.prog.wantsStandIn u)=true:=jG;exact(show Tryz.prog.wantsStandIn t=false by simpa using List.all_eq_true.1 Qp t hm)⟩)
  ME
#print axioms traceTwice_holds
end Go.Proofs.YtghoellpinmenaaGreatDoor