/- Lemmas. No conditions. -/
import Derived.Test.YtfkgcobaheegbaaGreatDoorVlP
import Derived.Test.YtfkgcobaheegbaaGreatDoorVlD
import Derived.Test.YtfkgcobaheegbaaGreatDoorTie
import Derived.Test.YtfkgcobaheegbaaGreatDoorCards
import Derived.LaidMore
import Derived.Stop.Joined
set_option linter.all false
namespace Go.Proofs.YtfkgcobaheegbaaGreatDoor
open Go Go.Gd Go.ChangeShapes Go.WideShapes Go.ChangeAt Go.ChangeMaps Go.RowKit
theorem IN(os:Os)(args:Array Value):laidMetH Tryz.prog Rows.vmPlacesRow.laid ((World.doorLaid Tryz.prog 62 os).forCall (fun _ _=>0) ⟨#[],args,[]⟩).memory:=
 laidMetH_of_parts3 (fuel:=8) (laidMet_of_run' 8 jG jG) jG jG
set_option maxRecDepth 100000 in
theorem Oe(os:Os)(started:os.Started)(T:Type)(enc:TypeId×Value->T) :
  ReturnsInHanded {} Tryz.checked os 11 .any (fun w args=>(Rows.vmPlacesSpec.pre enc Tryz.prog Tryz.f11 [] false w args/\laidMetH Tryz.prog Rows.vmPlacesRow.laid w)/\sizedMet enc Tryz.prog Tryz.f11 (OpenSpec.ofChange Rows.vmPlacesSpec) false w args)
   (Rows.vmPlacesSpec.post enc Tryz.prog Tryz.f11 false true false false):=by
 refine returnsInHanded_of_change_and (C:=Tryz.checked) (X:=fun w _=>laidMetH Tryz.prog Rows.vmPlacesRow.laid w) (fun _ _ _ hh h=>h.of_heap hh) PI started jG Tryz.func11
  (ChangeSpec.witness_shaped (enc:=enc) (C:=Tryz.checked) (os:=os) (X:=fun w _=>laidMetH Tryz.prog Rows.vmPlacesRow.laid w) false (World.doorLaid Tryz.prog 62 os) #[.string ⟨#[]⟩,.slice none 0 0,.int .u8 0] 8 rfl (World.shaped_of_RefB jG jG) jG jG jG (IN os _)) ?_
 intro W base args ds gs before hval0 hW hz1 hz2 hz3 hz4;have hval:∀(j:Nat) t v,Tryz.f11.params[j]?=some t->args[j]?=some v->Value.okWide Tryz.prog W .any base t v:=hval0;have hW':=hW;obtain⟨p,q,hA0,hV,rfl,hfz,hnd⟩:=hW;have hA:DataW.TrodAll enc Tryz.prog W 0 (fun _=>true) true Tryz.f11.params.toList args.toList ds p:=hA0;rw[Tryz.params11]at hA hval;obtain⟨v0,v1,v2,d0,d1,d2,p0,p1,p2,rfl,rfl,rfl,h0,h1,h2⟩:=trodAll_three hA;obtain⟨rfl,rfl⟩:=trodVars_none hV;obtain⟨a0,rfl,_,_,ha0⟩:=open_string Tryz.underlying9 (hval 0 9 v0 rfl rfl) h0;obtain⟨a1,ha1,hr1⟩:=II (hval 1 22 v1 rfl rfl) h1;obtain⟨a2,rfl,_,_,ha2⟩:=open_int Tryz.underlying5 (hval 2 5 v2 rfl rfl) h2;have ha2:=NG ha2;refine(Nk (Ic rfl (by first|exact hz1|exact hz2|exact hz3|exact hz4)) (IT a0 a1 a2 ha1 ha2) (Cv (.raw _) (Cv hr1 (y6 (.raw _))))).mono fun e W' ⟨he,hx⟩=>⟨_,he,?_⟩
 exact MI hW' hx Kz (by intro t ht;rw[Tryz.params11]at ht;simp at ht;rcases ht with rfl|rfl|rfl<;>exact⟨jG,of_decide_eq_true jG⟩) jG Tryz.underlying4 rfl rfl rfl rfl
theorem P7:(Rows.vmPlacesRow.inPlace == Tryz.pinned.checked.prog.inPlace 11)=true:=jG
theorem KU:(Rows.vmPlacesRow.unfollowed == Tryz.pinned.checked.prog.unfollowed 11)=true:=jG
theorem I2:(Rows.vmPlacesRow.recurses == Tryz.pinned.checked.prog.recurses 11)=true:=jG
theorem Na:(Rows.vmPlacesRow.named == Tryz.pinned.checked.prog.varsNamed 11)=true:=jG
theorem J6:joinedFacts Tryz.pinned.checked.prog 11 Tryz.f11 Rows.vmPlacesSpec Rows.vmPlacesRow=true:=by
 unfold joinedFacts;rw[P7,KU,I2,Na];kernel_rfl
theorem Ju:Tryz.f11.isWrapper Tryz.pinned.checked.prog Rows.vmPlacesRow.wrapper Rows.vmPlacesRow.mainSum:=by unfold Func.isWrapper;first|(rw[if_pos (by decide +kernel)];kernel_rfl)|(rw[if_neg (by decide +kernel)];exact⟨rfl,rfl⟩)
theorem OQ:Rows.VmPlacesSaid:=
 OpenClaim.holds_of_wide 11 Tryz.f11 rfl rfl rfl rfl rfl rfl rfl ⟨rfl,rfl,rfl,rfl,rfl⟩ rfl rfl rfl rfl rfl jG Tryz.func11 J6
  (of_decide_eq_true jG) Ju
  (fun os started T enc _=>Oe os started T enc)
theorem Nb:true=Tryz.pinned.checked.prog.looks []:=jG
theorem Kf:false=Rows.vmPlacesRow.goesBy Tryz.pinned.checked.prog:=jG
theorem vmPlaces_holds:Rows.VmPlacesCardSaid:=
 Claim7.holds_tied_plain_at .later [] _ true _ true
  OQ (fun _ h=>by cases h) jG (fun _ h=>by cases h) vmPlaces_row_tie rfl ⟨rfl,rfl⟩ jG rfl
  (fun f fn hf hfn=>by
   obtain rfl : f = 11 := Option.some.inj ((show Tryz.prog.funcNamed "furcate/furcatelaw11.VmPlaces" = some 11 by kernel_rfl).symm.trans hf) |>.symm;obtain rfl:fn=Tryz.f11:=(Option.some.inj (Tryz.func11.symm.trans hfn)).symm;exact⟨Nb,fun j t ht=>by
    rw[Tryz.params11]at ht;have hm:t∈[9,22,5]:=by simpa using Array.mem_of_getElem? ht
    have hall:([9,22,5].all fun u=>!Tryz.prog.wantsStandIn u)=true:=jG
    exact(show Tryz.prog.wantsStandIn t=false by simpa using List.all_eq_true.1 hall t hm)⟩)
  Kf
#print axioms vmPlaces_holds
end Go.Proofs.YtfkgcobaheegbaaGreatDoor
