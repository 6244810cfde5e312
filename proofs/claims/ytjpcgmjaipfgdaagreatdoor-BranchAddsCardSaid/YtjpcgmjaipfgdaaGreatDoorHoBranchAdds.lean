/- Lemmas. No conditions. -/
import Derived.Test.YtjpcgmjaipfgdaaGreatDoorBqQ
import Derived.Test.YtjpcgmjaipfgdaaGreatDoorBqP
import Derived.Test.YtjpcgmjaipfgdaaGreatDoorTie
import Derived.Test.YtjpcgmjaipfgdaaGreatDoorCards
import Derived.LaidMore
import Derived.Stop.Joined
set_option linter.all false
namespace Go.Proofs.YtjpcgmjaipfgdaaGreatDoor
open Go Go.Gd Go.ChangeShapes Go.WideShapes Go.ChangeAt Go.ChangeMaps Go.RowKit
theorem Mr(os:Os)(args:Array Value):laidMetH Tryz.prog Rows.branchAddsRow.laid ((World.doorLaid Tryz.prog 62 os).forCall (fun _ _=>0) ⟨#[],args,[]⟩).memory:=
 laidMetH_of_parts3 (fuel:=8) (laidMet_of_run' 8 jG jG) jG jG
set_option maxRecDepth 100000 in
theorem MZ(os:Os)(started:os.Started)(T:Type)(enc:TypeId×Value->T) :
  ReturnsInHanded {} Tryz.checked os 5 .any (fun w args=>(Rows.branchAddsSpec.pre enc Tryz.prog Tryz.f5 [] false w args/\laidMetH Tryz.prog Rows.branchAddsRow.laid w)/\sizedMet enc Tryz.prog Tryz.f5 (OpenSpec.ofChange Rows.branchAddsSpec) false w args)
   (Rows.branchAddsSpec.post enc Tryz.prog Tryz.f5 false true false false):=by
 refine returnsInHanded_of_change_and (C:=Tryz.checked) (X:=fun w _=>laidMetH Tryz.prog Rows.branchAddsRow.laid w) (fun _ _ _ hh h=>h.of_heap hh) Ca started jG Tryz.func5
  (ChangeSpec.witness_shaped (enc:=enc) (C:=Tryz.checked) (os:=os) (X:=fun w _=>laidMetH Tryz.prog Rows.branchAddsRow.laid w) false (World.doorLaid Tryz.prog 62 os) #[.string ⟨#[]⟩,.agg #[.string ⟨#[]⟩,.slice none 0 0,.slice none 0 0,.slice none 0 0],.agg #[.string ⟨#[]⟩,.int .i64 0,.string ⟨#[]⟩,.int .i64 0,.int .i64 0,.string ⟨#[]⟩,.int .i64 0,.int .i64 0]] 8 rfl (World.shaped_of_RefB jG jG) jG jG jG (Mr os _)) ?_
 intro W base args ds gs before XP hW VT Y1 hz3 Zw;have WG:∀(j:Nat) t v,Tryz.f5.params[j]?=some t->args[j]?=some v->Value.okWide Tryz.prog W .any base t v:=XP;have Z3:=hW;obtain⟨p,q,hA0,hV,rfl,hfz,ZH⟩:=hW;have hA:DataW.TrodAll enc Tryz.prog W 0 (fun _=>true) true Tryz.f5.params.toList args.toList ds p:=hA0;rw[Tryz.params5]at hA WG;obtain⟨v0,v1,v2,d0,d1,d2,p0,p1,p2,rfl,rfl,rfl,h0,h1,h2⟩:=trodAll_three hA;obtain⟨rfl,rfl⟩:=trodVars_none hV;obtain⟨a0,rfl,_,_,ha0⟩:=open_string Tryz.underlying9 (WG 0 9 v0 rfl rfl) h0;obtain⟨a1,ha1,WU⟩:=DH (WG 1 52 v1 rfl rfl) h1;obtain⟨a2,ha2,Xu⟩:=Cj (WG 2 58 v2 rfl rfl) h2;refine(A4 (Bo jG (by first|exact VT|exact Y1|exact hz3|exact Zw)) (Pw a0 a1 a2 ha1 ha2) (vh (.raw _) (vh WU (td Xu)))).mono fun e W' ⟨he,hx⟩=>⟨_,he,?_⟩
 exact Bw Z3 hx BC (by intro t ht;rw[Tryz.params5]at ht;simp at ht;rcases ht with rfl|rfl|rfl<;>exact⟨jG,of_decide_eq_true jG⟩) jG Tryz.underlying4 rfl rfl rfl rfl
theorem M4:(Rows.branchAddsRow.inPlace == Tryz.pinned.checked.prog.inPlace 5)=true:=jG
theorem O5:(Rows.branchAddsRow.unfollowed == Tryz.pinned.checked.prog.unfollowed 5)=true:=jG
theorem Ms:(Rows.branchAddsRow.recurses == Tryz.pinned.checked.prog.recurses 5)=true:=jG
theorem Ro:(Rows.branchAddsRow.named == Tryz.pinned.checked.prog.varsNamed 5)=true:=jG
theorem Qg:joinedFacts Tryz.pinned.checked.prog 5 Tryz.f5 Rows.branchAddsSpec Rows.branchAddsRow=true:=by unfold joinedFacts;rw[M4,O5,Ms,Ro];kernel_rfl
theorem Tb:Tryz.f5.isWrapper Tryz.pinned.checked.prog Rows.branchAddsRow.wrapper Rows.branchAddsRow.mainSum:=by unfold Func.isWrapper;first|(rw[if_pos (by decide +kernel)];kernel_rfl)|(rw[if_neg (by decide +kernel)];exact⟨rfl,rfl⟩)
theorem Px:Rows.BranchAddsSaid:=
 OpenClaim.holds_of_wide 5 Tryz.f5 rfl rfl rfl rfl rfl rfl rfl ⟨rfl,rfl,rfl,rfl,rfl⟩ rfl rfl rfl rfl rfl jG Tryz.func5 Qg
  (of_decide_eq_true jG) Tb
  (fun os started T enc _=>MZ os started T enc)
theorem K5:true=Tryz.pinned.checked.prog.looks []:=jG
theorem R4:false=Rows.branchAddsRow.goesBy Tryz.pinned.checked.prog:=jG
theorem branchAdds_holds:Rows.BranchAddsCardSaid:=
 Claim7.holds_tied_plain_at .later [] _ true _ true
  Px (fun _ h=>by cases h) jG (fun _ h=>by cases h) branchAdds_row_tie rfl ⟨rfl,rfl⟩ jG rfl
  (fun f fn hf VD=>by
   obtain rfl : f = 5 := Option.some.inj ((show Tryz.prog.funcNamed "furcate/furcatelaw17.BranchAdds" = some 5 by kernel_rfl).symm.trans hf) |>.symm;obtain rfl:fn=Tryz.f5:=(Option.some.inj (Tryz.func5.symm.trans VD)).symm;exact⟨K5,fun j t ht=>by
    rw[Tryz.params5]at ht;have hm:t∈[9,52,58]:=by simpa using Array.mem_of_getElem? ht
    have Ve:([9,52,58].all fun u=>!Tryz.prog.wantsStandIn u)=true:=jG;exact(show Tryz.prog.wantsStandIn t=false by simpa using List.all_eq_true.1 Ve t hm)⟩)
  R4
#print axioms branchAdds_holds
end Go.Proofs.YtjpcgmjaipfgdaaGreatDoor