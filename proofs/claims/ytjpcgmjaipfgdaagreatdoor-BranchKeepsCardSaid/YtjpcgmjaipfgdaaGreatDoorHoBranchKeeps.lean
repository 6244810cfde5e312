/- Lemmas. No conditions. -/
import Derived.Test.YtjpcgmjaipfgdaaGreatDoorBqR
import Derived.Test.YtjpcgmjaipfgdaaGreatDoorBqP
import Derived.Test.YtjpcgmjaipfgdaaGreatDoorTie
import Derived.Test.YtjpcgmjaipfgdaaGreatDoorCards
import Derived.LaidMore
import Derived.Stop.Joined
set_option linter.all false
namespace Go.Proofs.YtjpcgmjaipfgdaaGreatDoor
open Go Go.Gd Go.ChangeShapes Go.WideShapes Go.ChangeAt Go.ChangeMaps Go.RowKit
theorem P4(os:Os)(args:Array Value):laidMetH Tryz.prog Rows.branchKeepsRow.laid ((World.doorLaid Tryz.prog 62 os).forCall (fun _ _=>0) ⟨#[],args,[]⟩).memory:=
 laidMetH_of_parts3 (fuel:=8) (laidMet_of_run' 8 jG jG) jG jG
set_option maxRecDepth 100000 in
theorem NB(os:Os)(started:os.Started)(T:Type)(enc:TypeId×Value->T) :
  ReturnsInHanded {} Tryz.checked os 7 .any (fun w args=>(Rows.branchKeepsSpec.pre enc Tryz.prog Tryz.f7 [] false w args/\laidMetH Tryz.prog Rows.branchKeepsRow.laid w)/\sizedMet enc Tryz.prog Tryz.f7 (OpenSpec.ofChange Rows.branchKeepsSpec) false w args)
   (Rows.branchKeepsSpec.post enc Tryz.prog Tryz.f7 false true false false):=by
 refine returnsInHanded_of_change_and (C:=Tryz.checked) (X:=fun w _=>laidMetH Tryz.prog Rows.branchKeepsRow.laid w) (fun _ _ _ hh h=>h.of_heap hh) Ca started jG Tryz.func7
  (ChangeSpec.witness_shaped (enc:=enc) (C:=Tryz.checked) (os:=os) (X:=fun w _=>laidMetH Tryz.prog Rows.branchKeepsRow.laid w) false (World.doorLaid Tryz.prog 62 os) #[.string ⟨#[]⟩,.agg #[.string ⟨#[]⟩,.slice none 0 0,.slice none 0 0,.slice none 0 0],.agg #[.string ⟨#[]⟩,.int .i64 0,.string ⟨#[]⟩,.int .i64 0,.int .i64 0,.string ⟨#[]⟩,.int .i64 0,.int .i64 0]] 8 rfl (World.shaped_of_RefB jG jG) jG jG jG (P4 os _)) ?_
 intro W base args ds gs before XP hW VT Y1 hz3 Zw;have WG:∀(j:Nat) t v,Tryz.f7.params[j]?=some t->args[j]?=some v->Value.okWide Tryz.prog W .any base t v:=XP;have Z3:=hW;obtain⟨p,q,hA0,hV,rfl,hfz,ZH⟩:=hW;have hA:DataW.TrodAll enc Tryz.prog W 0 (fun _=>true) true Tryz.f7.params.toList args.toList ds p:=hA0;rw[Tryz.params7]at hA WG;obtain⟨v0,v1,v2,d0,d1,d2,p0,p1,p2,rfl,rfl,rfl,h0,h1,h2⟩:=trodAll_three hA;obtain⟨rfl,rfl⟩:=trodVars_none hV;obtain⟨a0,rfl,_,_,ha0⟩:=open_string Tryz.underlying9 (WG 0 9 v0 rfl rfl) h0;obtain⟨a1,ha1,WU⟩:=DH (WG 1 52 v1 rfl rfl) h1;obtain⟨a2,ha2,Xu⟩:=Cj (WG 2 58 v2 rfl rfl) h2;refine(A4 (Bo jG (by first|exact VT|exact Y1|exact hz3|exact Zw)) (P0 a0 a1 a2 ha1 ha2) (vh (.raw _) (vh WU (td Xu)))).mono fun e W' ⟨he,hx⟩=>⟨_,he,?_⟩
 exact Bw Z3 hx BC (by intro t ht;rw[Tryz.params7]at ht;simp at ht;rcases ht with rfl|rfl|rfl<;>exact⟨jG,of_decide_eq_true jG⟩) jG Tryz.underlying4 rfl rfl rfl rfl
theorem QP:(Rows.branchKeepsRow.inPlace == Tryz.pinned.checked.prog.inPlace 7)=true:=jG
theorem Ug:(Rows.branchKeepsRow.unfollowed == Tryz.pinned.checked.prog.unfollowed 7)=true:=jG
theorem LN:(Rows.branchKeepsRow.recurses == Tryz.pinned.checked.prog.recurses 7)=true:=jG
theorem Ud:(Rows.branchKeepsRow.named == Tryz.pinned.checked.prog.varsNamed 7)=true:=jG
theorem P7:joinedFacts Tryz.pinned.checked.prog 7 Tryz.f7 Rows.branchKeepsSpec Rows.branchKeepsRow=true:=by unfold joinedFacts;rw[QP,Ug,LN,Ud];kernel_rfl
theorem Ux:Tryz.f7.isWrapper Tryz.pinned.checked.prog Rows.branchKeepsRow.wrapper Rows.branchKeepsRow.mainSum:=by unfold Func.isWrapper;first|(rw[if_pos (by decide +kernel)];kernel_rfl)|(rw[if_neg (by decide +kernel)];exact⟨rfl,rfl⟩)
theorem Ul:Rows.BranchKeepsSaid:=
 OpenClaim.holds_of_wide 7 Tryz.f7 rfl rfl rfl rfl rfl rfl rfl ⟨rfl,rfl,rfl,rfl,rfl⟩ rfl rfl rfl rfl rfl jG Tryz.func7 P7
  (of_decide_eq_true jG) Ux
  (fun os started T enc _=>NB os started T enc)
theorem Mp:true=Tryz.pinned.checked.prog.looks []:=jG
theorem O9:false=Rows.branchKeepsRow.goesBy Tryz.pinned.checked.prog:=jG
theorem branchKeeps_holds:Rows.BranchKeepsCardSaid:=
 Claim7.holds_tied_plain_at .later [] _ true _ true
  Ul (fun _ h=>by cases h) jG (fun _ h=>by cases h) branchKeeps_row_tie rfl ⟨rfl,rfl⟩ jG rfl
  (fun f fn hf VD=>by
   obtain rfl : f = 7 := Option.some.inj ((show Tryz.prog.funcNamed "furcate/furcatelaw17.BranchKeeps" = some 7 by kernel_rfl).symm.trans hf) |>.symm;obtain rfl:fn=Tryz.f7:=(Option.some.inj (Tryz.func7.symm.trans VD)).symm;exact⟨Mp,fun j t ht=>by
    rw[Tryz.params7]at ht;have hm:t∈[9,52,58]:=by simpa using Array.mem_of_getElem? ht
    have Ve:([9,52,58].all fun u=>!Tryz.prog.wantsStandIn u)=true:=jG;exact(show Tryz.prog.wantsStandIn t=false by simpa using List.all_eq_true.1 Ve t hm)⟩)
  O9
#print axioms branchKeeps_holds
end Go.Proofs.YtjpcgmjaipfgdaaGreatDoor