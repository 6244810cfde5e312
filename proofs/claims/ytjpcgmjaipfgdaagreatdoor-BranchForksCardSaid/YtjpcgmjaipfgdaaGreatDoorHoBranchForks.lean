/- Lemmas. No conditions. -/
import Derived.Test.YtjpcgmjaipfgdaaGreatDoorBqO
import Derived.Test.YtjpcgmjaipfgdaaGreatDoorBqP
import Derived.Test.YtjpcgmjaipfgdaaGreatDoorTie
import Derived.Test.YtjpcgmjaipfgdaaGreatDoorCards
import Derived.LaidMore
import Derived.Stop.Joined
set_option linter.all false
namespace Go.Proofs.YtjpcgmjaipfgdaaGreatDoor
open Go Go.Gd Go.ChangeShapes Go.WideShapes Go.ChangeAt Go.ChangeMaps Go.RowKit
theorem KY(os:Os)(args:Array Value):laidMetH Tryz.prog Rows.branchForksRow.laid ((World.doorLaid Tryz.prog 62 os).forCall (fun _ _=>0) ⟨#[],args,[]⟩).memory:=
 laidMetH_of_parts3 (fuel:=8) (laidMet_of_run' 8 jG jG) jG jG
set_option maxRecDepth 100000 in
theorem OE(os:Os)(started:os.Started)(T:Type)(enc:TypeId×Value->T) :
  ReturnsInHanded {} Tryz.checked os 4 .any (fun w args=>(Rows.branchForksSpec.pre enc Tryz.prog Tryz.f4 [] false w args/\laidMetH Tryz.prog Rows.branchForksRow.laid w)/\sizedMet enc Tryz.prog Tryz.f4 (OpenSpec.ofChange Rows.branchForksSpec) false w args)
   (Rows.branchForksSpec.post enc Tryz.prog Tryz.f4 false true false false):=by
 refine returnsInHanded_of_change_and (C:=Tryz.checked) (X:=fun w _=>laidMetH Tryz.prog Rows.branchForksRow.laid w) (fun _ _ _ hh h=>h.of_heap hh) Ca started jG Tryz.func4
  (ChangeSpec.witness_shaped (enc:=enc) (C:=Tryz.checked) (os:=os) (X:=fun w _=>laidMetH Tryz.prog Rows.branchForksRow.laid w) false (World.doorLaid Tryz.prog 62 os) #[.string ⟨#[]⟩,.agg #[.string ⟨#[]⟩,.slice none 0 0,.slice none 0 0,.slice none 0 0],.agg #[.string ⟨#[]⟩,.int .i64 0,.string ⟨#[]⟩,.int .i64 0,.int .i64 0,.string ⟨#[]⟩,.int .i64 0,.int .i64 0]] 8 rfl (World.shaped_of_RefB jG jG) jG jG jG (KY os _)) ?_
 intro W base args ds gs before XP hW VT Y1 hz3 Zw;have WG:∀(j:Nat) t v,Tryz.f4.params[j]?=some t->args[j]?=some v->Value.okWide Tryz.prog W .any base t v:=XP;have Z3:=hW;obtain⟨p,q,hA0,hV,rfl,hfz,ZH⟩:=hW;have hA:DataW.TrodAll enc Tryz.prog W 0 (fun _=>true) true Tryz.f4.params.toList args.toList ds p:=hA0;rw[Tryz.params4]at hA WG;obtain⟨v0,v1,v2,d0,d1,d2,p0,p1,p2,rfl,rfl,rfl,h0,h1,h2⟩:=trodAll_three hA;obtain⟨rfl,rfl⟩:=trodVars_none hV;obtain⟨a0,rfl,_,_,ha0⟩:=open_string Tryz.underlying9 (WG 0 9 v0 rfl rfl) h0;obtain⟨a1,ha1,WU⟩:=DH (WG 1 52 v1 rfl rfl) h1;obtain⟨a2,ha2,Xu⟩:=Cj (WG 2 58 v2 rfl rfl) h2;refine(A4 (Bo jG (by first|exact VT|exact Y1|exact hz3|exact Zw)) (Tt a0 a1 a2 ha1 ha2) (vh (.raw _) (vh WU (td Xu)))).mono fun e W' ⟨he,hx⟩=>⟨_,he,?_⟩
 exact Bw Z3 hx BC (by intro t ht;rw[Tryz.params4]at ht;simp at ht;rcases ht with rfl|rfl|rfl<;>exact⟨jG,of_decide_eq_true jG⟩) jG Tryz.underlying4 rfl rfl rfl rfl
theorem QW:(Rows.branchForksRow.inPlace == Tryz.pinned.checked.prog.inPlace 4)=true:=jG
theorem Oz:(Rows.branchForksRow.unfollowed == Tryz.pinned.checked.prog.unfollowed 4)=true:=jG
theorem Mc:(Rows.branchForksRow.recurses == Tryz.pinned.checked.prog.recurses 4)=true:=jG
theorem SD:(Rows.branchForksRow.named == Tryz.pinned.checked.prog.varsNamed 4)=true:=jG
theorem Ob:joinedFacts Tryz.pinned.checked.prog 4 Tryz.f4 Rows.branchForksSpec Rows.branchForksRow=true:=by unfold joinedFacts;rw[QW,Oz,Mc,SD];kernel_rfl
theorem Tu:Tryz.f4.isWrapper Tryz.pinned.checked.prog Rows.branchForksRow.wrapper Rows.branchForksRow.mainSum:=by unfold Func.isWrapper;first|(rw[if_pos (by decide +kernel)];kernel_rfl)|(rw[if_neg (by decide +kernel)];exact⟨rfl,rfl⟩)
theorem RA:Rows.BranchForksSaid:=
 OpenClaim.holds_of_wide 4 Tryz.f4 rfl rfl rfl rfl rfl rfl rfl ⟨rfl,rfl,rfl,rfl,rfl⟩ rfl rfl rfl rfl rfl jG Tryz.func4 Ob
  (of_decide_eq_true jG) Tu
  (fun os started T enc _=>OE os started T enc)
theorem OW:true=Tryz.pinned.checked.prog.looks []:=jG
theorem TH:false=Rows.branchForksRow.goesBy Tryz.pinned.checked.prog:=jG
theorem branchForks_holds:Rows.BranchForksCardSaid:=
 Claim7.holds_tied_plain_at .later [] _ true _ true
  RA (fun _ h=>by cases h) jG (fun _ h=>by cases h) branchForks_row_tie rfl ⟨rfl,rfl⟩ jG rfl
  (fun f fn hf VD=>by
   obtain rfl : f = 4 := Option.some.inj ((show Tryz.prog.funcNamed "furcate/furcatelaw17.BranchForks" = some 4 by kernel_rfl).symm.trans hf) |>.symm;obtain rfl:fn=Tryz.f4:=(Option.some.inj (Tryz.func4.symm.trans VD)).symm;exact⟨OW,fun j t ht=>by
    rw[Tryz.params4]at ht;have hm:t∈[9,52,58]:=by simpa using Array.mem_of_getElem? ht
    have Ve:([9,52,58].all fun u=>!Tryz.prog.wantsStandIn u)=true:=jG;exact(show Tryz.prog.wantsStandIn t=false by simpa using List.all_eq_true.1 Ve t hm)⟩)
  TH
#print axioms branchForks_holds
end Go.Proofs.YtjpcgmjaipfgdaaGreatDoor