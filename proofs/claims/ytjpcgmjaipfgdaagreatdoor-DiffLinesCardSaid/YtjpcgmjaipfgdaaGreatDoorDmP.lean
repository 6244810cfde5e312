/- Lemmas. No conditions. -/
import Derived.Test.YtjpcgmjaipfgdaaGreatDoorBqP
set_option linter.all false
namespace Go.Proofs.YtjpcgmjaipfgdaaGreatDoor
open Go Go.Gd Tryz Go.ChangeShapes Go.WideShapes Go.ChangeAt Go.RowKit
def RA:nq prog 74 (fun us=>∃x:bo×bo,(BR x.1/\BR x.2)/\us=oH x.1 x.2):=
 (zh (Ss:=[fun us=>∃b:bo,BR b/\us=gr b,fun us=>∃b:bo,BR b/\us=gr b]) underlying74 jG ⟨Gf,Gf,trivial⟩).mono (by rintro us ⟨_,_,⟨a,ha,rfl⟩,⟨_,_,⟨b,hb,rfl⟩,rfl,rfl⟩,rfl⟩;exact⟨⟨a,b⟩,⟨ha,hb⟩,rfl⟩)
set_option maxRecDepth 100000 in
theorem QS{T:Type}{enc:UY×Value->T}{w:World}{v:Value}{d:DataW T}{ps:List MemPlace}{base:Nat}(hv:Value.okWide prog w .any base 74 v)(h:DataW.Trod enc prog w 0 (fun _=>true) true 74 v d ps):∃x:bo×bo,(BR x.1/\BR x.2)/\aw (n0 w) (.agg (oH x.1 x.2)) v:=by obtain⟨us,⟨m,hm,rfl⟩,hr⟩:=KL underlying74 RA hv h;exact⟨m,hm,hr⟩
end Go.Proofs.YtjpcgmjaipfgdaaGreatDoor