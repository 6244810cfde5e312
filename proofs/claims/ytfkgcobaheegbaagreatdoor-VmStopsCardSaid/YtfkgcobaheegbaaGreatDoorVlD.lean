/- Lemmas. No conditions. -/
import Derived.Test.YtfkgcobaheegbaaGreatDoorVlS
import Derived.Test.YtfkgcobaheegbaaGreatDoorRows
import Derived.LaidSub
import Derived.Lib.LaidTab
set_option linter.all false
namespace Go.Proofs.YtfkgcobaheegbaaGreatDoor
open Go Go.Gd Go.ChangeShapes Go.WideShapes Go.ChangeAt Go.RowKit
theorem Ra:ownKnob Tryz.prog.godebug=none:=jG
theorem Of:laidOutB Tryz.prog=true:=jG
theorem P3{n:Int}(h:(Lit.int .i64 n).wf=true):-9223372036854775808<=n/\n<=9223372036854775807:=by have h1:IntKind.i64.min=-9223372036854775808:=jC;have h2:IntKind.i64.max=9223372036854775807:=jC;simp[Lit.wf,h1,h2]at h;omega
theorem Pr{n:Int}(h:(Lit.int .u8 n).wf=true):0<=n/\n<256:=by have h1:IntKind.u8.min=0:=jC;have h2:IntKind.u8.max=255:=jC;simp[Lit.wf,h1,h2]at h;omega
theorem Kq:q9 Tryz.prog 22 (fun us=>∃a:AV,(∃l:List Int,(∀x∈l,cY x)/\a=bp eI 1 l)/\us=[a]):=
 (PX (ok:=cY) (encA:=eI) (sz:=1) Tryz.underlying22 jG jC ((Q5 (k:=.i64) jG).mono (by rintro us ⟨n,hn,rfl⟩;exact⟨n,P3 hn,rfl⟩)) (fun a=>rfl)).mono (by rintro us ⟨l,⟨hl,_⟩,rfl⟩;exact⟨_,⟨l,hl,rfl⟩,rfl⟩)
set_option maxRecDepth 100000 in
theorem KW{T:Type}{enc:TypeId×Value->T}{w:World}{v:Value}{d:DataW T}{ps:List MemPlace}{base:Nat}(hv:Value.okWide Tryz.prog w .any base 22 v)(h:DataW.Trod enc Tryz.prog w 0 (fun _=>true) true 22 v d ps):∃l:List Int,(∀x∈l,cY x)/\aw (n0 w) (bp eI 1 l) v:=by
 have hc:v.cells.toList=[v]:=by unfold Value.okWide at hv;rw[Tryz.underlying22]at hv;cases v<;>first|rfl|(simp[Cell.okWide,Cell.ok,Tryz.underlying22]at hv)
 obtain⟨a,⟨l,hl,rfl⟩,hr⟩:=IN Kq hc h;exact⟨l,hl,hr⟩
def D3(x:String×DataW Unit):Bool:=match x.2 with
 |.agg (.lit (.int .u64 _)::_)=>true
 |_=>false
theorem JO{l:List (String×DataW Unit)}{W:World}(hl:l=Rows.vmMeansRow.laid)(h:laidMetH Tryz.prog l W):lD (n0 W):=by
 subst hl;have h1:=(laidMetH_iff.1 h).1.filter D3
 have e : ((Rows.vmMeansRow.laid.filter fun x => x.2.handleName?.isNone).filter D3) = [("internal/strconv.uint64pow10", Lib.tabData .u64 Lib.pow10Tab)] := by kernel_rfl
 rw[e]at h1;have ht:=Lib.tabIs_of_head (g:=0) (t:=278) (e:=263) (n:=20) jG jG jG jG jG jG h1;intro g vs hm;unfold A6 at hm;rw[List.mem_singleton]at hm;cases hm;refine⟨?_,fun h=>h⟩;unfold Lib.TabIs World.var? at ht
 rw [show Tryz.prog.globalNamed "internal/strconv.uint64pow10" = some 0 by kernel_rfl] at ht;simp only[Option.bind_some]at ht;show(∃cur el fr,W.heap[0]?=some (.cells cur el fr)/\cur.toList=_);split at ht
 ·rename_i cs el fr hq;refine⟨cs,el,fr,hq,?_⟩;rw[Option.some.inj ht]
 ·cases ht
end Go.Proofs.YtfkgcobaheegbaaGreatDoor
