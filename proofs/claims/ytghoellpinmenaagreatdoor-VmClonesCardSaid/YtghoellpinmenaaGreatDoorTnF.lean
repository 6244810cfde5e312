/- Lemmas. No conditions. -/
import Derived.Test.YtghoellpinmenaaGreatDoorTnE
import Derived.Test.YtghoellpinmenaaGreatDoorRows
import Derived.LaidSub
import Derived.Lib.LaidTab
set_option linter.all false
namespace Go.Proofs.YtghoellpinmenaaGreatDoor
open Go Go.Gd Go.ChangeShapes Go.WideShapes Go.ChangeAt Go.RowKit
def Ji:ownKnob Tryz.prog.godebug=none:=jG
def NJ:laidOutB Tryz.prog=true:=jG
def MP{n:Int}(h:(Lit.int .i64 n).wf=true):-9223372036854775808<=n/\n<=9223372036854775807:=by have h1:IntKind.i64.min=-9223372036854775808:=jC;have h2:IntKind.i64.max=9223372036854775807:=jC;simp[Lit.wf,h1,h2]at h;omega
def Eo{n:Int}(h:(Lit.int .u8 n).wf=true):0<=n/\n<256:=by have h1:IntKind.u8.min=0:=jC;have h2:IntKind.u8.max=255:=jC;simp[Lit.wf,h1,h2]at h;omega
def oP:ot Tryz.prog 22 (fun us=>∃l:List Int,(∀x∈l,cr x)/\us=[aX eI 1 l]):=
 (K3 (ok:=cr) (encA:=eI) (sz:=1) Tryz.underlying22 jG jC ((Hi (k:=.i64) jG).mono (by rintro us ⟨n,hn,rfl⟩;exact⟨n,MP hn,rfl⟩)) (fun a=>rfl)).mono (by rintro us ⟨l,⟨hl,_⟩,rfl⟩;exact⟨l,hl,rfl⟩)
def LD:ot Tryz.prog 22 (fun us=>∃a:AV,(∃l:List Int,(∀x∈l,cr x)/\a=aX eI 1 l)/\us=[a]):=oP.mono (by rintro us ⟨l,hl,rfl⟩;exact⟨_,⟨l,hl,rfl⟩,rfl⟩)
set_option maxRecDepth 100000 in
theorem I8{T:Type}{enc:TypeId×Value->T}{w:World}{v:Value}{d:DataW T}{ps:List MemPlace}{base:Nat}(hv:Value.okWide Tryz.prog w .any base 22 v)(h:DataW.Trod enc Tryz.prog w 0 (fun _=>true) true 22 v d ps):∃l:List Int,(∀x∈l,cr x)/\ar (n0 w) (aX eI 1 l) v:=by
 have hc:v.cells.toList=[v]:=by unfold Value.okWide at hv;rw[Tryz.underlying22]at hv;cases v<;>first|rfl|(simp[Cell.okWide,Cell.ok,Tryz.underlying22]at hv)
 obtain⟨a,⟨l,hl,rfl⟩,hr⟩:=OE LD hc h;exact⟨l,hl,hr⟩
def BR(x:String×DataW Unit):Bool:=match x.2 with
 |.agg (.lit (.int .u64 _)::_)=>true
 |_=>false
def Hc{l:List (String×DataW Unit)}{W:World}(hl:l=Rows.traceBadRow.laid)(h:laidMetH Tryz.prog l W):kI (n0 W):=by
 subst hl;have h1:=(laidMetH_iff.1 h).1.filter BR
 have e : ((Rows.traceBadRow.laid.filter fun x => x.2.handleName?.isNone).filter BR) = [("internal/strconv.uint64pow10", Lib.tabData .u64 Lib.pow10Tab)] := by kernel_rfl
 rw[e]at h1;have ht:=Lib.tabIs_of_head (g:=0) (t:=235) (e:=226) (n:=20) jG jG jG jG jG jG h1;intro g vs hm;unfold AX at hm;rw[List.mem_singleton]at hm;cases hm;refine⟨?_,fun h=>h⟩;unfold Lib.TabIs World.var? at ht
 rw [show Tryz.prog.globalNamed "internal/strconv.uint64pow10" = some 0 by kernel_rfl] at ht;simp only[Option.bind_some]at ht;show(∃cur el fr,W.heap[0]?=some (.cells cur el fr)/\cur.toList=_);split at ht
 ·rename_i cs el fr hq;refine⟨cs,el,fr,hq,?_⟩;rw[Option.some.inj ht]
 ·cases ht
end Go.Proofs.YtghoellpinmenaaGreatDoor