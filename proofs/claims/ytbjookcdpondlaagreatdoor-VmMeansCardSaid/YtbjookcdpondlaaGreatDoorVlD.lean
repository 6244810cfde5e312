/- Lemmas. No conditions. -/
import Derived.Test.YtbjookcdpondlaaGreatDoorVlM
import Derived.Test.YtbjookcdpondlaaGreatDoorRows
import Derived.LaidSub
import Derived.Lib.LaidTab
set_option linter.all false
namespace Go.Proofs.YtbjookcdpondlaaGreatDoor
open Go Go.Gd Go.ChangeShapes Go.WideShapes Go.ChangeAt Go.RowKit
def Rb:ownKnob Tryz.prog.godebug=none:=jG
def Kv:laidOutB Tryz.prog=true:=jG
def JE{n:Int}(h:(Lit.int .i64 n).wf=true):-9223372036854775808<=n/\n<=9223372036854775807:=by have h1:IntKind.i64.min=-9223372036854775808:=jC;have h2:IntKind.i64.max=9223372036854775807:=jC;simp[Lit.wf,h1,h2]at h;omega
def Qe{n:Int}(h:(Lit.int .u8 n).wf=true):0<=n/\n<256:=by have h1:IntKind.u8.min=0:=jC;have h2:IntKind.u8.max=255:=jC;simp[Lit.wf,h1,h2]at h;omega
def Ow:sd Tryz.prog 22 (fun us=>∃a:AV,(∃l:List Int,(∀x∈l,dr x)/\a=bh eI 1 l)/\us=[a]):=
 (OE (ok:=dr) (encA:=eI) (sz:=1) Tryz.underlying22 jG jC ((KK (k:=.i64) jG).mono (by rintro us ⟨n,hn,rfl⟩;exact⟨n,JE hn,rfl⟩)) (fun a=>rfl)).mono (by rintro us ⟨l,⟨hl,_⟩,rfl⟩;exact⟨_,⟨l,hl,rfl⟩,rfl⟩)
set_option maxRecDepth 100000 in
theorem LJ{T:Type}{enc:TypeId×Value->T}{w:World}{v:Value}{d:DataW T}{ps:List MemPlace}{base:Nat}(hv:Value.okWide Tryz.prog w .any base 22 v)(h:DataW.Trod enc Tryz.prog w 0 (fun _=>true) true 22 v d ps):∃l:List Int,(∀x∈l,dr x)/\aB (n0 w) (bh eI 1 l) v:=by
 have hc:v.cells.toList=[v]:=by unfold Value.okWide at hv;rw[Tryz.underlying22]at hv;cases v<;>first|rfl|(simp[Cell.okWide,Cell.ok,Tryz.underlying22]at hv)
 obtain⟨a,⟨l,hl,rfl⟩,hr⟩:=LQ Ow hc h;exact⟨l,hl,hr⟩
def Fh(x:String×DataW Unit):Bool:=match x.2 with
 |.agg (.lit (.int .u64 _)::_)=>true
 |_=>false
def Rx{l:List (String×DataW Unit)}{W:World}(hl:l=Rows.vmMeansRow.laid)(h:laidMetH Tryz.prog l W):l9 (n0 W):=by
 subst hl;have h1:=(laidMetH_iff.1 h).1.filter Fh
 have e : ((Rows.vmMeansRow.laid.filter fun x => x.2.handleName?.isNone).filter Fh) = [("internal/strconv.uint64pow10", Lib.tabData .u64 Lib.pow10Tab)] := by kernel_rfl
 rw[e]at h1;have ht:=Lib.tabIs_of_head (g:=0) (t:=198) (e:=190) (n:=20) jG jG jG jG jG jG h1;intro g vs hm;unfold Bb at hm;rw[List.mem_singleton]at hm;cases hm;refine⟨?_,fun h=>h⟩;unfold Lib.TabIs World.var? at ht
 rw [show Tryz.prog.globalNamed "internal/strconv.uint64pow10" = some 0 by kernel_rfl] at ht;simp only[Option.bind_some]at ht;show(∃cur el fr,W.heap[0]?=some (.cells cur el fr)/\cur.toList=_);split at ht
 ·rename_i cs el fr hq;refine⟨cs,el,fr,hq,?_⟩;rw[Option.some.inj ht]
 ·cases ht
end Go.Proofs.YtbjookcdpondlaaGreatDoor