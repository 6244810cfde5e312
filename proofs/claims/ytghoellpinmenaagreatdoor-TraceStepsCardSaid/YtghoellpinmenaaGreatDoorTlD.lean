/- Lemmas. No conditions. -/
import Derived.Test.YtghoellpinmenaaGreatDoorTlM
import Derived.Test.YtghoellpinmenaaGreatDoorRows
import Derived.LaidSub
import Derived.Lib.LaidTab
set_option linter.all false
namespace Go.Proofs.YtghoellpinmenaaGreatDoor
open Go Go.Gd Go.ChangeShapes Go.WideShapes Go.ChangeAt Go.RowKit
def uH:ownKnob Tryz.prog.godebug=none:=jG
def vn:laidOutB Tryz.prog=true:=jG
def yk{n:Int}(h:(Lit.int .i64 n).wf=true):-9223372036854775808<=n/\n<=9223372036854775807:=by have h1:IntKind.i64.min=-9223372036854775808:=jC;have h2:IntKind.i64.max=9223372036854775807:=jC;simp[Lit.wf,h1,h2]at h;omega
def wv{n:Int}(h:(Lit.int .u8 n).wf=true):0<=n/\n<256:=by have h1:IntKind.u8.min=0:=jC;have h2:IntKind.u8.max=255:=jC;simp[Lit.wf,h1,h2]at h;omega
def kU:kN Tryz.prog 22 (fun us=>∃l:List Int,(∀x∈l,bn x)/\us=[ax eI 1 l]):=
 (GL (ok:=bn) (encA:=eI) (sz:=1) Tryz.underlying22 jG jC ((xG (k:=.i64) jG).mono (by rintro us ⟨n,hn,rfl⟩;exact⟨n,yk hn,rfl⟩)) (fun a=>rfl)).mono (by rintro us ⟨l,⟨hl,_⟩,rfl⟩;exact⟨l,hl,rfl⟩)
def LZ:kN Tryz.prog 22 (fun us=>∃a:AV,(∃l:List Int,(∀x∈l,bn x)/\a=ax eI 1 l)/\us=[a]):=kU.mono (by rintro us ⟨l,hl,rfl⟩;exact⟨_,⟨l,hl,rfl⟩,rfl⟩)
variable{ps:List MemPlace}
set_option maxRecDepth 100000 in
theorem O1{T:Type}{enc:TypeId×Value->T}{w:World}{v:Value}{d:DataW T}{base:Nat}(hv:Value.okWide Tryz.prog w .any base 22 v)(h:DataW.Trod enc Tryz.prog w 0 (fun _=>true) true 22 v d ps):∃l:List Int,(∀x∈l,bn x)/\az (n0 w) (ax eI 1 l) v:=by
 have hc:v.cells.toList=[v]:=by unfold Value.okWide at hv;rw[Tryz.underlying22]at hv;cases v<;>first|rfl|(simp[Cell.okWide,Cell.ok,Tryz.underlying22]at hv)
 obtain⟨a,⟨l,hl,rfl⟩,hr⟩:=I7 LZ hc h;exact⟨l,hl,hr⟩
def O4:kN Tryz.prog 50 (fun us=>∃v:ai,bn v.n/\us=bk v):=
 (yR (Ss:=[fun us=>∃n:Int,(Lit.int .i64 n).wf=true/\us=[.raw (.int .i64 n)],fun us=>∃n:Int,(Lit.int .i64 n).wf=true/\us=[.raw (.int .i64 n)],fun us=>∃s:ByteArray,us=[.raw (.string s)]]) Tryz.underlying50 jG ⟨xG jG,xG jG,Hb jG,trivial⟩).mono (by rintro us ⟨_,_,⟨a,ha,rfl⟩,⟨_,_,⟨b,hb,rfl⟩,⟨_,_,⟨c,rfl⟩,rfl,rfl⟩,rfl⟩,rfl⟩;exact⟨⟨a,b,c⟩,yk hb,rfl⟩)
def JN:kN Tryz.prog 52 (fun us=>∃x:ba,(bn x.v.n/\bn x.at_)/\us=dw x):=
 (yR (Ss:=[fun us=>∃n:Int,(Lit.int .i64 n).wf=true/\us=[.raw (.int .i64 n)],fun us=>∃s:ByteArray,us=[.raw (.string s)],fun us=>∃v:ai,bn v.n/\us=bk v]) Tryz.underlying52 jG ⟨xG jG,Hb jG,O4,trivial⟩).mono (by rintro us ⟨_,_,⟨a,ha,rfl⟩,⟨_,_,⟨b,rfl⟩,⟨_,_,⟨c,hc,rfl⟩,rfl,rfl⟩,rfl⟩,rfl⟩;exact⟨⟨a,b,c⟩,⟨hc,yk ha⟩,rfl⟩)
def Og:kN Tryz.prog 45 (fun us=>∃l:List ba,(∀x∈l,bn x.v.n/\bn x.at_)/\us=[ax dw 5 l]):=
 (GL (ok:=fun x:ba=>bn x.v.n/\bn x.at_) (encA:=dw) (sz:=5) Tryz.underlying45 jG jC JN (fun a=>rfl)).mono (by rintro us ⟨l,⟨hl,_⟩,rfl⟩;exact⟨l,hl,rfl⟩)
def sH(c:List Int×List ba):List AV:=[ax eI 1 c.1,ax dw 5 c.2]
def Mz:kN Tryz.prog 47 (fun us=>∃c:List Int×List ba,((∀x∈c.1,bn x)/\∀x∈c.2,bn x.v.n/\bn x.at_)/\us=sH c):=
 (yR (Ss:=[fun us=>∃l:List Int,(∀x∈l,bn x)/\us=[ax eI 1 l],fun us=>∃l:List ba,(∀x∈l,bn x.v.n/\bn x.at_)/\us=[ax dw 5 l]]) Tryz.underlying47 jG ⟨kU,Og,trivial⟩).mono (by rintro us ⟨_,_,⟨a,ha,rfl⟩,⟨_,_,⟨b,hb,rfl⟩,rfl,rfl⟩,rfl⟩;exact⟨(a,b),⟨ha,hb⟩,rfl⟩)
set_option maxRecDepth 100000 in
theorem wa{T:Type}{enc:TypeId×Value->T}{w:World}{v:Value}{d:DataW T}{base:Nat}(hv:Value.okWide Tryz.prog w .any base 47 v)(h:DataW.Trod enc Tryz.prog w 0 (fun _=>true) true 47 v d ps):∃c:List Int×List ba,((∀x∈c.1,bn x)/\∀x∈c.2,bn x.v.n/\bn x.at_)/\az (n0 w) (.agg (sH c)) v:=by obtain⟨us,⟨m,hm,rfl⟩,hr⟩:=Oj Tryz.underlying47 Mz hv h;exact⟨m,hm,hr⟩
def FE(x:String×DataW Unit):Bool:=match x.2 with
 |.agg (.lit (.int .u64 _)::_)=>true
 |_=>false
def uY{l:List (String×DataW Unit)}{W:World}(hl:l=Rows.traceBadRow.laid)(h:laidMetH Tryz.prog l W):j8 (n0 W):=by
 subst hl;have h1:=(laidMetH_iff.1 h).1.filter FE
 have e : ((Rows.traceBadRow.laid.filter fun x => x.2.handleName?.isNone).filter FE) = [("internal/strconv.uint64pow10", Lib.tabData .u64 Lib.pow10Tab)] := by kernel_rfl
 rw[e]at h1;have ht:=Lib.tabIs_of_head (g:=0) (t:=235) (e:=226) (n:=20) jG jG jG jG jG jG h1;intro g vs hm;unfold Bt at hm;rw[List.mem_singleton]at hm;cases hm;refine⟨?_,fun h=>h⟩;unfold Lib.TabIs World.var? at ht
 rw [show Tryz.prog.globalNamed "internal/strconv.uint64pow10" = some 0 by kernel_rfl] at ht;simp only[Option.bind_some]at ht;show(∃cur el fr,W.heap[0]?=some (.cells cur el fr)/\cur.toList=_);split at ht
 ·rename_i cs el fr hq;refine⟨cs,el,fr,hq,?_⟩;rw[Option.some.inj ht]
 ·cases ht
end Go.Proofs.YtghoellpinmenaaGreatDoor