/- Lemmas. No conditions. -/
import Derived.Test.YtijdhbokcdpklaaGreatDoorTwR
import Derived.LaidSub
import Derived.Lib.LaidTab
set_option linter.all false
namespace Go.Proofs.YtijdhbokcdpklaaGreatDoor
open Go Go.Gd Tryz Go.ChangeShapes Go.WideShapes Go.ChangeAt Go.RowKit
def SO:ownKnob prog.godebug=none:=jG
def Si:laidOutB prog=true:=jG
def Ej{n:Int}(h:(Lit.int .i64 n).wf=true):-9223372036854775808<=n/\n<=9223372036854775807:=by have h1:IntKind.i64.min=-9223372036854775808:=jC;have h2:IntKind.i64.max=9223372036854775807:=jC;simp[Lit.wf,h1,h2]at h;omega
def Bo{n:Int}(h:(Lit.int .u8 n).wf=true):0<=n/\n<256:=by have h1:IntKind.u8.min=0:=jC;have h2:IntKind.u8.max=255:=jC;simp[Lit.wf,h1,h2]at h;omega
def NI:nF prog 42 (fun us=>∃v:aj,bE v.n/\us=bW v):=
 (AF (Ss:=[fun us=>∃n:Int,(Lit.int .i64 n).wf=true/\us=[.raw (.int .i64 n)],fun us=>∃n:Int,(Lit.int .i64 n).wf=true/\us=[.raw (.int .i64 n)],fun us=>∃s:UR,us=[.raw (.string s)]]) underlying42 jG ⟨xt jG,xt jG,At jG,trivial⟩).mono (by rintro us ⟨_,_,⟨a,ha,rfl⟩,⟨_,_,⟨b,hb,rfl⟩,⟨_,_,⟨c,rfl⟩,rfl,rfl⟩,rfl⟩,rfl⟩;exact⟨⟨a,b,c⟩,Ej hb,rfl⟩)
def R7:nF prog 44 (fun us=>∃o:mF,OR o/\us=gV o):=
 (AF (Ss:=[fun us=>∃n:Int,(Lit.int .u8 n).wf=true/\us=[.raw (.int .u8 n)],fun us=>∃n:Int,(Lit.int .i64 n).wf=true/\us=[.raw (.int .i64 n)],fun us=>∃s:UR,us=[.raw (.string s)],fun us=>∃s:UR,us=[.raw (.string s)],fun us=>∃v:aj,bE v.n/\us=bW v]) underlying44 jG ⟨xt jG,xt jG,At jG,At jG,NI,trivial⟩).mono (by rintro us ⟨_,_,⟨a,ha,rfl⟩,⟨_,_,⟨b,hb,rfl⟩,⟨_,_,⟨c,rfl⟩,⟨_,_,⟨d,rfl⟩,⟨_,_,⟨e,he,rfl⟩,rfl,rfl⟩,rfl⟩,rfl⟩,rfl⟩,rfl⟩;exact⟨⟨a,b,c,d,e⟩,⟨(Bo ha).1,(Bo ha).2,Ej hb,he⟩,rfl⟩)
def Sr:nF prog 22 (fun us=>∃a:AV,(∃l:List mF,(∀x∈l,OR x)/\a=aM gV 7 l)/\us=[a]):=
 (Su (ok:=OR) (encA:=gV) (sz:=7) underlying22 jG jC R7 (fun a=>rfl)).mono (by rintro us ⟨l,⟨hl,_⟩,rfl⟩;exact⟨_,⟨l,hl,rfl⟩,rfl⟩)
variable{ps:List MemPlace}
set_option maxRecDepth 100000 in
theorem Ou{T:Type}{enc:US×Value->T}{w:World}{v:Value}{d:DataW T}{base:Nat}(hv:Value.okWide prog w .any base 22 v)(h:DataW.Trod enc prog w 0 (fun _=>true) true 22 v d ps):∃l:List mF,(∀x∈l,OR x)/\ax (n0 w) (aM gV 7 l) v:=by
 have hc:v.cells.toList=[v]:=by unfold Value.okWide at hv;rw[underlying22]at hv;cases v<;>first|rfl|(simp[Cell.okWide,Cell.ok,underlying22]at hv)
 obtain⟨a,⟨l,hl,rfl⟩,hr⟩:=Tt Sr hc h;exact⟨l,hl,hr⟩
def QR:nF prog 56 (fun us=>∃x:UR×Int,(0<=x.2/\x.2<256)/\us=AL x):=
 (AF (Ss:=[fun us=>∃s:UR,us=[.raw (.string s)],fun us=>∃n:Int,(Lit.int .u8 n).wf=true/\us=[.raw (.int .u8 n)]]) underlying56 jG ⟨At jG,xt jG,trivial⟩).mono (by rintro us ⟨_,_,⟨a,rfl⟩,⟨_,_,⟨b,hb,rfl⟩,rfl,rfl⟩,rfl⟩;exact⟨(a,b),Bo hb,rfl⟩)
set_option maxRecDepth 100000 in
theorem LO{T:Type}{enc:US×Value->T}{w:World}{v:Value}{d:DataW T}{base:Nat}(hv:Value.okWide prog w .any base 56 v)(h:DataW.Trod enc prog w 0 (fun _=>true) true 56 v d ps):∃x:UR×Int,(0<=x.2/\x.2<256)/\ax (n0 w) (.agg (AL x)) v:=by obtain⟨us,⟨m,hm,rfl⟩,hr⟩:=RF underlying56 QR hv h;exact⟨m,hm,hr⟩
def Jp(x:String×DataW Unit):Bool:=match x.2 with
 |.agg (.lit (.int .u64 _)::_)=>true
 |_=>false
def LW {l : List (String × DataW Unit)} {W : World} (e : (l.filter fun x => x.2.handleName?.isNone).filter Jp = [("internal/strconv.uint64pow10", Lib.tabData .u64 Lib.pow10Tab)]) (h : laidMetH prog l W) : j6 (n0 W) := by
 have h1:=(laidMetH_iff.1 h).1.filter Jp;rw[e]at h1;have ht:=Lib.tabIs_of_head (g:=0) (t:=262) (e:=249) (n:=20) jG jG jG jG jG jG h1;intro g vs hm;unfold CT at hm;rw[List.mem_singleton]at hm;cases hm;refine⟨?_,fun h=>h⟩;unfold Lib.TabIs World.var? at ht
 rw [show prog.globalNamed "internal/strconv.uint64pow10" = some 0 by kernel_rfl] at ht;simp only[Option.bind_some]at ht;show(∃cur el fr,W.heap[0]?=some (.cells cur el fr)/\cur.toList=_);split at ht
 ·rename_i cs el fr hq;refine⟨cs,el,fr,hq,?_⟩;rw[Option.some.inj ht]
 ·cases ht
end Go.Proofs.YtijdhbokcdpklaaGreatDoor