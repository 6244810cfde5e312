/- Lemmas. No conditions. -/
import Derived.Test.YtjpcgmjaipfgdaaGreatDoorTwO
import Derived.LaidSub
import Derived.Lib.LaidTab
set_option linter.all false
namespace Go.Proofs.YtjpcgmjaipfgdaaGreatDoor
open Go Go.Gd Tryz Go.ChangeShapes Go.WideShapes Go.ChangeAt Go.RowKit
def LH:ownKnob prog.godebug=none:=jG
def SM:laidOutB prog=true:=jG
def Da{n:Int}(h:(Lit.int .i64 n).wf=true):-9223372036854775808<=n/\n<=9223372036854775807:=by have h1:IntKind.i64.min=-9223372036854775808:=jC;have h2:IntKind.i64.max=9223372036854775807:=jC;simp[Lit.wf,h1,h2]at h;omega
def Hb{n:Int}(h:(Lit.int .u8 n).wf=true):0<=n/\n<256:=by have h1:IntKind.u8.min=0:=jC;have h2:IntKind.u8.max=255:=jC;simp[Lit.wf,h1,h2]at h;omega
def Q7:oI prog 54 (fun us=>∃v:aj,cf v.n/\us=bS v):=
 (I4 (Ss:=[fun us=>∃n:Int,(Lit.int .i64 n).wf=true/\us=[.raw (.int .i64 n)],fun us=>∃n:Int,(Lit.int .i64 n).wf=true/\us=[.raw (.int .i64 n)],fun us=>∃s:TI,us=[.raw (.string s)]]) underlying54 jG ⟨xU jG,xU jG,z6 jG,trivial⟩).mono (by rintro us ⟨_,_,⟨a,ha,rfl⟩,⟨_,_,⟨b,hb,rfl⟩,⟨_,_,⟨c,rfl⟩,rfl,rfl⟩,rfl⟩,rfl⟩;exact⟨⟨a,b,c⟩,Da hb,rfl⟩)
def MG:oI prog 93 (fun us=>∃o:lU,OR o/\us=gP o):=
 (I4 (Ss:=[fun us=>∃n:Int,(Lit.int .u8 n).wf=true/\us=[.raw (.int .u8 n)],fun us=>∃n:Int,(Lit.int .i64 n).wf=true/\us=[.raw (.int .i64 n)],fun us=>∃s:TI,us=[.raw (.string s)],fun us=>∃s:TI,us=[.raw (.string s)],fun us=>∃v:aj,cf v.n/\us=bS v]) underlying93 jG ⟨xU jG,xU jG,z6 jG,z6 jG,Q7,trivial⟩).mono (by rintro us ⟨_,_,⟨a,ha,rfl⟩,⟨_,_,⟨b,hb,rfl⟩,⟨_,_,⟨c,rfl⟩,⟨_,_,⟨d,rfl⟩,⟨_,_,⟨e,he,rfl⟩,rfl,rfl⟩,rfl⟩,rfl⟩,rfl⟩,rfl⟩;exact⟨⟨a,b,c,d,e⟩,⟨(Hb ha).1,(Hb ha).2,Da hb,he⟩,rfl⟩)
def Tt:oI prog 87 (fun us=>∃a:AV,(∃l:List lU,(∀x∈l,OR x)/\a=aO gP 7 l)/\us=[a]):=
 (K2 (ok:=OR) (encA:=gP) (sz:=7) underlying87 jG jC MG (fun a=>rfl)).mono (by rintro us ⟨l,⟨hl,_⟩,rfl⟩;exact⟨_,⟨l,hl,rfl⟩,rfl⟩)
set_option maxRecDepth 100000 in
theorem Kc{T:Type}{enc:TJ×Value->T}{w:World}{v:Value}{d:DataW T}{ps:List MemPlace}{base:Nat}(hv:Value.okWide prog w .any base 87 v)(h:DataW.Trod enc prog w 0 (fun _=>true) true 87 v d ps):∃l:List lU,(∀x∈l,OR x)/\ax (n0 w) (aO gP 7 l) v:=by
 have hc:v.cells.toList=[v]:=by unfold Value.okWide at hv;rw[underlying87]at hv;cases v<;>first|rfl|(simp[Cell.okWide,Cell.ok,underlying87]at hv)
 obtain⟨a,⟨l,hl,rfl⟩,hr⟩:=Px Tt hc h;exact⟨l,hl,hr⟩
def FG(x:String×DataW Unit):Bool:=match x.2 with
 |.agg (.lit (.int .u64 _)::_)=>true
 |_=>false
def Ku {l : List (String × DataW Unit)} {W : World} (e : (l.filter fun x => x.2.handleName?.isNone).filter FG = [("internal/strconv.uint64pow10", Lib.tabData .u64 Lib.pow10Tab)]) (h : laidMetH prog l W) : jR (n0 W) := by
 have h1:=(laidMetH_iff.1 h).1.filter FG;rw[e]at h1;have ht:=Lib.tabIs_of_head (g:=0) (t:=340) (e:=264) (n:=20) jG jG jG jG jG jG h1;intro g vs hm;unfold AQ at hm;rw[List.mem_singleton]at hm;cases hm;refine⟨?_,fun h=>h⟩;unfold Lib.TabIs World.var? at ht
 rw [show prog.globalNamed "internal/strconv.uint64pow10" = some 0 by kernel_rfl] at ht;simp only[Option.bind_some]at ht;show(∃cur el fr,W.heap[0]?=some (.cells cur el fr)/\cur.toList=_);split at ht
 ·rename_i cs el fr hq;refine⟨cs,el,fr,hq,?_⟩;rw[Option.some.inj ht]
 ·cases ht
end Go.Proofs.YtjpcgmjaipfgdaaGreatDoor