/- Lemmas. No conditions. -/
import Derived.Test.YtijdhbokcdpklaaGreatDoorTwQ
import Derived.LaidSub
import Derived.Lib.LaidTab
set_option linter.all false
namespace Go.Proofs.YtijdhbokcdpklaaGreatDoor
open Go Go.Gd Tryz Go.ChangeShapes Go.WideShapes Go.ChangeAt Go.RowKit
def Rb:ownKnob prog.godebug=none:=jG
def Mw:laidOutB prog=true:=jG
def Bh{n:Int}(h:(Lit.int .i64 n).wf=true):-9223372036854775808<=n/\n<=9223372036854775807:=by have h1:IntKind.i64.min=-9223372036854775808:=jC;have h2:IntKind.i64.max=9223372036854775807:=jC;simp[Lit.wf,h1,h2]at h;omega
def JM{n:Int}(h:(Lit.int .u8 n).wf=true):0<=n/\n<256:=by have h1:IntKind.u8.min=0:=jC;have h2:IntKind.u8.max=255:=jC;simp[Lit.wf,h1,h2]at h;omega
def OA:oJ prog 42 (fun us=>∃v:aj,bD v.n/\us=bV v):=
 (GY (Ss:=[fun us=>∃n:Int,(Lit.int .i64 n).wf=true/\us=[.raw (.int .i64 n)],fun us=>∃n:Int,(Lit.int .i64 n).wf=true/\us=[.raw (.int .i64 n)],fun us=>∃s:UI,us=[.raw (.string s)]]) underlying42 jG ⟨Ah jG,Ah jG,A6 jG,trivial⟩).mono (by rintro us ⟨_,_,⟨a,ha,rfl⟩,⟨_,_,⟨b,hb,rfl⟩,⟨_,_,⟨c,rfl⟩,rfl,rfl⟩,rfl⟩,rfl⟩;exact⟨⟨a,b,c⟩,Bh hb,rfl⟩)
def M5:oJ prog 44 (fun us=>∃o:nj,OR o/\us=iq o):=
 (GY (Ss:=[fun us=>∃n:Int,(Lit.int .u8 n).wf=true/\us=[.raw (.int .u8 n)],fun us=>∃n:Int,(Lit.int .i64 n).wf=true/\us=[.raw (.int .i64 n)],fun us=>∃s:UI,us=[.raw (.string s)],fun us=>∃s:UI,us=[.raw (.string s)],fun us=>∃v:aj,bD v.n/\us=bV v]) underlying44 jG ⟨Ah jG,Ah jG,A6 jG,A6 jG,OA,trivial⟩).mono (by rintro us ⟨_,_,⟨a,ha,rfl⟩,⟨_,_,⟨b,hb,rfl⟩,⟨_,_,⟨c,rfl⟩,⟨_,_,⟨d,rfl⟩,⟨_,_,⟨e,he,rfl⟩,rfl,rfl⟩,rfl⟩,rfl⟩,rfl⟩,rfl⟩;exact⟨⟨a,b,c,d,e⟩,⟨(JM ha).1,(JM ha).2,Bh hb,he⟩,rfl⟩)
def PD:oJ prog 22 (fun us=>∃a:AV,(∃l:List nj,(∀x∈l,OR x)/\a=aP iq 7 l)/\us=[a]):=
 (Kq (ok:=OR) (encA:=iq) (sz:=7) underlying22 jG jC M5 (fun a=>rfl)).mono (by rintro us ⟨l,⟨hl,_⟩,rfl⟩;exact⟨_,⟨l,hl,rfl⟩,rfl⟩)
set_option maxRecDepth 100000 in
theorem LY{T:Type}{enc:UJ×Value->T}{w:World}{v:Value}{d:DataW T}{ps:List MemPlace}{base:Nat}(hv:Value.okWide prog w .any base 22 v)(h:DataW.Trod enc prog w 0 (fun _=>true) true 22 v d ps):∃l:List nj,(∀x∈l,OR x)/\ax (n0 w) (aP iq 7 l) v:=by
 have hc:v.cells.toList=[v]:=by unfold Value.okWide at hv;rw[underlying22]at hv;cases v<;>first|rfl|(simp[Cell.okWide,Cell.ok,underlying22]at hv)
 obtain⟨a,⟨l,hl,rfl⟩,hr⟩:=Kk PD hc h;exact⟨l,hl,hr⟩
def Ig(x:String×DataW Unit):Bool:=match x.2 with
 |.agg (.lit (.int .u64 _)::_)=>true
 |_=>false
def NZ {l : List (String × DataW Unit)} {W : World} (e : (l.filter fun x => x.2.handleName?.isNone).filter Ig = [("internal/strconv.uint64pow10", Lib.tabData .u64 Lib.pow10Tab)]) (h : laidMetH prog l W) : ku (n0 W) := by
 have h1:=(laidMetH_iff.1 h).1.filter Ig;rw[e]at h1;have ht:=Lib.tabIs_of_head (g:=0) (t:=262) (e:=249) (n:=20) jG jG jG jG jG jG h1;intro g vs hm;unfold A2 at hm;rw[List.mem_singleton]at hm;cases hm;refine⟨?_,fun h=>h⟩;unfold Lib.TabIs World.var? at ht
 rw [show prog.globalNamed "internal/strconv.uint64pow10" = some 0 by kernel_rfl] at ht;simp only[Option.bind_some]at ht;show(∃cur el fr,W.heap[0]?=some (.cells cur el fr)/\cur.toList=_);split at ht
 ·rename_i cs el fr hq;refine⟨cs,el,fr,hq,?_⟩;rw[Option.some.inj ht]
 ·cases ht
end Go.Proofs.YtijdhbokcdpklaaGreatDoor