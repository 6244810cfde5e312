/- Lemmas. No conditions. -/
import Derived.Test.YtjpcgmjaipfgdaaGreatDoorTwT
import Derived.LaidSub
import Derived.Lib.LaidTab
set_option linter.all false
namespace Go.Proofs.YtjpcgmjaipfgdaaGreatDoor
open Go Go.Gd Tryz Go.ChangeShapes Go.WideShapes Go.ChangeAt Go.RowKit
def Pn:ownKnob prog.godebug=none:=jG
def Pp:laidOutB prog=true:=jG
def E5{n:Int}(h:(Lit.int .i64 n).wf=true):-9223372036854775808<=n/\n<=9223372036854775807:=by have h1:IntKind.i64.min=-9223372036854775808:=jC;have h2:IntKind.i64.max=9223372036854775807:=jC;simp[Lit.wf,h1,h2]at h;omega
def BC{n:Int}(h:(Lit.int .u8 n).wf=true):0<=n/\n<256:=by have h1:IntKind.u8.min=0:=jC;have h2:IntKind.u8.max=255:=jC;simp[Lit.wf,h1,h2]at h;omega
def Lc:nX prog 54 (fun us=>∃v:aj,cn v.n/\us=bS v):=
 (Ff (Ss:=[fun us=>∃n:Int,(Lit.int .i64 n).wf=true/\us=[.raw (.int .i64 n)],fun us=>∃n:Int,(Lit.int .i64 n).wf=true/\us=[.raw (.int .i64 n)],fun us=>∃s:TF,us=[.raw (.string s)]]) underlying54 jG ⟨yy jG,yy jG,B6 jG,trivial⟩).mono (by rintro us ⟨_,_,⟨a,ha,rfl⟩,⟨_,_,⟨b,hb,rfl⟩,⟨_,_,⟨c,rfl⟩,rfl,rfl⟩,rfl⟩,rfl⟩;exact⟨⟨a,b,c⟩,E5 hb,rfl⟩)
def NH:nX prog 93 (fun us=>∃o:mO,OR o/\us=ii o):=
 (Ff (Ss:=[fun us=>∃n:Int,(Lit.int .u8 n).wf=true/\us=[.raw (.int .u8 n)],fun us=>∃n:Int,(Lit.int .i64 n).wf=true/\us=[.raw (.int .i64 n)],fun us=>∃s:TF,us=[.raw (.string s)],fun us=>∃s:TF,us=[.raw (.string s)],fun us=>∃v:aj,cn v.n/\us=bS v]) underlying93 jG ⟨yy jG,yy jG,B6 jG,B6 jG,Lc,trivial⟩).mono (by rintro us ⟨_,_,⟨a,ha,rfl⟩,⟨_,_,⟨b,hb,rfl⟩,⟨_,_,⟨c,rfl⟩,⟨_,_,⟨d,rfl⟩,⟨_,_,⟨e,he,rfl⟩,rfl,rfl⟩,rfl⟩,rfl⟩,rfl⟩,rfl⟩;exact⟨⟨a,b,c,d,e⟩,⟨(BC ha).1,(BC ha).2,E5 hb,he⟩,rfl⟩)
def M8:nX prog 87 (fun us=>∃a:AV,(∃l:List mO,(∀x∈l,OR x)/\a=aM ii 7 l)/\us=[a]):=
 (OX (ok:=OR) (encA:=ii) (sz:=7) underlying87 jG jC NH (fun a=>rfl)).mono (by rintro us ⟨l,⟨hl,_⟩,rfl⟩;exact⟨_,⟨l,hl,rfl⟩,rfl⟩)
set_option maxRecDepth 100000 in
theorem Kk{T:Type}{enc:TG×Value->T}{w:World}{v:Value}{d:DataW T}{ps:List MemPlace}{base:Nat}(hv:Value.okWide prog w .any base 87 v)(h:DataW.Trod enc prog w 0 (fun _=>true) true 87 v d ps):∃l:List mO,(∀x∈l,OR x)/\aw (n0 w) (aM ii 7 l) v:=by
 have hc:v.cells.toList=[v]:=by unfold Value.okWide at hv;rw[underlying87]at hv;cases v<;>first|rfl|(simp[Cell.okWide,Cell.ok,underlying87]at hv)
 obtain⟨a,⟨l,hl,rfl⟩,hr⟩:=LZ M8 hc h;exact⟨l,hl,hr⟩
def C6(x:String×DataW Unit):Bool:=match x.2 with
 |.agg (.lit (.int .u64 _)::_)=>true
 |_=>false
def LX {l : List (String × DataW Unit)} {W : World} (e : (l.filter fun x => x.2.handleName?.isNone).filter C6 = [("internal/strconv.uint64pow10", Lib.tabData .u64 Lib.pow10Tab)]) (h : laidMetH prog l W) : j5 (n0 W) := by
 have h1:=(laidMetH_iff.1 h).1.filter C6;rw[e]at h1;have ht:=Lib.tabIs_of_head (g:=0) (t:=340) (e:=264) (n:=20) jG jG jG jG jG jG h1;intro g vs hm;unfold CX at hm;rw[List.mem_singleton]at hm;cases hm;refine⟨?_,fun h=>h⟩;unfold Lib.TabIs World.var? at ht
 rw [show prog.globalNamed "internal/strconv.uint64pow10" = some 0 by kernel_rfl] at ht;simp only[Option.bind_some]at ht;show(∃cur el fr,W.heap[0]?=some (.cells cur el fr)/\cur.toList=_);split at ht
 ·rename_i cs el fr hq;refine⟨cs,el,fr,hq,?_⟩;rw[Option.some.inj ht]
 ·cases ht
end Go.Proofs.YtjpcgmjaipfgdaaGreatDoor