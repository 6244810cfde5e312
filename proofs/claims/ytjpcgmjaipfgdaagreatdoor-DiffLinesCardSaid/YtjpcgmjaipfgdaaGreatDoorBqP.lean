/- Lemmas. No conditions. -/
import Derived.Test.YtjpcgmjaipfgdaaGreatDoorDmH
import Derived.LaidSub
import Derived.Lib.LaidTab
set_option linter.all false
namespace Go.Proofs.YtjpcgmjaipfgdaaGreatDoor
open Go Go.Gd Tryz Go.ChangeShapes Go.WideShapes Go.ChangeAt Go.RowKit
def Lv:ownKnob prog.godebug=none:=jG
def Qx:laidOutB prog=true:=jG
def Bu{n:Int}(h:(Lit.int .i64 n).wf=true):-9223372036854775808<=n/\n<=9223372036854775807:=by have h1:IntKind.i64.min=-9223372036854775808:=jC;have h2:IntKind.i64.max=9223372036854775807:=jC;simp[Lit.wf,h1,h2]at h;omega
def Sl{n:Int}(h:(Lit.int .u8 n).wf=true):0<=n/\n<256:=by have h1:IntKind.u8.min=0:=jC;have h2:IntKind.u8.max=255:=jC;simp[Lit.wf,h1,h2]at h;omega
def Q9:nq prog 22 (fun us=>∃l:UU,(∀x∈l,bG x)/\us=[aO eI 1 l]):=
 (GS (ok:=bG) (encA:=eI) (sz:=1) underlying22 jG jC ((zg (k:=.i64) jG).mono (by rintro us ⟨n,hn,rfl⟩;exact⟨n,Bu hn,rfl⟩)) (fun a=>rfl)).mono (by rintro us ⟨l,⟨hl,_⟩,rfl⟩;exact⟨l,hl,rfl⟩)
def MD:nq prog 54 (fun us=>∃v:aj,bG v.n/\us=bW v):=
 (zh (Ss:=[fun us=>∃n:Int,(Lit.int .i64 n).wf=true/\us=[.raw (.int .i64 n)],fun us=>∃n:Int,(Lit.int .i64 n).wf=true/\us=[.raw (.int .i64 n)],fun us=>∃s:UX,us=[.raw (.string s)]]) underlying54 jG ⟨zg jG,zg jG,C4 jG,trivial⟩).mono (by rintro us ⟨_,_,⟨a,ha,rfl⟩,⟨_,_,⟨b,hb,rfl⟩,⟨_,_,⟨c,rfl⟩,rfl,rfl⟩,rfl⟩,rfl⟩;exact⟨⟨a,b,c⟩,Bu hb,rfl⟩)
def T1:nq prog 56 (fun us=>∃x:aP,(bG x.v.n/\bG x.at_)/\us=bQ x):=
 (zh (Ss:=[fun us=>∃n:Int,(Lit.int .i64 n).wf=true/\us=[.raw (.int .i64 n)],fun us=>∃s:UX,us=[.raw (.string s)],fun us=>∃v:aj,bG v.n/\us=bW v]) underlying56 jG ⟨zg jG,C4 jG,MD,trivial⟩).mono (by rintro us ⟨_,_,⟨a,ha,rfl⟩,⟨_,_,⟨b,rfl⟩,⟨_,_,⟨c,hc,rfl⟩,rfl,rfl⟩,rfl⟩,rfl⟩;exact⟨⟨a,b,c⟩,⟨hc,Bu ha⟩,rfl⟩)
def HI:nq prog 50 (fun us=>∃l:List aP,(∀x∈l,bG x.v.n/\bG x.at_)/\us=[aO bQ 5 l]):=
 (GS (ok:=fun x:aP=>bG x.v.n/\bG x.at_) (encA:=bQ) (sz:=5) underlying50 jG jC T1 (fun a=>rfl)).mono (by rintro us ⟨l,⟨hl,_⟩,rfl⟩;exact⟨l,hl,rfl⟩)
def Gf:nq prog 52 (fun us=>∃b:bo,BR b/\us=gr b):=
 (zh (Ss:=[fun us=>∃s:UX,us=[.raw (.string s)],fun us=>∃l:UU,(∀x∈l,bG x)/\us=[aO eI 1 l],fun us=>∃l:List aP,(∀x∈l,bG x.v.n/\bG x.at_)/\us=[aO bQ 5 l],fun us=>∃l:List aP,(∀x∈l,bG x.v.n/\bG x.at_)/\us=[aO bQ 5 l]]) underlying52 jG ⟨C4 jG,Q9,HI,HI,trivial⟩).mono (by rintro us ⟨_,_,⟨a,rfl⟩,⟨_,_,⟨b,hb,rfl⟩,⟨_,_,⟨c,hc,rfl⟩,⟨_,_,⟨d,hd,rfl⟩,rfl,rfl⟩,rfl⟩,rfl⟩,rfl⟩;exact⟨⟨a,b,c,d⟩,⟨hb,fun x hx=>(hc x hx).1,fun x hx=>(hd x hx).1⟩,rfl⟩)
def G3(x:String×DataW Unit):Bool:=match x.2 with
 |.agg (.lit (.int .u64 _)::_)=>true
 |_=>false
def OJ {l : List (String × DataW Unit)} {W : World} (e : (l.filter fun x => x.2.handleName?.isNone).filter G3 = [("internal/strconv.uint64pow10", Lib.tabData .u64 Lib.pow10Tab)]) (h : laidMetH prog l W) : l7 (n0 W) := by
 have h1:=(laidMetH_iff.1 h).1.filter G3;rw[e]at h1;have ht:=Lib.tabIs_of_head (g:=0) (t:=340) (e:=264) (n:=20) jG jG jG jG jG jG h1;intro g vs hm;unfold By at hm;rw[List.mem_singleton]at hm;cases hm;refine⟨?_,fun h=>h⟩;unfold Lib.TabIs World.var? at ht
 rw [show prog.globalNamed "internal/strconv.uint64pow10" = some 0 by kernel_rfl] at ht;simp only[Option.bind_some]at ht;show(∃cur el fr,W.heap[0]?=some (.cells cur el fr)/\cur.toList=_);split at ht
 ·rename_i cs el fr hq;refine⟨cs,el,fr,hq,?_⟩;rw[Option.some.inj ht]
 ·cases ht
end Go.Proofs.YtjpcgmjaipfgdaaGreatDoor