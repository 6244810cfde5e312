/- Lemmas. No conditions. -/
import Derived.Test.YtjpcgmjaipfgdaaGreatDoorBqU
import Derived.LaidSub
import Derived.Lib.LaidTab
set_option linter.all false
namespace Go.Proofs.YtjpcgmjaipfgdaaGreatDoor
open Go Go.Gd Tryz Go.ChangeShapes Go.WideShapes Go.ChangeAt Go.RowKit
def Ca:ownKnob prog.godebug=none:=jG
def BC:laidOutB prog=true:=jG
def xg{n:Int}(h:(Lit.int .i64 n).wf=true):-9223372036854775808<=n/\n<=9223372036854775807:=by have h1:IntKind.i64.min=-9223372036854775808:=jC;have h2:IntKind.i64.max=9223372036854775807:=jC;simp[Lit.wf,h1,h2]at h;omega
def Uj:na prog 22 (fun us=>∃l:UY,(∀x∈l,bz x)/\us=[aM eI 1 l]):=
 (Iy (ok:=bz) (encA:=eI) (sz:=1) underlying22 jG jC ((wD (k:=.i64) jG).mono (by rintro us ⟨n,hn,rfl⟩;exact⟨n,xg hn,rfl⟩)) (fun a=>rfl)).mono (by rintro us ⟨l,⟨hl,_⟩,rfl⟩;exact⟨l,hl,rfl⟩)
def R0:na prog 54 (fun us=>∃v:aj,bz v.n/\us=bY v):=
 (yp (Ss:=[fun us=>∃n:Int,(Lit.int .i64 n).wf=true/\us=[.raw (.int .i64 n)],fun us=>∃n:Int,(Lit.int .i64 n).wf=true/\us=[.raw (.int .i64 n)],fun us=>∃s:U0,us=[.raw (.string s)]]) underlying54 jG ⟨wD jG,wD jG,yq jG,trivial⟩).mono (by rintro us ⟨_,_,⟨a,ha,rfl⟩,⟨_,_,⟨b,hb,rfl⟩,⟨_,_,⟨c,rfl⟩,rfl,rfl⟩,rfl⟩,rfl⟩;exact⟨⟨a,b,c⟩,xg hb,rfl⟩)
def Ju:na prog 56 (fun us=>∃x:aw,(bz x.v.n/\bz x.at_)/\us=bj x):=
 (yp (Ss:=[fun us=>∃n:Int,(Lit.int .i64 n).wf=true/\us=[.raw (.int .i64 n)],fun us=>∃s:U0,us=[.raw (.string s)],fun us=>∃v:aj,bz v.n/\us=bY v]) underlying56 jG ⟨wD jG,yq jG,R0,trivial⟩).mono (by rintro us ⟨_,_,⟨a,ha,rfl⟩,⟨_,_,⟨b,rfl⟩,⟨_,_,⟨c,hc,rfl⟩,rfl,rfl⟩,rfl⟩,rfl⟩;exact⟨⟨a,b,c⟩,⟨hc,xg ha⟩,rfl⟩)
def Ex:na prog 50 (fun us=>∃l:List aw,(∀x∈l,bz x.v.n/\bz x.at_)/\us=[aM bj 5 l]):=
 (Iy (ok:=fun x:aw=>bz x.v.n/\bz x.at_) (encA:=bj) (sz:=5) underlying50 jG jC Ju (fun a=>rfl)).mono (by rintro us ⟨l,⟨hl,_⟩,rfl⟩;exact⟨l,hl,rfl⟩)
def Pa:na prog 52 (fun us=>∃b:aE,BR b/\us=cr b):=
 (yp (Ss:=[fun us=>∃s:U0,us=[.raw (.string s)],fun us=>∃l:UY,(∀x∈l,bz x)/\us=[aM eI 1 l],fun us=>∃l:List aw,(∀x∈l,bz x.v.n/\bz x.at_)/\us=[aM bj 5 l],fun us=>∃l:List aw,(∀x∈l,bz x.v.n/\bz x.at_)/\us=[aM bj 5 l]]) underlying52 jG ⟨yq jG,Uj,Ex,Ex,trivial⟩).mono (by rintro us ⟨_,_,⟨a,rfl⟩,⟨_,_,⟨b,hb,rfl⟩,⟨_,_,⟨c,hc,rfl⟩,⟨_,_,⟨d,hd,rfl⟩,rfl,rfl⟩,rfl⟩,rfl⟩,rfl⟩;exact⟨⟨a,b,c,d⟩,⟨hb,fun x hx=>(hc x hx).1,fun x hx=>(hd x hx).1⟩,rfl⟩)
variable{ps:List MemPlace}
set_option maxRecDepth 100000 in
theorem DH{T:Type}{enc:U1×Value->T}{w:World}{v:Value}{d:DataW T}{base:Nat}(hv:Value.okWide prog w .any base 52 v)(h:DataW.Trod enc prog w 0 (fun _=>true) true 52 v d ps):∃b:aE,BR b/\ay (n0 w) (.agg (cr b)) v:=by obtain⟨us,⟨m,hm,rfl⟩,hr⟩:=Hw underlying52 Pa hv h;exact⟨m,hm,hr⟩
def La:na prog 58 (fun us=>∃j:iL,JR j/\us=gL j):=
 (yp (Ss:=[fun us=>∃s:U0,us=[.raw (.string s)],fun us=>∃x:aw,(bz x.v.n/\bz x.at_)/\us=bj x,fun us=>∃n:Int,(Lit.int .i64 n).wf=true/\us=[.raw (.int .i64 n)],fun us=>∃n:Int,(Lit.int .i64 n).wf=true/\us=[.raw (.int .i64 n)]]) underlying58 jG ⟨yq jG,Ju,wD jG,wD jG,trivial⟩).mono (by rintro us ⟨_,_,⟨a,rfl⟩,⟨_,_,⟨b,hb,rfl⟩,⟨_,_,⟨c,hc,rfl⟩,⟨_,_,⟨d,hd,rfl⟩,rfl,rfl⟩,rfl⟩,rfl⟩,rfl⟩;exact⟨⟨a,b,c,d⟩,⟨hb.2,hb.1,xg hc,xg hd⟩,rfl⟩)
set_option maxRecDepth 100000 in
theorem Cj{T:Type}{enc:U1×Value->T}{w:World}{v:Value}{d:DataW T}{base:Nat}(hv:Value.okWide prog w .any base 58 v)(h:DataW.Trod enc prog w 0 (fun _=>true) true 58 v d ps):∃j:iL,JR j/\ay (n0 w) (.agg (gL j)) v:=by obtain⟨us,⟨m,hm,rfl⟩,hr⟩:=Hw underlying58 La hv h;exact⟨m,hm,hr⟩
def KC(x:String×DataW Unit):Bool:=match x.2 with
 |.agg (.lit (.int .u64 _)::_)=>true
 |_=>false
def Bo {l : List (String × DataW Unit)} {W : World} (e : (l.filter fun x => x.2.handleName?.isNone).filter KC = [("internal/strconv.uint64pow10", Lib.tabData .u64 Lib.pow10Tab)]) (h : laidMetH prog l W) : kF (n0 W) := by
 have h1:=(laidMetH_iff.1 h).1.filter KC;rw[e]at h1;have ht:=Lib.tabIs_of_head (g:=0) (t:=340) (e:=264) (n:=20) jG jG jG jG jG jG h1;intro g vs hm;unfold DN at hm;rw[List.mem_singleton]at hm;cases hm;refine⟨?_,fun h=>h⟩;unfold Lib.TabIs World.var? at ht
 rw [show prog.globalNamed "internal/strconv.uint64pow10" = some 0 by kernel_rfl] at ht;simp only[Option.bind_some]at ht;show(∃cur el fr,W.heap[0]?=some (.cells cur el fr)/\cur.toList=_);split at ht
 ·rename_i cs el fr hq;refine⟨cs,el,fr,hq,?_⟩;rw[Option.some.inj ht]
 ·cases ht
end Go.Proofs.YtjpcgmjaipfgdaaGreatDoor