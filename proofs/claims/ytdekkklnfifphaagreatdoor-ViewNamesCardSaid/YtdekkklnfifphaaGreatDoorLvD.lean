/- The law ViewAll: what it says is so. The arguments of the laws of view and of source, as they are read; what is laid. No conditions. -/
import Derived.Test.YtdekkklnfifphaaGreatDoorLvS
import Derived.Test.YtdekkklnfifphaaGreatDoorGdQ
import Derived.Test.YtdekkklnfifphaaGreatDoorRows
import Derived.LaidSub
import Derived.Lib.LaidTab
set_option linter.all false
namespace Go.Proofs.YtdekkklnfifphaaGreatDoor
open Go Go.Gd
set_option maxHeartbeats 4000000
set_option maxRecDepth 10000
theorem jtZ {a:Int} (h:0≤a∧a < 256):∃ n:Nat,n≤1000∧a.tmod 81=(n:Int):=by
 refine ⟨(a.tmod 81).toNat,?_,?_⟩<;>(rw [Int.tmod_eq_emod_of_nonneg h.1];omega)
theorem jr4 (s:ByteArray) (inp:List Int) (a b:Int) (hi:∀ x∈inp,rng x) (ha:0≤a∧a < 256) (hb:0≤b∧b < 256):PCall Tryz.prog 5 [rS s,jaI eI 1 inp,.agg [.raw (.int .u8 a),.raw (.int .u8 b)]] (rB true):=by
 have hs:=joq (jg6 s) (jph s)
 have hok:=@jzK (jg6 s)
 obtain ⟨n,hn,ea⟩:=jtZ ha
 obtain ⟨m,hm,eb⟩:=jtZ hb
 generalize jaP (jg6 s)=R at hs hok
 obtain ⟨p,x,e⟩:=R
 simp only at hs hok
 by_cases he:e=0
 ·have hp:=hok he
  have hr1:=jrr hp.s (jsZ inp) (jj2 _) (jj3 hi) n (by omega)
  have hr2:=jrr hp.s (jsZ inp) (jj2 _) (jj3 hi) m (by omega)
  have o1:=jwf hp.s hp.fn hp.nm (jj2 inp) (jj3 hi) n
  have o2:=jwf hp.s hp.fn hp.nm (jj2 inp) (jj3 hi) m
  generalize joh p (jsZ inp) n=s1 at *
  generalize joh p (jsZ inp) m=s2 at *
  have h1:=o1.src
  have h2:=o2.shot
  have h3:=o2.of_
  have h4:=o1.src2
  have h5:=o2.src2
  have h6:=o1.lines
  have h7:=o1.lines2
  have v1:=o1.view
  have v2:=o2.view
  clear o1 o2
  generalize ofV p (jcJ p s1)=w1 at *
  generalize ofV p (jcJ p s2)=w2 at *
  generalize jcJ p s2=z2 at *
  have hll:(jbU w1).length≤1000000000:=by have:=v1.calls;have:=v1.outs;unfold jbU;simp;omega
  have hc1:∀ c∈w1.calls,c.vars.length≤100000:=fun c hc=>(v1.call c hc).1
  have hc2:∀ c∈w2.calls,c.vars.length≤100000:=fun c hc=>(v2.call c hc).1
  have g1:=jkr w1 w1 v1.outs v1.calls hc1
  have g2:=jkr w2 w2 v2.outs v2.calls hc2
  have g3:=jkr w1 w2 v1.outs v1.calls hc1
  have g4:=jlT (jbU w1) (jbU w1) hll
  have g5:=juv w1 w2 (by have:=v1.calls;omega) (fun c hc=>by have:=hc1 c hc;omega) (by have:=v1.outs;omega)
  have g6:=juv w1 w1 (by have:=v1.calls;omega) (fun c hc=>by have:=hc1 c hc;omega) (by have:=v1.outs;omega)
  rw [decide_eq_true rfl] at g1 g2 g4 g6
  generalize jbU w1=L1 at *
  refine jbO Tryz.func5 Tryz.ntmps5 ?_
  (have W:=And.intro he (And.intro ea (eb));repeat' (first|refine jaa fun K hK=>?_|refine wkA ?_|(with_reducible refine gR 9 ?_);refine dC 9 ([],[],[52,53]) [5] [0,1,2,3,4,5,6] mixed ?_|(with_reducible refine gR 10 ?_);refine dC 10 ([],[57,58],[]) [] [0,1,2,3,4,5] mixed ?_|(with_reducible refine gR 11 ?_);refine dC 11 ([],[62,63],[]) [] [0,1,2,3,4,5] mixed ?_|(with_reducible refine gR 12 ?_);refine dC 12 ([],[65,67,68],[]) [] [0,1,2,3,4,5] mixed ?_|(refine hK _ _ ?_;clear hK K)|(refine jad (fun hc=>?_) (fun hc=>?_)<;>first | contradiction | (exfalso;omega) | skip)|refine cp (jrv) ?_|refine cp (jru _) ?_|refine cp (hs) ?_|refine cp (js0 _) ?_|refine cp (hr1) ?_|refine cp (hr2) ?_|refine cp (h1) ?_|(refine cN h2 ?_)|(refine cN h3 ?_)|refine cq (h4) ?_|refine cq (h5) ?_|refine cq (h6) ?_|refine cq (h7) ?_|refine cq (g1) ?_|refine cq (g2) ?_|refine cp (g3) ?_|refine cq (g4) ?_|refine cq (g5) ?_|(first | refine cg (g6) ?_ | refine cg' (g6) ?_)|refine wkB ?_|exact True.intro|(clear hK K)));all_goals (try clear W)
  (refine jaU [.tmp 6] ?_;try simp only [go_sem])
  show AV.raw _=rB true
  rw [beq_self_eq_true]
 ·refine jbO Tryz.func5 Tryz.ntmps5 ?_
  (have W:=he;repeat' (first|refine jaa fun K hK=>?_|refine wkA ?_|(refine hK _ _ ?_;clear hK K)|(refine jad (fun hc=>?_) (fun hc=>?_)<;>first | contradiction | (exfalso;omega) | skip)|refine cp (jrv) ?_|refine cp (jru _) ?_|refine cp (hs) ?_|refine wkB ?_|exact True.intro|(clear hK K)));all_goals (try clear W)
  (refine jaU [.tmp 6] ?_;try simp only [go_sem])
end Go.Proofs.YtdekkklnfifphaaGreatDoor
namespace Go.Proofs.YtdekkklnfifphaaGreatDoor
open Go Go.Gd Go.ChangeShapes Go.WideShapes Go.ChangeAt Go.RowKit
theorem jtk:ownKnob Tryz.prog.godebug=none:=by kernel_rfl
theorem jqt:laidOutB Tryz.prog=true:=by kernel_rfl
theorem j8p {n:Int} (h:(Lit.int .i64 n).wf=true):-9223372036854775808≤n∧n≤9223372036854775807:=by
 have h1:IntKind.i64.min=-9223372036854775808:=by decide
 have h2:IntKind.i64.max=9223372036854775807:=by decide
 simp [Lit.wf,h1,h2] at h
 omega
theorem wf8 {n:Int} (h:(Lit.int .u8 n).wf=true):0≤n∧n < 256:=by
 have h1:IntKind.u8.min=0:=by decide
 have h2:IntKind.u8.max=255:=by decide
 simp [Lit.wf,h1,h2] at h
 omega
theorem jsK:Dec Tryz.prog 22 (fun us=>∃ a:AV,(∃ l:List Int,(∀ x∈l,rng x)∧a=jaI eI 1 l)∧us=[a]):=
 (jp5 (ok:=rng) (encA:=eI) (sz:=1) Tryz.underlying22 (by kernel_rfl) (by decide) ((ju7 (k:=.i64) (by kernel_rfl)).mono (by rintro us ⟨n,hn,rfl⟩;exact ⟨n,j8p hn,rfl⟩)) (fun a=>rfl)).mono (by
  rintro us ⟨l,⟨hl,_⟩,rfl⟩
  exact ⟨_,⟨l,hl,rfl⟩,rfl⟩)
set_option maxRecDepth 100000 in
theorem jss {T:Type} {enc:TypeId×Value→T} {w:World} {v:Value} {d:DataW T} {ps:List MemPlace} {base:Nat} (hv:Value.okWide Tryz.prog w .any base 22 v) (h:DataW.Trod enc Tryz.prog w 0 (fun _=>true) true 22 v d ps):∃ l:List Int,(∀ x∈l,rng x)∧RelV (n0 w) (jaI eI 1 l) v:=by
 have hc:v.cells.toList=[v]:=by
  unfold Value.okWide at hv
  rw [Tryz.underlying22] at hv
  cases v<;>first | rfl | (simp [Cell.okWide,Cell.ok,Tryz.underlying22] at hv)
 obtain ⟨a,⟨l,hl,rfl⟩,hr⟩:=juT jsK hc h
 exact ⟨l,hl,hr⟩
def jy6 (x:String×DataW Unit):Bool:=match x.2 with
 | .agg (.lit (.int .u64 _)::_)=>true
 | _=>false
theorem jqk {l:List (String×DataW Unit)} {W:World} (hl:l=Rows.viewAllRow.laid) (h:laidMetH Tryz.prog l W):Glob (n0 W):=by
 subst hl
 have h1:=(laidMetH_iff.1 h).1.filter jy6
 have e : ((Rows.viewAllRow.laid.filter fun x => x.2.handleName?.isNone).filter jy6) = [("internal/strconv.uint64pow10", Lib.tabData .u64 Lib.pow10Tab)] := by kernel_rfl
 rw [e] at h1
 have ht:=Lib.tabIs_of_head (g:=0) (t:=208) (e:=192) (n:=20) (by kernel_rfl) (by kernel_rfl) (by kernel_rfl) (by kernel_rfl) (by kernel_rfl) (by kernel_rfl) h1
 intro g vs hm
 unfold jvD at hm
 rw [List.mem_singleton] at hm
 cases hm
 refine ⟨?_,fun h=>h⟩
 unfold Lib.TabIs World.var? at ht
 rw [show Tryz.prog.globalNamed "internal/strconv.uint64pow10" = some 0 by kernel_rfl] at ht
 simp only [Option.bind_some] at ht
 show (∃ cur el fr,W.heap[0]?=some (.cells cur el fr)∧cur.toList=_)
 split at ht
 ·rename_i cs el fr hq
  refine ⟨cs,el,fr,hq,?_⟩
  rw [Option.some.inj ht]
 ·cases ht
end Go.Proofs.YtdekkklnfifphaaGreatDoor
