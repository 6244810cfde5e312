/- Lemmas. No conditions. -/
import Derived.Test.YtjpcgmjaipfgdaaGreatDoorSoS
set_option linter.all false
set_option maxHeartbeats 4000000
set_option maxRecDepth 10000
namespace Go.Gd
open Go
def SO{P:U3}{f:FuncId}{args:US}{r:AV}(cH:U1)(v:Value)(ha:args=cH.map .raw)(hr:∀w:NW,aw w r v)(h:∀w:NW,l7 w->Calls P f cH.toArray w.toWorld fun e w'=>e=.returned v/\RowKit.Below w.heap.size w.toWorld w'):aL P f args r:=by
 intro w vs h1 h2;have V':vs=cH.toArray:=by
  apply Array.ext';apply List.ext_getElem?;intro i;obtain⟨hl,hv⟩:=h2;subst ha;by_cases hi:i<cH.length
  ·have Wx:i<vs.size:=by rw[<-hl];simpa using hi
   have:=cZ (hv i (.raw cH[i]) vs[i] (by simp[hi]) (by simp[Wx]));simp[hi,Wx,this]
  ·have Wx:¬i<vs.size:=by rw[<-hl];simpa using hi
   rw[List.getElem?_eq_none (by simpa using Wx),List.getElem?_eq_none (by simpa using hi)]
 subst V';refine(h w h1.bY).mono ?_;rintro e W ⟨rfl,hb⟩;have ex:Ext w (entry []) (w.to W) (entry []):={ size:=hb.size,free:=fun b VM hO=>⟨hb.block b VM,hO⟩,names:=fun _ _ _ _ h=>h,os:=hb.os,tape:=hb.tape,output:=hb.output,rest:=fun b VM hO Vd=>⟨hb.block b VM,hO,Vd⟩,base:=rfl };refine⟨v,r,entry [],w.to W,rfl,rfl,⟨rfl,rfl⟩,{ rows:=fun i row hi=>(by cases hi),dt:=h1.dt,inj:=h1.inj,own:=h1.own,bY:=h1.bY.aU ex.toKeep,fin:=fun b VM=>Nat.lt_of_lt_of_le (h1.fin b VM) hb.size },hr _,ex.qA⟩
def SC(p:ah)(k:Int):fT:=⟨(nth p.aa.ak k.toNat).body,0⟩
def NL(p:ah)(fn:Int)(args:List aj)(n:Nat):UR:=[(gG 1 n,.aD 393 2 ([SC p fn].map uk)),(gG 0 n,.aD 54 3 ((Bv p fn args).slots.map bW))]
def Oc(p:ah)(fn:Int)(args:List aj)(n:Nat):US:=[.raw (.int .i64 fn),.rs (gG 0 n) (Bv p fn args).slots.length 3 (Bv p fn args).slots.length,.rs (gG 1 n) 1 2 1]
end Go.Gd
namespace Go.Proofs.YtjpcgmjaipfgdaaGreatDoor
open Go Go.Gd Tryz
abbrev rV(v:aj):AV:=.agg (bW v)
structure xI(p:ah)(s:gA):Prop where
 inv:BI p (RS.of s)
 ai:s.status≠2->IC p (RS.of s).CI
 cells:gz s.heap<=40
 outs:s.aS.length<=24
 nV:0<=s.in_
 og:s.in_<=1000
def um(n:Int):aL prog 204 [rI n] (rV (vI n)):=by
 refine dG func204 ntmps204 ?_
 (repeat' (first|refine au fun K hK=>?_|refine aq ?_|(refine hK _ _ ?_;clear hK K)|(refine ar ?_ ?_<;>intro hc<;>try exact jz)|refine av ?_|exact jI|(clear hK K)))
 (refine bu [.cell 2 54] ?_;try simp only[go_sem])
 rfl
def Ao(t:Int):aL prog 219 [rI t] (rV (vZ t)):=by
 refine dG func219 ntmps219 ?_
 (repeat' (first|refine au fun K hK=>?_|refine aq ?_|(refine hK _ _ ?_;clear hK K)|(refine ar ?_ ?_<;>intro hc<;>try exact jz)|refine av ?_|exact jI|(clear hK K)))
 (refine bu [.cell 2 54] ?_;try simp only[go_sem])
 rfl
def yq(b:Bool):aL prog 205 [rB b] (rV (vB b)):=by
 refine dG func205 ntmps205 ?_
 (repeat' (first|refine au fun K hK=>?_|refine aq ?_|(refine hK _ _ ?_;clear hK K)|(refine ar ?_ ?_<;>intro hc<;>try exact jz)|refine cp (Ao _) ?_|refine av ?_|exact jI|(clear hK K)))
 all_goals(refine bu [.cell 2 54] ?_;try simp only[go_sem])
 all_goals simp_all [vB,vZ]
def DT(s:UX):aL prog 206 [rS s] (rV (vT s)):=by
 refine dG func206 ntmps206 ?_
 (repeat' (first|refine au fun K hK=>?_|refine aq ?_|(refine hK _ _ ?_;clear hK K)|(refine ar ?_ ?_<;>intro hc<;>try exact jz)|refine av ?_|exact jI|(clear hK K)))
 (refine bu [.cell 2 54] ?_;try simp only[go_sem])
 rfl
def vO(v:aj):aL prog 124 [rV v] (rB (lS v)):=by
 refine dG func124 ntmps124 ?_
 (repeat' (first|refine au fun K hK=>?_|refine aq ?_|(refine hK _ _ ?_;clear hK K)|(refine ar ?_ ?_<;>intro hc<;>try exact jz)|refine av ?_|exact jI|(clear hK K)))
 all_goals(refine bu [.tmp 2] ?_;try simp only[go_sem])
 all_goals(unfold lS;(repeat' split)<;>first|rfl|omega|(exfalso;simp_all;done)|skip)
 all_goals(refine Uc ?_;by_cases hs:v.s=sE<;>simp[hs]<;>omega)
def zB(g:UX)(a b:Int):aj×Int:=if g=(⟨#[60]⟩:UX)then(vB (decide (a<b)),0)else if g=(⟨#[60,61]⟩:UX)then(vB (decide (a<=b)),0)else(v0,0)
def NN(g:UX)(a b:Int):aL prog 262 [rS g,rI a,rI b] (.aY [rV (zB g a b).1,rI (zB g a b).2]):=by
 refine dG func262 ntmps262 ?_
 (repeat' (first|refine au fun K hK=>?_|refine aq ?_|(refine hK _ _ ?_;clear hK K)|(refine ar ?_ ?_<;>intro hc<;>try exact jz)|refine cp (yq _) ?_|refine av ?_|exact jI|(clear hK K)))
 all_goals(refine bu [.cell 6 54,.tmp 7] ?_;try simp only[go_sem])
 all_goals(unfold zB;(repeat' split)<;>first|rfl|omega|(exfalso;simp_all;done)|(simp_all [bW,vB];done)|(exfalso;simp_all;omega)|skip)
def Tm(g:UX)(a b:Int):aL prog 242 [rS g,rI a,rI b] (.aY [rV (v6 g a b).1,rI (v6 g a b).2]):=by
 refine dG func242 ntmps242 ?_
 (repeat' (first|refine au fun K hK=>?_|refine aq ?_|(refine hK _ _ ?_;clear hK K)|(refine ar ?_ ?_<;>intro hc<;>try exact jz)|refine cp (um _) ?_|refine cp (NN _ _ _) ?_|refine av ?_|exact jI|(clear hK K)))
 all_goals(refine bu [.cell 6 54,.tmp 7] ?_;try simp only[go_sem])
 all_goals(try unfold zB)
 all_goals(unfold v6;(repeat' split)<;>first|rfl|omega|(exfalso;simp_all;done)|(simp_all [bW,vB];done)|(exfalso;simp_all;omega)|skip)
def yT(g:UX)(a b:Bool):aj×Int:=if g=(⟨#[124,124]⟩:UX)then(vB (a || b),0)else if g=(⟨#[38,38]⟩:UX)then(vB (a && b),0)else(v0,0)
def Ou(g:UX)(a b:Bool):aL prog 243 [rS g,rB a,rB b] (.aY [rV (yT g a b).1,rI (yT g a b).2]):=by
 refine dG func243 ntmps243 ?_
 (repeat' (first|refine au fun K hK=>?_|refine aq ?_|(refine hK _ _ ?_;clear hK K)|(refine ar ?_ ?_<;>intro hc<;>try exact jz)|refine cp (yq _) ?_|refine av ?_|exact jI|(clear hK K)))
 all_goals(refine bu [.cell 6 54,.tmp 7] ?_;try simp only[go_sem])
 all_goals(unfold yT;(repeat' split)<;>first|rfl|omega|(exfalso;simp_all;done)|(simp_all [bW,vB];done)|(exfalso;simp_all;omega)|skip)
def zt(g a b:UX):aj×Int:=if g=(⟨#[43]⟩:UX)then(if(a.size:Int)+b.size>40 then(v0,6)else(vT (a++b),0))else(v0,0)
def Pu(g a b:UX)(ha:a.size<=1000000)(hb:b.size<=1000000):aL prog 244 [rS g,rS a,rS b] (.aY [rV (zt g a b).1,rI (zt g a b).2]):=by
 refine dG func244 ntmps244 ?_
 (repeat' (first|refine au fun K hK=>?_|refine aq ?_|(refine hK _ _ ?_;clear hK K)|(refine ar ?_ ?_<;>intro hc<;>try exact jz)|refine cp (DT _) ?_|refine av ?_|exact jI|(clear hK K)))
 all_goals(refine bu [.cell 6 54,.tmp 7] ?_;try simp only[go_sem])
 all_goals(unfold zt;(repeat' split)<;>first|rfl|omega|(exfalso;simp_all;done)|(simp_all [bW,vB];done)|(exfalso;simp_all;omega)|skip)
def Qm(g:UX)(a b:aj)(ha:a.s.size<=1000000)(hb:b.s.size<=1000000):aL prog 210 [rS g,rV a,rV b] (.aY [rV (qD g a b).1,rI (qD g a b).2]):=by
 refine dG func210 ntmps210 ?_
 (repeat' (first|refine au fun K hK=>?_|refine aq ?_|(refine hK _ _ ?_;clear hK K)|(refine ar ?_ ?_<;>intro hc<;>try exact jz)|refine cp (yq _) ?_|refine cp (Tm _ _ _) ?_|refine cp (Ou _ _ _) ?_|refine cp (Pu _ _ _ ha hb) ?_|refine av ?_|exact jI|(clear hK K)))
 all_goals(refine bu [.cell 6 54,.tmp 7] ?_;try simp only[go_sem])
 all_goals(try unfold yT);all_goals(try unfold zt)
 all_goals(unfold qD;(repeat' split)<;>first|rfl|omega|(exfalso;simp_all;done)|(simp_all [bW,vB];done)|(exfalso;simp_all;omega)|skip)
def S9(g:UX)(a:aj):aL prog 211 [rS g,rV a] (rV (nj g a)):=by
 refine dG func211 ntmps211 ?_
 (repeat' (first|refine au fun K hK=>?_|refine aq ?_|(refine hK _ _ ?_;clear hK K)|(refine ar ?_ ?_<;>intro hc<;>try exact jz)|refine cp (yq _) ?_|refine cp (um _) ?_|refine av ?_|exact jI|(clear hK K)))
 all_goals(refine bu [.cell 4 54] ?_;try simp only[go_sem])
 all_goals(unfold nj;(repeat' split)<;>first|rfl|omega|(exfalso;simp_all;done)|(simp_all [bW,vB];done)|(exfalso;simp_all;omega)|skip)
abbrev NF(l:List aj):AV:=aO bW 3 l
abbrev z8(h:UT):AV:=aO pM 1 h
def L8 (w : NW) (hg : l7 w) : Lib.TabIs prog w.toWorld "internal/strconv.uint64pow10" .u64 Lib.pow10Tab := by
 obtain⟨⟨cur,el,fr,h1,h2⟩,_⟩:=hg 0 (Lib.pow10Tab.map (Value.int .u64)) (by unfold By;simp);unfold Lib.TabIs World.var?
 rw [show prog.globalNamed "internal/strconv.uint64pow10" = some 0 by kernel_rfl];simp only[Option.bind_some,h1,Option.some.injEq];apply Array.ext';simpa using h2
def qZ(n:Int)(h:bG n):aL prog 82 [rI n] (rS (cA n)):=by
 refine SO [.int .i64 n] (.string (cA n)) rfl (fun w=>.raw _) fun w hg=>?_
 refine(Tryz.strconv_Itoa n h.1 h.2 w.toWorld (L8 w hg)).mono ?_;rintro e W ⟨rfl,k,os,rfl⟩;refine⟨rfl,⟨rfl,rfl,rfl,?_,fun b hb=>?_⟩⟩
 ·show w.heap.size<=(w.heap++os).size;simp
 ·show(w.heap++os)[b]?=w.heap[b]?;rw[Array.getElem?_append_left hb]
def Ly(b:Bool):aL prog 245 [rB b] (rS (if b=true then(⟨#[116,114,117,101]⟩:UX)else(⟨#[102,97,108,115,101]⟩:UX))):=by
 refine F0 [.bool b] (.string (if b=true then(⟨#[116,114,117,101]⟩:UX)else(⟨#[102,97,108,115,101]⟩:UX))) rfl (fun w=>.raw _) fun w=>?_
 refine(Tryz.strconv_FormatBool b w).mono ?_;rintro e W ⟨rfl,rfl⟩;refine⟨?_,RowKit.Below.refl _ _⟩;cases b<;>rfl
def FZ(v:aj)(h:bG v.n):aL prog 220 [rV v] (rS (lm v)):=by
 refine dG func220 ntmps220 ?_
 (repeat' (first|refine au fun K hK=>?_|refine aq ?_|(refine hK _ _ ?_;clear hK K)|(refine ar ?_ ?_<;>intro hc<;>try exact jz)|refine cp (qZ _ h) ?_|refine cp (Ly _) ?_|refine av ?_|exact jI|(clear hK K)))
 all_goals(refine bu [.tmp 2] ?_;try simp only[go_sem])
 all_goals(unfold lm;(repeat' split)<;>first|rfl|omega|contradiction|(simp_all;done)|skip)
attribute [go_sem] NL Oc
end Go.Proofs.YtjpcgmjaipfgdaaGreatDoor