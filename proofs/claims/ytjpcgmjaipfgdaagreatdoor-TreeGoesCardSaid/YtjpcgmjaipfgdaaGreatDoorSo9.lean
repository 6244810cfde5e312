/- Lemmas. No conditions. -/
import Derived.Test.YtjpcgmjaipfgdaaGreatDoorSoS
set_option linter.all false
set_option maxHeartbeats 4000000
set_option maxRecDepth 10000
namespace Go.Gd
open Go
def JX{P:TL}{f:FuncId}{args:TB}{r:AV}(cF:TJ)(v:Value)(ha:args=cF.map .raw)(hr:∀w:NW,aw w r v)(h:∀w:NW,j5 w->Calls P f cF.toArray w.toWorld fun e w'=>e=.returned v/\RowKit.Below w.heap.size w.toWorld w'):aB P f args r:=by
 intro w vs h1 h2;have VG:vs=cF.toArray:=by
  apply Array.ext';apply List.ext_getElem?;intro i;obtain⟨hl,hv⟩:=h2;subst ha;by_cases hi:i<cF.length
  ·have U7:i<vs.size:=by rw[<-hl];simpa using hi
   have:=db (hv i (.raw cF[i]) vs[i] (by simp[hi]) (by simp[U7]));simp[hi,U7,this]
  ·have U7:¬i<vs.size:=by rw[<-hl];simpa using hi
   rw[List.getElem?_eq_none (by simpa using U7),List.getElem?_eq_none (by simpa using hi)]
 subst VG;refine(h w h1.bO).mono ?_;rintro e W ⟨rfl,hb⟩;have ex:Ext w (entry []) (w.to W) (entry []):={ size:=hb.size,free:=fun b T5 hO=>⟨hb.block b T5,hO⟩,names:=fun _ _ _ _ h=>h,os:=hb.os,tape:=hb.tape,output:=hb.output,rest:=fun b T5 hO Te=>⟨hb.block b T5,hO,Te⟩,base:=rfl };refine⟨v,r,entry [],w.to W,rfl,rfl,⟨rfl,rfl⟩,{ rows:=fun i row hi=>(by cases hi),cU:=h1.cU,inj:=h1.inj,own:=h1.own,bO:=h1.bO.aU ex.toKeep,fin:=fun b T5=>Nat.lt_of_lt_of_le (h1.fin b T5) hb.size },hr _,ex.ph⟩
def Rk{P:TL}{fn:Func}{F:TB}{l0:TA}{out:TB}{e:Exit}{r:AV}{l:TA}(rs:List ResultVar)(hv:ku out=r)(hl:iH yG l0)(hq:(ku out).all (gU yG)=true)(h2:fz yG l0=l)(VI:fn.results.toList=rs:=by rfl)(he:e=.normal\/e=.ret:=by first|exact Or.inr rfl|exact Or.inl rfl|fail)
  (ho:ju P ⟨[],l0⟩ F rs=some out:=by first|(simp(disch:=first|omega|fail) only[go_sem,↓reduceIte,Nat.reduceEqDiff,Nat.reduceLeDiff,Nat.reduceSub,Nat.reduceAdd];rfl)|rfl) (hok:kF P ⟨[],l0⟩ F rs:=by first|exact jI|(simp(disch:=first|omega|fail) only[go_sem,↓reduceIte,Nat.reduceEqDiff,Nat.reduceLeDiff,Nat.reduceSub,Nat.reduceAdd])):lM P fn (fun r' l'=>r'=r/\l'=l) e F ⟨[],l0⟩:=by
 subst VI;exact Dc yG he ho hok rfl hl (zJ hv hq) h2
def Qm(p:af)(k:Int):fW:=⟨(nth p.aa.av k.toNat).body,0⟩
def Kf(p:af)(fn:Int)(args:List aj)(n:Nat):TA:=[(gB 1 n,.aF 393 2 ([Qm p fn].map tj)),(gB 0 n,.aF 54 3 ((CF p fn args).slots.map bS))]
def Pu(p:af)(fn:Int)(args:List aj)(n:Nat):TB:=[.raw (.int .i64 fn),.rs (gB 0 n) (CF p fn args).slots.length 3 (CF p fn args).slots.length,.rs (gB 1 n) 1 2 1]
end Go.Gd
namespace Go.Proofs.YtjpcgmjaipfgdaaGreatDoor
open Go Go.Gd Tryz
abbrev rV(v:aj):AV:=.agg (bS v)
structure xa(p:af)(s:gw):Prop where
 inv:Cm p (RS.of s)
 ah:s.status≠2->HM p (RS.of s).CI
 cells:gi s.heap<=40
 outs:s.bz.length<=24
 nB:0<=s.in_
 oA:s.in_<=1000
def tT(n:Int):aB prog 204 [rI n] (rV (vI n)):=by
 refine bM func204 ntmps204 ?_
 (repeat' (first|refine aq fun K hK=>?_|refine au ?_|(refine hK _ _ ?_;clear hK K)|(refine ap ?_ ?_<;>intro hc<;>try exact jz)|refine ar ?_|exact jI|(clear hK K)))
 (refine aZ [.cell 2 54] ?_;try simp only[go_sem])
 rfl
def AU(t:Int):aB prog 219 [rI t] (rV (vZ t)):=by
 refine bM func219 ntmps219 ?_
 (repeat' (first|refine aq fun K hK=>?_|refine au ?_|(refine hK _ _ ?_;clear hK K)|(refine ap ?_ ?_<;>intro hc<;>try exact jz)|refine ar ?_|exact jI|(clear hK K)))
 (refine aZ [.cell 2 54] ?_;try simp only[go_sem])
 rfl
def xA(b:Bool):aB prog 205 [rB b] (rV (vB b)):=by
 refine bM func205 ntmps205 ?_
 (repeat' (first|refine aq fun K hK=>?_|refine au ?_|(refine hK _ _ ?_;clear hK K)|(refine ap ?_ ?_<;>intro hc<;>try exact jz)|refine cp (AU _) ?_|refine ar ?_|exact jI|(clear hK K)))
 all_goals(refine aZ [.cell 2 54] ?_;try simp only[go_sem])
 all_goals simp_all [vB,vZ]
def ID(s:TF):aB prog 206 [rS s] (rV (vT s)):=by
 refine bM func206 ntmps206 ?_
 (repeat' (first|refine aq fun K hK=>?_|refine au ?_|(refine hK _ _ ?_;clear hK K)|(refine ap ?_ ?_<;>intro hc<;>try exact jz)|refine ar ?_|exact jI|(clear hK K)))
 (refine aZ [.cell 2 54] ?_;try simp only[go_sem])
 rfl
def uI(v:aj):aB prog 124 [rV v] (rB (lU v)):=by
 refine bM func124 ntmps124 ?_
 (repeat' (first|refine aq fun K hK=>?_|refine au ?_|(refine hK _ _ ?_;clear hK K)|(refine ap ?_ ?_<;>intro hc<;>try exact jz)|refine ar ?_|exact jI|(clear hK K)))
 all_goals(refine aZ [.tmp 2] ?_;try simp only[go_sem])
 all_goals(unfold lU;(repeat' split)<;>first|rfl|omega|(exfalso;simp_all;done)|skip)
 all_goals(refine Gk ?_;by_cases hs:v.s=sE<;>simp[hs]<;>omega)
def y9(g:TF)(a b:Int):aj×Int:=if g=(⟨#[60]⟩:TF)then(vB (decide (a<b)),0)else if g=(⟨#[60,61]⟩:TF)then(vB (decide (a<=b)),0)else(v0,0)
def Pm(g:TF)(a b:Int):aB prog 262 [rS g,rI a,rI b] (.aP [rV (y9 g a b).1,rI (y9 g a b).2]):=by
 refine bM func262 ntmps262 ?_
 (repeat' (first|refine aq fun K hK=>?_|refine au ?_|(refine hK _ _ ?_;clear hK K)|(refine ap ?_ ?_<;>intro hc<;>try exact jz)|refine cp (xA _) ?_|refine ar ?_|exact jI|(clear hK K)))
 all_goals(refine aZ [.cell 6 54,.tmp 7] ?_;try simp only[go_sem])
 all_goals(unfold y9;(repeat' split)<;>first|rfl|omega|(exfalso;simp_all;done)|(simp_all [bS,vB];done)|(exfalso;simp_all;omega)|skip)
def Me(g:TF)(a b:Int):aB prog 242 [rS g,rI a,rI b] (.aP [rV (vO g a b).1,rI (vO g a b).2]):=by
 refine bM func242 ntmps242 ?_
 (repeat' (first|refine aq fun K hK=>?_|refine au ?_|(refine hK _ _ ?_;clear hK K)|(refine ap ?_ ?_<;>intro hc<;>try exact jz)|refine cp (tT _) ?_|refine cp (Pm _ _ _) ?_|refine ar ?_|exact jI|(clear hK K)))
 all_goals(refine aZ [.cell 6 54,.tmp 7] ?_;try simp only[go_sem])
 all_goals(try unfold y9)
 all_goals(unfold vO;(repeat' split)<;>first|rfl|omega|(exfalso;simp_all;done)|(simp_all [bS,vB];done)|(exfalso;simp_all;omega)|skip)
def yK(g:TF)(a b:Bool):aj×Int:=if g=(⟨#[124,124]⟩:TF)then(vB (a || b),0)else if g=(⟨#[38,38]⟩:TF)then(vB (a && b),0)else(v0,0)
def PU(g:TF)(a b:Bool):aB prog 243 [rS g,rB a,rB b] (.aP [rV (yK g a b).1,rI (yK g a b).2]):=by
 refine bM func243 ntmps243 ?_
 (repeat' (first|refine aq fun K hK=>?_|refine au ?_|(refine hK _ _ ?_;clear hK K)|(refine ap ?_ ?_<;>intro hc<;>try exact jz)|refine cp (xA _) ?_|refine ar ?_|exact jI|(clear hK K)))
 all_goals(refine aZ [.cell 6 54,.tmp 7] ?_;try simp only[go_sem])
 all_goals(unfold yK;(repeat' split)<;>first|rfl|omega|(exfalso;simp_all;done)|(simp_all [bS,vB];done)|(exfalso;simp_all;omega)|skip)
def zj(g a b:TF):aj×Int:=if g=(⟨#[43]⟩:TF)then(if(a.size:Int)+b.size>40 then(v0,6)else(vT (a++b),0))else(v0,0)
def LO(g a b:TF)(ha:a.size<=1000000)(hb:b.size<=1000000):aB prog 244 [rS g,rS a,rS b] (.aP [rV (zj g a b).1,rI (zj g a b).2]):=by
 refine bM func244 ntmps244 ?_
 (repeat' (first|refine aq fun K hK=>?_|refine au ?_|(refine hK _ _ ?_;clear hK K)|(refine ap ?_ ?_<;>intro hc<;>try exact jz)|refine cp (ID _) ?_|refine ar ?_|exact jI|(clear hK K)))
 all_goals(refine aZ [.cell 6 54,.tmp 7] ?_;try simp only[go_sem])
 all_goals(unfold zj;(repeat' split)<;>first|rfl|omega|(exfalso;simp_all;done)|(simp_all [bS,vB];done)|(exfalso;simp_all;omega)|skip)
def L8(g:TF)(a b:aj)(ha:a.s.size<=1000000)(hb:b.s.size<=1000000):aB prog 210 [rS g,rV a,rV b] (.aP [rV (pV g a b).1,rI (pV g a b).2]):=by
 refine bM func210 ntmps210 ?_
 (repeat' (first|refine aq fun K hK=>?_|refine au ?_|(refine hK _ _ ?_;clear hK K)|(refine ap ?_ ?_<;>intro hc<;>try exact jz)|refine cp (xA _) ?_|refine cp (Me _ _ _) ?_|refine cp (PU _ _ _) ?_|refine cp (LO _ _ _ ha hb) ?_|refine ar ?_|exact jI|(clear hK K)))
 all_goals(refine aZ [.cell 6 54,.tmp 7] ?_;try simp only[go_sem])
 all_goals(try unfold yK);all_goals(try unfold zj)
 all_goals(unfold pV;(repeat' split)<;>first|rfl|omega|(exfalso;simp_all;done)|(simp_all [bS,vB];done)|(exfalso;simp_all;omega)|skip)
def Mo(g:TF)(a:aj):aB prog 211 [rS g,rV a] (rV (mL g a)):=by
 refine bM func211 ntmps211 ?_
 (repeat' (first|refine aq fun K hK=>?_|refine au ?_|(refine hK _ _ ?_;clear hK K)|(refine ap ?_ ?_<;>intro hc<;>try exact jz)|refine cp (xA _) ?_|refine cp (tT _) ?_|refine ar ?_|exact jI|(clear hK K)))
 all_goals(refine aZ [.cell 4 54] ?_;try simp only[go_sem])
 all_goals(unfold mL;(repeat' split)<;>first|rfl|omega|(exfalso;simp_all;done)|(simp_all [bS,vB];done)|(exfalso;simp_all;omega)|skip)
def PN (w : NW) (hg : j5 w) : Lib.TabIs prog w.toWorld "internal/strconv.uint64pow10" .u64 Lib.pow10Tab := by
 obtain⟨⟨cur,el,fr,h1,h2⟩,_⟩:=hg 0 (Lib.pow10Tab.map (Value.int .u64)) (by unfold CX;simp);unfold Lib.TabIs World.var?
 rw [show prog.globalNamed "internal/strconv.uint64pow10" = some 0 by kernel_rfl];simp only[Option.bind_some,h1,Option.some.injEq];apply Array.ext';simpa using h2
def RZ(n:Int)(h:cn n):aB prog 82 [rI n] (rS (Bx n)):=by
 refine JX [.int .i64 n] (.string (Bx n)) rfl (fun w=>.raw _) fun w hg=>?_
 refine(Tryz.strconv_Itoa n h.1 h.2 w.toWorld (PN w hg)).mono ?_;rintro e W ⟨rfl,k,os,rfl⟩;refine⟨rfl,⟨rfl,rfl,rfl,?_,fun b hb=>?_⟩⟩
 ·show w.heap.size<=(w.heap++os).size;simp
 ·show(w.heap++os)[b]?=w.heap[b]?;rw[Array.getElem?_append_left hb]
def Nz(b:Bool):aB prog 245 [rB b] (rS (if b=true then(⟨#[116,114,117,101]⟩:TF)else(⟨#[102,97,108,115,101]⟩:TF))):=by
 refine DE [.bool b] (.string (if b=true then(⟨#[116,114,117,101]⟩:TF)else(⟨#[102,97,108,115,101]⟩:TF))) rfl (fun w=>.raw _) fun w=>?_
 refine(Tryz.strconv_FormatBool b w).mono ?_;rintro e W ⟨rfl,rfl⟩;refine⟨?_,RowKit.Below.refl _ _⟩;cases b<;>rfl
def SC(v:aj)(h:cn v.n):aB prog 220 [rV v] (rS (mC v)):=by
 refine bM func220 ntmps220 ?_
 (repeat' (first|refine aq fun K hK=>?_|refine au ?_|(refine hK _ _ ?_;clear hK K)|(refine ap ?_ ?_<;>intro hc<;>try exact jz)|refine cp (RZ _ h) ?_|refine cp (Nz _) ?_|refine ar ?_|exact jI|(clear hK K)))
 all_goals(refine aZ [.tmp 2] ?_;try simp only[go_sem])
 all_goals(unfold mC;(repeat' split)<;>first|rfl|omega|contradiction|(simp_all;done)|skip)
attribute [go_sem] Kf Pu
end Go.Proofs.YtjpcgmjaipfgdaaGreatDoor