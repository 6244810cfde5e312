/- Lemmas. No conditions. -/
import Derived.Test.YtjpcgmjaipfgdaaGreatDoorSoS
set_option linter.all false
set_option maxHeartbeats 4000000
set_option maxRecDepth 10000
namespace Go.Gd
open Go
def M3{P:TO}{f:FuncId}{args:TE}{r:AV}(cC:TM)(v:Value)(ha:args=cC.map .raw)(hr:∀w:NW,ax w r v)(h:∀w:NW,jR w->Calls P f cC.toArray w.toWorld fun e w'=>e=.returned v/\RowKit.Below w.heap.size w.toWorld w'):aB P f args r:=by
 intro w vs h1 h2;have V2:vs=cC.toArray:=by
  apply Array.ext';apply List.ext_getElem?;intro i;obtain⟨hl,hv⟩:=h2;subst ha;by_cases hi:i<cC.length
  ·have Vt:i<vs.size:=by rw[<-hl];simpa using hi
   have:=dc (hv i (.raw cC[i]) vs[i] (by simp[hi]) (by simp[Vt]));simp[hi,Vt,this]
  ·have Vt:¬i<vs.size:=by rw[<-hl];simpa using hi
   rw[List.getElem?_eq_none (by simpa using Vt),List.getElem?_eq_none (by simpa using hi)]
 subst V2;refine(h w h1.bX).mono ?_;rintro e W ⟨rfl,hb⟩;have ex:Ext w (entry []) (w.to W) (entry []):={ size:=hb.size,free:=fun b Uq hO=>⟨hb.block b Uq,hO⟩,names:=fun _ _ _ _ h=>h,os:=hb.os,tape:=hb.tape,output:=hb.output,rest:=fun b Uq hO TS=>⟨hb.block b Uq,hO,TS⟩,base:=rfl };refine⟨v,r,entry [],w.to W,rfl,rfl,⟨rfl,rfl⟩,{ rows:=fun i row hi=>(by cases hi),df:=h1.df,inj:=h1.inj,own:=h1.own,bX:=h1.bX.aZ ex.toKeep,fin:=fun b Uq=>Nat.lt_of_lt_of_le (h1.fin b Uq) hb.size },hr _,ex.pG⟩
def Qe{P:TO}{fn:Func}{F:TE}{l0:TD}{out:TE}{e:Exit}{r:AV}{l:TD}(rs:List ResultVar)(hv:kG out=r)(hl:stay yt l0)(hq:(kG out).all (gV yt)=true)(h2:fv yt l0=l)(V5:fn.results.toList=rs:=by rfl)(he:e=.normal\/e=.ret:=by first|exact Or.inr rfl|exact Or.inl rfl|fail)
  (ho:jo P ⟨[],l0⟩ F rs=some out:=by first|(simp(disch:=first|omega|fail) only[go_sem,↓reduceIte,Nat.reduceEqDiff,Nat.reduceLeDiff,Nat.reduceSub,Nat.reduceAdd];rfl)|rfl) (hok:km P ⟨[],l0⟩ F rs:=by first|exact jI|(simp(disch:=first|omega|fail) only[go_sem,↓reduceIte,Nat.reduceEqDiff,Nat.reduceLeDiff,Nat.reduceSub,Nat.reduceAdd])):lu P fn (fun r' l'=>r'=r/\l'=l) e F ⟨[],l0⟩:=by
 subst V5;exact DG yt he ho hok rfl hl (yr hv hq) h2
def J7(p:af)(k:Int):fT:=⟨(nth p.aa.aw k.toNat).body,0⟩
def Rj(p:af)(fn:Int)(args:List aj)(n:Nat):TD:=[(gC 1 n,.aG 393 2 ([J7 p fn].map uB)),(gC 0 n,.aG 54 3 ((B2 p fn args).slots.map bS))]
def Nu(p:af)(fn:Int)(args:List aj)(n:Nat):TE:=[.raw (.int .i64 fn),.rs (gC 0 n) (B2 p fn args).slots.length 3 (B2 p fn args).slots.length,.rs (gC 1 n) 1 2 1]
end Go.Gd
namespace Go.Proofs.YtjpcgmjaipfgdaaGreatDoor
open Go Go.Gd Tryz
abbrev rV(v:aj):AV:=.agg (bS v)
structure wo(p:af)(s:gr):Prop where
 inv:CU p (RS.of s)
 ah:s.status≠2->IA p (RS.of s).BC
 cells:gi s.heap<=40
 outs:s.bA.length<=24
 n7:0<=s.in_
 oq:s.in_<=1000
def tx(n:Int):aB prog 204 [rI n] (rV (vI n)):=by
 refine bG func204 ntmps204 ?_
 (repeat' (first|refine aq fun K hK=>?_|refine ap ?_|(refine hK _ _ ?_;clear hK K)|(refine ao ?_ ?_<;>intro hc<;>try exact jz)|refine ar ?_|exact jI|(clear hK K)))
 (refine aY [.cell 2 54] ?_;try simp only[go_sem])
 rfl
def Bu(t:Int):aB prog 219 [rI t] (rV (vZ t)):=by
 refine bG func219 ntmps219 ?_
 (repeat' (first|refine aq fun K hK=>?_|refine ap ?_|(refine hK _ _ ?_;clear hK K)|(refine ao ?_ ?_<;>intro hc<;>try exact jz)|refine ar ?_|exact jI|(clear hK K)))
 (refine aY [.cell 2 54] ?_;try simp only[go_sem])
 rfl
def wB(b:Bool):aB prog 205 [rB b] (rV (vB b)):=by
 refine bG func205 ntmps205 ?_
 (repeat' (first|refine aq fun K hK=>?_|refine ap ?_|(refine hK _ _ ?_;clear hK K)|(refine ao ?_ ?_<;>intro hc<;>try exact jz)|refine cp (Bu _) ?_|refine ar ?_|exact jI|(clear hK K)))
 all_goals(refine aY [.cell 2 54] ?_;try simp only[go_sem])
 all_goals simp_all [vB,vZ]
def Dd(s:TI):aB prog 206 [rS s] (rV (vT s)):=by
 refine bG func206 ntmps206 ?_
 (repeat' (first|refine aq fun K hK=>?_|refine ap ?_|(refine hK _ _ ?_;clear hK K)|(refine ao ?_ ?_<;>intro hc<;>try exact jz)|refine ar ?_|exact jI|(clear hK K)))
 (refine aY [.cell 2 54] ?_;try simp only[go_sem])
 rfl
def vm(v:aj):aB prog 124 [rV v] (rB (lQ v)):=by
 refine bG func124 ntmps124 ?_
 (repeat' (first|refine aq fun K hK=>?_|refine ap ?_|(refine hK _ _ ?_;clear hK K)|(refine ao ?_ ?_<;>intro hc<;>try exact jz)|refine ar ?_|exact jI|(clear hK K)))
 all_goals(refine aY [.tmp 2] ?_;try simp only[go_sem])
 all_goals(unfold lQ;(repeat' split)<;>first|rfl|omega|(exfalso;simp_all;done)|skip)
 all_goals(refine IY ?_;by_cases hs:v.s=sE<;>simp[hs]<;>omega)
def ym(g:TI)(a b:Int):aj×Int:=if g=(⟨#[60]⟩:TI)then(vB (decide (a<b)),0)else if g=(⟨#[60,61]⟩:TI)then(vB (decide (a<=b)),0)else(v0,0)
def Pd(g:TI)(a b:Int):aB prog 262 [rS g,rI a,rI b] (.aQ [rV (ym g a b).1,rI (ym g a b).2]):=by
 refine bG func262 ntmps262 ?_
 (repeat' (first|refine aq fun K hK=>?_|refine ap ?_|(refine hK _ _ ?_;clear hK K)|(refine ao ?_ ?_<;>intro hc<;>try exact jz)|refine cp (wB _) ?_|refine ar ?_|exact jI|(clear hK K)))
 all_goals(refine aY [.cell 6 54,.tmp 7] ?_;try simp only[go_sem])
 all_goals(unfold ym;(repeat' split)<;>first|rfl|omega|(exfalso;simp_all;done)|(simp_all [bS,vB];done)|(exfalso;simp_all;omega)|skip)
def Oa(g:TI)(a b:Int):aB prog 242 [rS g,rI a,rI b] (.aQ [rV (uF g a b).1,rI (uF g a b).2]):=by
 refine bG func242 ntmps242 ?_
 (repeat' (first|refine aq fun K hK=>?_|refine ap ?_|(refine hK _ _ ?_;clear hK K)|(refine ao ?_ ?_<;>intro hc<;>try exact jz)|refine cp (tx _) ?_|refine cp (Pd _ _ _) ?_|refine ar ?_|exact jI|(clear hK K)))
 all_goals(refine aY [.cell 6 54,.tmp 7] ?_;try simp only[go_sem])
 all_goals(try unfold ym)
 all_goals(unfold uF;(repeat' split)<;>first|rfl|omega|(exfalso;simp_all;done)|(simp_all [bS,vB];done)|(exfalso;simp_all;omega)|skip)
def zk(g:TI)(a b:Bool):aj×Int:=if g=(⟨#[124,124]⟩:TI)then(vB (a || b),0)else if g=(⟨#[38,38]⟩:TI)then(vB (a && b),0)else(v0,0)
def Nv(g:TI)(a b:Bool):aB prog 243 [rS g,rB a,rB b] (.aQ [rV (zk g a b).1,rI (zk g a b).2]):=by
 refine bG func243 ntmps243 ?_
 (repeat' (first|refine aq fun K hK=>?_|refine ap ?_|(refine hK _ _ ?_;clear hK K)|(refine ao ?_ ?_<;>intro hc<;>try exact jz)|refine cp (wB _) ?_|refine ar ?_|exact jI|(clear hK K)))
 all_goals(refine aY [.cell 6 54,.tmp 7] ?_;try simp only[go_sem])
 all_goals(unfold zk;(repeat' split)<;>first|rfl|omega|(exfalso;simp_all;done)|(simp_all [bS,vB];done)|(exfalso;simp_all;omega)|skip)
def zp(g a b:TI):aj×Int:=if g=(⟨#[43]⟩:TI)then(if(a.size:Int)+b.size>40 then(v0,6)else(vT (a++b),0))else(v0,0)
def QP(g a b:TI)(ha:a.size<=1000000)(hb:b.size<=1000000):aB prog 244 [rS g,rS a,rS b] (.aQ [rV (zp g a b).1,rI (zp g a b).2]):=by
 refine bG func244 ntmps244 ?_
 (repeat' (first|refine aq fun K hK=>?_|refine ap ?_|(refine hK _ _ ?_;clear hK K)|(refine ao ?_ ?_<;>intro hc<;>try exact jz)|refine cp (Dd _) ?_|refine ar ?_|exact jI|(clear hK K)))
 all_goals(refine aY [.cell 6 54,.tmp 7] ?_;try simp only[go_sem])
 all_goals(unfold zp;(repeat' split)<;>first|rfl|omega|(exfalso;simp_all;done)|(simp_all [bS,vB];done)|(exfalso;simp_all;omega)|skip)
def SR(g:TI)(a b:aj)(ha:a.s.size<=1000000)(hb:b.s.size<=1000000):aB prog 210 [rS g,rV a,rV b] (.aQ [rV (qk g a b).1,rI (qk g a b).2]):=by
 refine bG func210 ntmps210 ?_
 (repeat' (first|refine aq fun K hK=>?_|refine ap ?_|(refine hK _ _ ?_;clear hK K)|(refine ao ?_ ?_<;>intro hc<;>try exact jz)|refine cp (wB _) ?_|refine cp (Oa _ _ _) ?_|refine cp (Nv _ _ _) ?_|refine cp (QP _ _ _ ha hb) ?_|refine ar ?_|exact jI|(clear hK K)))
 all_goals(refine aY [.cell 6 54,.tmp 7] ?_;try simp only[go_sem])
 all_goals(try unfold zk);all_goals(try unfold zp)
 all_goals(unfold qk;(repeat' split)<;>first|rfl|omega|(exfalso;simp_all;done)|(simp_all [bS,vB];done)|(exfalso;simp_all;omega)|skip)
def OW(g:TI)(a:aj):aB prog 211 [rS g,rV a] (rV (mH g a)):=by
 refine bG func211 ntmps211 ?_
 (repeat' (first|refine aq fun K hK=>?_|refine ap ?_|(refine hK _ _ ?_;clear hK K)|(refine ao ?_ ?_<;>intro hc<;>try exact jz)|refine cp (wB _) ?_|refine cp (tx _) ?_|refine ar ?_|exact jI|(clear hK K)))
 all_goals(refine aY [.cell 4 54] ?_;try simp only[go_sem])
 all_goals(unfold mH;(repeat' split)<;>first|rfl|omega|(exfalso;simp_all;done)|(simp_all [bS,vB];done)|(exfalso;simp_all;omega)|skip)
def NU (w : NW) (hg : jR w) : Lib.TabIs prog w.toWorld "internal/strconv.uint64pow10" .u64 Lib.pow10Tab := by
 obtain⟨⟨cur,el,fr,h1,h2⟩,_⟩:=hg 0 (Lib.pow10Tab.map (Value.int .u64)) (by unfold AQ;simp);unfold Lib.TabIs World.var?
 rw [show prog.globalNamed "internal/strconv.uint64pow10" = some 0 by kernel_rfl];simp only[Option.bind_some,h1,Option.some.injEq];apply Array.ext';simpa using h2
def P1(n:Int)(h:cf n):aB prog 82 [rI n] (rS (CW n)):=by
 refine M3 [.int .i64 n] (.string (CW n)) rfl (fun w=>.raw _) fun w hg=>?_
 refine(Tryz.strconv_Itoa n h.1 h.2 w.toWorld (NU w hg)).mono ?_;rintro e W ⟨rfl,k,os,rfl⟩;refine⟨rfl,⟨rfl,rfl,rfl,?_,fun b hb=>?_⟩⟩
 ·show w.heap.size<=(w.heap++os).size;simp
 ·show(w.heap++os)[b]?=w.heap[b]?;rw[Array.getElem?_append_left hb]
def S2(b:Bool):aB prog 245 [rB b] (rS (if b=true then(⟨#[116,114,117,101]⟩:TI)else(⟨#[102,97,108,115,101]⟩:TI))):=by
 refine G7 [.bool b] (.string (if b=true then(⟨#[116,114,117,101]⟩:TI)else(⟨#[102,97,108,115,101]⟩:TI))) rfl (fun w=>.raw _) fun w=>?_
 refine(Tryz.strconv_FormatBool b w).mono ?_;rintro e W ⟨rfl,rfl⟩;refine⟨?_,RowKit.Below.refl _ _⟩;cases b<;>rfl
def JD(v:aj)(h:cf v.n):aB prog 220 [rV v] (rS (mN v)):=by
 refine bG func220 ntmps220 ?_
 (repeat' (first|refine aq fun K hK=>?_|refine ap ?_|(refine hK _ _ ?_;clear hK K)|(refine ao ?_ ?_<;>intro hc<;>try exact jz)|refine cp (P1 _ h) ?_|refine cp (S2 _) ?_|refine ar ?_|exact jI|(clear hK K)))
 all_goals(refine aY [.tmp 2] ?_;try simp only[go_sem])
 all_goals(unfold mN;(repeat' split)<;>first|rfl|omega|contradiction|(simp_all;done)|skip)
attribute [go_sem] Rj Nu
end Go.Proofs.YtjpcgmjaipfgdaaGreatDoor