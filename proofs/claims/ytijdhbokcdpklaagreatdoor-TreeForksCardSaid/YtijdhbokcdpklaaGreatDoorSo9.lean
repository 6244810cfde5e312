/- Lemmas. No conditions. -/
import Derived.Test.YtijdhbokcdpklaaGreatDoorSoS
set_option linter.all false
set_option maxHeartbeats 4000000
set_option maxRecDepth 10000
namespace Go.Gd
open Go
def Qc{P:UP}{f:FuncId}{args:UE}{r:AV}(cI:UM)(v:Value)(ha:args=cI.map .raw)(hr:∀w:NW,ax w r v)(h:∀w:NW,ku w->Calls P f cI.toArray w.toWorld fun e w'=>e=.returned v/\RowKit.Below w.heap.size w.toWorld w'):aC P f args r:=by
 intro w vs h1 h2;have WX:vs=cI.toArray:=by
  apply Array.ext';apply List.ext_getElem?;intro i;obtain⟨hl,hv⟩:=h2;subst ha;by_cases hi:i<cI.length
  ·have Vi:i<vs.size:=by rw[<-hl];simpa using hi
   have:=db (hv i (.raw cI[i]) vs[i] (by simp[hi]) (by simp[Vi]));simp[hi,Vi,this]
  ·have Vi:¬i<vs.size:=by rw[<-hl];simpa using hi
   rw[List.getElem?_eq_none (by simpa using Vi),List.getElem?_eq_none (by simpa using hi)]
 subst WX;refine(h w h1.cd).mono ?_;rintro e W ⟨rfl,hb⟩;have ex:Ext w (entry []) (w.to W) (entry []):={ size:=hb.size,free:=fun b Vv hO=>⟨hb.block b Vv,hO⟩,names:=fun _ _ _ _ h=>h,os:=hb.os,tape:=hb.tape,output:=hb.output,rest:=fun b Vv hO Ur=>⟨hb.block b Vv,hO,Ur⟩,base:=rfl };refine⟨v,r,entry [],w.to W,rfl,rfl,⟨rfl,rfl⟩,{ rows:=fun i row hi=>(by cases hi),di:=h1.di,inj:=h1.inj,own:=h1.own,cd:=h1.cd.aX ex.toKeep,fin:=fun b Vv=>Nat.lt_of_lt_of_le (h1.fin b Vv) hb.size },hr _,ex.pB⟩
def Uf{P:UP}{fn:Func}{F:UE}{l0:UD}{out:UE}{e:Exit}{r:AV}{l:UD}(rs:List ResultVar)(hv:kz out=r)(hl:iL Af l0)(hq:(kz out).all (gZ Af)=true)(h2:fy Af l0=l)(W0:fn.results.toList=rs:=by rfl)(he:e=.normal\/e=.ret:=by first|exact Or.inr rfl|exact Or.inl rfl|fail)
  (ho:jU P ⟨[],l0⟩ F rs=some out:=by first|(simp(disch:=first|omega|fail) only[go_sem,↓reduceIte,Nat.reduceEqDiff,Nat.reduceLeDiff,Nat.reduceSub,Nat.reduceAdd];rfl)|rfl) (hok:kG P ⟨[],l0⟩ F rs:=by first|exact jI|(simp(disch:=first|omega|fail) only[go_sem,↓reduceIte,Nat.reduceEqDiff,Nat.reduceLeDiff,Nat.reduceSub,Nat.reduceAdd])):lD P fn (fun r' l'=>r'=r/\l'=l) e F ⟨[],l0⟩:=by
 subst W0;exact HR Af he ho hok rfl hl (zz hv hq) h2
def MZ(p:af)(k:Int):gb:=⟨(nth p.aa.aw k.toNat).body,0⟩
def Sj(p:af)(fn:Int)(args:List aj)(n:Nat):UD:=[(gB 1 n,.aG 301 2 ([MZ p fn].map uy)),(gB 0 n,.aG 42 3 ((Cu p fn args).slots.map bV))]
def MA(p:af)(fn:Int)(args:List aj)(n:Nat):UE:=[.raw (.int .i64 fn),.rs (gB 0 n) (Cu p fn args).slots.length 3 (Cu p fn args).slots.length,.rs (gB 1 n) 1 2 1]
end Go.Gd
namespace Go.Proofs.YtijdhbokcdpklaaGreatDoor
open Go Go.Gd Tryz
abbrev rV(v:aj):AV:=.agg (bV v)
structure xP(p:af)(s:gH):Prop where
 inv:BE p (RS.of s)
 ah:s.status≠2->Jb p (RS.of s).Cz
 cells:gr s.heap<=40
 outs:s.bC.length<=24
 nQ:0<=s.in_
 oF:s.in_<=1000
def ux(n:Int):aC prog 145 [rI n] (rV (vI n)):=by
 refine bQ func145 ntmps145 ?_
 (repeat' (first|refine av fun K hK=>?_|refine au ?_|(refine hK _ _ ?_;clear hK K)|(refine ar ?_ ?_<;>intro hc<;>try exact jz)|refine aq ?_|exact jI|(clear hK K)))
 (refine ba [.cell 2 42] ?_;try simp only[go_sem])
 rfl
def Dq(t:Int):aC prog 160 [rI t] (rV (vZ t)):=by
 refine bQ func160 ntmps160 ?_
 (repeat' (first|refine av fun K hK=>?_|refine au ?_|(refine hK _ _ ?_;clear hK K)|(refine ar ?_ ?_<;>intro hc<;>try exact jz)|refine aq ?_|exact jI|(clear hK K)))
 (refine ba [.cell 2 42] ?_;try simp only[go_sem])
 rfl
def xY(b:Bool):aC prog 146 [rB b] (rV (vB b)):=by
 refine bQ func146 ntmps146 ?_
 (repeat' (first|refine av fun K hK=>?_|refine au ?_|(refine hK _ _ ?_;clear hK K)|(refine ar ?_ ?_<;>intro hc<;>try exact jz)|refine cp (Dq _) ?_|refine aq ?_|exact jI|(clear hK K)))
 all_goals(refine ba [.cell 2 42] ?_;try simp only[go_sem])
 all_goals simp_all [vB,vZ]
def H4(s:UI):aC prog 147 [rS s] (rV (vT s)):=by
 refine bQ func147 ntmps147 ?_
 (repeat' (first|refine av fun K hK=>?_|refine au ?_|(refine hK _ _ ?_;clear hK K)|(refine ar ?_ ?_<;>intro hc<;>try exact jz)|refine aq ?_|exact jI|(clear hK K)))
 (refine ba [.cell 2 42] ?_;try simp only[go_sem])
 rfl
def vV(v:aj):aC prog 86 [rV v] (rB (lW v)):=by
 refine bQ func86 ntmps86 ?_
 (repeat' (first|refine av fun K hK=>?_|refine au ?_|(refine hK _ _ ?_;clear hK K)|(refine ar ?_ ?_<;>intro hc<;>try exact jz)|refine aq ?_|exact jI|(clear hK K)))
 all_goals(refine ba [.tmp 2] ?_;try simp only[go_sem])
 all_goals(unfold lW;(repeat' split)<;>first|rfl|omega|(exfalso;simp_all;done)|skip)
 all_goals(refine Fl ?_;by_cases hs:v.s=sE<;>simp[hs]<;>omega)
def yA(g:UI)(a b:Int):aj×Int:=if g=(⟨#[60]⟩:UI)then(vB (decide (a<b)),0)else if g=(⟨#[60,61]⟩:UI)then(vB (decide (a<=b)),0)else(v0,0)
def Mv(g:UI)(a b:Int):aC prog 180 [rS g,rI a,rI b] (.aQ [rV (yA g a b).1,rI (yA g a b).2]):=by
 refine bQ func180 ntmps180 ?_
 (repeat' (first|refine av fun K hK=>?_|refine au ?_|(refine hK _ _ ?_;clear hK K)|(refine ar ?_ ?_<;>intro hc<;>try exact jz)|refine cp (xY _) ?_|refine aq ?_|exact jI|(clear hK K)))
 all_goals(refine ba [.cell 6 42,.tmp 7] ?_;try simp only[go_sem])
 all_goals(unfold yA;(repeat' split)<;>first|rfl|omega|(exfalso;simp_all;done)|(simp_all [bV,vB];done)|(exfalso;simp_all;omega)|skip)
def N4(g:UI)(a b:Int):aC prog 169 [rS g,rI a,rI b] (.aQ [rV (uZ g a b).1,rI (uZ g a b).2]):=by
 refine bQ func169 ntmps169 ?_
 (repeat' (first|refine av fun K hK=>?_|refine au ?_|(refine hK _ _ ?_;clear hK K)|(refine ar ?_ ?_<;>intro hc<;>try exact jz)|refine cp (ux _) ?_|refine cp (Mv _ _ _) ?_|refine aq ?_|exact jI|(clear hK K)))
 all_goals(refine ba [.cell 6 42,.tmp 7] ?_;try simp only[go_sem])
 all_goals(try unfold yA)
 all_goals(unfold uZ;(repeat' split)<;>first|rfl|omega|(exfalso;simp_all;done)|(simp_all [bV,vB];done)|(exfalso;simp_all;omega)|skip)
def zc(g:UI)(a b:Bool):aj×Int:=if g=(⟨#[124,124]⟩:UI)then(vB (a || b),0)else if g=(⟨#[38,38]⟩:UI)then(vB (a && b),0)else(v0,0)
def RN(g:UI)(a b:Bool):aC prog 170 [rS g,rB a,rB b] (.aQ [rV (zc g a b).1,rI (zc g a b).2]):=by
 refine bQ func170 ntmps170 ?_
 (repeat' (first|refine av fun K hK=>?_|refine au ?_|(refine hK _ _ ?_;clear hK K)|(refine ar ?_ ?_<;>intro hc<;>try exact jz)|refine cp (xY _) ?_|refine aq ?_|exact jI|(clear hK K)))
 all_goals(refine ba [.cell 6 42,.tmp 7] ?_;try simp only[go_sem])
 all_goals(unfold zc;(repeat' split)<;>first|rfl|omega|(exfalso;simp_all;done)|(simp_all [bV,vB];done)|(exfalso;simp_all;omega)|skip)
def zy(g a b:UI):aj×Int:=if g=(⟨#[43]⟩:UI)then(if(a.size:Int)+b.size>40 then(v0,6)else(vT (a++b),0))else(v0,0)
def S2(g a b:UI)(ha:a.size<=1000000)(hb:b.size<=1000000):aC prog 171 [rS g,rS a,rS b] (.aQ [rV (zy g a b).1,rI (zy g a b).2]):=by
 refine bQ func171 ntmps171 ?_
 (repeat' (first|refine av fun K hK=>?_|refine au ?_|(refine hK _ _ ?_;clear hK K)|(refine ar ?_ ?_<;>intro hc<;>try exact jz)|refine cp (H4 _) ?_|refine aq ?_|exact jI|(clear hK K)))
 all_goals(refine ba [.cell 6 42,.tmp 7] ?_;try simp only[go_sem])
 all_goals(unfold zy;(repeat' split)<;>first|rfl|omega|(exfalso;simp_all;done)|(simp_all [bV,vB];done)|(exfalso;simp_all;omega)|skip)
def L4(g:UI)(a b:aj)(ha:a.s.size<=1000000)(hb:b.s.size<=1000000):aC prog 151 [rS g,rV a,rV b] (.aQ [rV (qt g a b).1,rI (qt g a b).2]):=by
 refine bQ func151 ntmps151 ?_
 (repeat' (first|refine av fun K hK=>?_|refine au ?_|(refine hK _ _ ?_;clear hK K)|(refine ar ?_ ?_<;>intro hc<;>try exact jz)|refine cp (xY _) ?_|refine cp (N4 _ _ _) ?_|refine cp (RN _ _ _) ?_|refine cp (S2 _ _ _ ha hb) ?_|refine aq ?_|exact jI|(clear hK K)))
 all_goals(refine ba [.cell 6 42,.tmp 7] ?_;try simp only[go_sem])
 all_goals(try unfold zc);all_goals(try unfold zy)
 all_goals(unfold qt;(repeat' split)<;>first|rfl|omega|(exfalso;simp_all;done)|(simp_all [bV,vB];done)|(exfalso;simp_all;omega)|skip)
def Mx(g:UI)(a:aj):aC prog 152 [rS g,rV a] (rV (mG g a)):=by
 refine bQ func152 ntmps152 ?_
 (repeat' (first|refine av fun K hK=>?_|refine au ?_|(refine hK _ _ ?_;clear hK K)|(refine ar ?_ ?_<;>intro hc<;>try exact jz)|refine cp (xY _) ?_|refine cp (ux _) ?_|refine aq ?_|exact jI|(clear hK K)))
 all_goals(refine ba [.cell 4 42] ?_;try simp only[go_sem])
 all_goals(unfold mG;(repeat' split)<;>first|rfl|omega|(exfalso;simp_all;done)|(simp_all [bV,vB];done)|(exfalso;simp_all;omega)|skip)
def Tl (w : NW) (hg : ku w) : Lib.TabIs prog w.toWorld "internal/strconv.uint64pow10" .u64 Lib.pow10Tab := by
 obtain⟨⟨cur,el,fr,h1,h2⟩,_⟩:=hg 0 (Lib.pow10Tab.map (Value.int .u64)) (by unfold A2;simp);unfold Lib.TabIs World.var?
 rw [show prog.globalNamed "internal/strconv.uint64pow10" = some 0 by kernel_rfl];simp only[Option.bind_some,h1,Option.some.injEq];apply Array.ext';simpa using h2
def LZ(n:Int)(h:bD n):aC prog 172 [rI n] (rS (Az n)):=by
 refine Qc [.int .i64 n] (.string (Az n)) rfl (fun w=>.raw _) fun w hg=>?_
 refine(Tryz.strconv_Itoa n h.1 h.2 w.toWorld (Tl w hg)).mono ?_;rintro e W ⟨rfl,k,os,rfl⟩;refine⟨rfl,⟨rfl,rfl,rfl,?_,fun b hb=>?_⟩⟩
 ·show w.heap.size<=(w.heap++os).size;simp
 ·show(w.heap++os)[b]?=w.heap[b]?;rw[Array.getElem?_append_left hb]
def Nf(b:Bool):aC prog 173 [rB b] (rS (if b=true then(⟨#[116,114,117,101]⟩:UI)else(⟨#[102,97,108,115,101]⟩:UI))):=by
 refine FE [.bool b] (.string (if b=true then(⟨#[116,114,117,101]⟩:UI)else(⟨#[102,97,108,115,101]⟩:UI))) rfl (fun w=>.raw _) fun w=>?_
 refine(Tryz.strconv_FormatBool b w).mono ?_;rintro e W ⟨rfl,rfl⟩;refine⟨?_,RowKit.Below.refl _ _⟩;cases b<;>rfl
def R7(v:aj)(h:bD v.n):aC prog 161 [rV v] (rS (mH v)):=by
 refine bQ func161 ntmps161 ?_
 (repeat' (first|refine av fun K hK=>?_|refine au ?_|(refine hK _ _ ?_;clear hK K)|(refine ar ?_ ?_<;>intro hc<;>try exact jz)|refine cp (LZ _ h) ?_|refine cp (Nf _) ?_|refine aq ?_|exact jI|(clear hK K)))
 all_goals(refine ba [.tmp 2] ?_;try simp only[go_sem])
 all_goals(unfold mH;(repeat' split)<;>first|rfl|omega|contradiction|(simp_all;done)|skip)
attribute [go_sem] Sj MA
end Go.Proofs.YtijdhbokcdpklaaGreatDoor