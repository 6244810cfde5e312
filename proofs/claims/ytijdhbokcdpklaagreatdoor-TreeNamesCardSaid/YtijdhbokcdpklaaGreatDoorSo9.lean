/- Lemmas. No conditions. -/
import Derived.Test.YtijdhbokcdpklaaGreatDoorSoS
set_option linter.all false
set_option maxHeartbeats 4000000
set_option maxRecDepth 10000
namespace Go.Gd
open Go
def Qj{P:UY}{f:FuncId}{args:UM}{r:AV}(cO:UW)(v:Value)(ha:args=cO.map .raw)(hr:∀w:NW,ax w r v)(h:∀w:NW,j6 w->Calls P f cO.toArray w.toWorld fun e w'=>e=.returned v/\RowKit.Below w.heap.size w.toWorld w'):aB P f args r:=by
 intro w vs h1 h2;have Xp:vs=cO.toArray:=by
  apply Array.ext';apply List.ext_getElem?;intro i;obtain⟨hl,hv⟩:=h2;subst ha;by_cases hi:i<cO.length
  ·have VE:i<vs.size:=by rw[<-hl];simpa using hi
   have:=df (hv i (.raw cO[i]) vs[i] (by simp[hi]) (by simp[VE]));simp[hi,VE,this]
  ·have VE:¬i<vs.size:=by rw[<-hl];simpa using hi
   rw[List.getElem?_eq_none (by simpa using VE),List.getElem?_eq_none (by simpa using hi)]
 subst Xp;refine(h w h1.cd).mono ?_;rintro e W ⟨rfl,hb⟩;have ex:Ext w (entry []) (w.to W) (entry []):={ size:=hb.size,free:=fun b VQ hO=>⟨hb.block b VQ,hO⟩,names:=fun _ _ _ _ h=>h,os:=hb.os,tape:=hb.tape,output:=hb.output,rest:=fun b VQ hO U8=>⟨hb.block b VQ,hO,U8⟩,base:=rfl };refine⟨v,r,entry [],w.to W,rfl,rfl,⟨rfl,rfl⟩,{ rows:=fun i row hi=>(by cases hi),di:=h1.di,inj:=h1.inj,own:=h1.own,cd:=h1.cd.aY ex.toKeep,fin:=fun b VQ=>Nat.lt_of_lt_of_le (h1.fin b VQ) hb.size },hr _,ex.pU⟩
def O1{P:UY}{fn:Func}{F:UM}{l0:UL}{out:UM}{e:Exit}{r:AV}{l:UL}(rs:List ResultVar)(hv:kI out=r)(hl:iO Af l0)(hq:(kI out).all (im Af)=true)(h2:fB Af l0=l)(Xs:fn.results.toList=rs:=by rfl)(he:e=.normal\/e=.ret:=by first|exact Or.inr rfl|exact Or.inl rfl|fail)
  (ho:jK P ⟨[],l0⟩ F rs=some out:=by first|(simp(disch:=first|omega|fail) only[go_sem,↓reduceIte,Nat.reduceEqDiff,Nat.reduceLeDiff,Nat.reduceSub,Nat.reduceAdd];rfl)|rfl) (hok:kN P ⟨[],l0⟩ F rs:=by first|exact jI|(simp(disch:=first|omega|fail) only[go_sem,↓reduceIte,Nat.reduceEqDiff,Nat.reduceLeDiff,Nat.reduceSub,Nat.reduceAdd])):lu P fn (fun r' l'=>r'=r/\l'=l) e F ⟨[],l0⟩:=by
 subst Xs;exact IG Af he ho hok rfl hl (Ar hv hq) h2
def Sg(p:af)(k:Int):ga:=⟨(nth p.aa.aw k.toNat).body,0⟩
def Lv(p:af)(fn:Int)(args:List aj)(n:Nat):UL:=[(gy 1 n,.aG 301 2 ([Sg p fn].map tZ)),(gy 0 n,.aG 42 3 ((BA p fn args).slots.map bW))]
def QJ(p:af)(fn:Int)(args:List aj)(n:Nat):UM:=[.raw (.int .i64 fn),.rs (gy 0 n) (BA p fn args).slots.length 3 (BA p fn args).slots.length,.rs (gy 1 n) 1 2 1]
end Go.Gd
namespace Go.Proofs.YtijdhbokcdpklaaGreatDoor
open Go Go.Gd Tryz
abbrev rV(v:aj):AV:=.agg (bW v)
structure xL(p:af)(s:gF):Prop where
 inv:AE p (RS.of s)
 ah:s.status≠2->HR p (RS.of s).A4
 cells:gw s.heap<=40
 outs:s.bC.length<=24
 od:0<=s.in_
 oF:s.in_<=1000
def ui(n:Int):aB prog 145 [rI n] (rV (vI n)):=by
 refine bF func145 ntmps145 ?_
 (repeat' (first|refine aq fun K hK=>?_|refine ak ?_|(refine hK _ _ ?_;clear hK K)|(refine ao ?_ ?_<;>intro hc<;>try exact jz)|refine ap ?_|exact jI|(clear hK K)))
 (refine aW [.cell 2 42] ?_;try simp only[go_sem])
 rfl
def Cs(t:Int):aB prog 160 [rI t] (rV (vZ t)):=by
 refine bF func160 ntmps160 ?_
 (repeat' (first|refine aq fun K hK=>?_|refine ak ?_|(refine hK _ _ ?_;clear hK K)|(refine ao ?_ ?_<;>intro hc<;>try exact jz)|refine ap ?_|exact jI|(clear hK K)))
 (refine aW [.cell 2 42] ?_;try simp only[go_sem])
 rfl
def xj(b:Bool):aB prog 146 [rB b] (rV (vB b)):=by
 refine bF func146 ntmps146 ?_
 (repeat' (first|refine aq fun K hK=>?_|refine ak ?_|(refine hK _ _ ?_;clear hK K)|(refine ao ?_ ?_<;>intro hc<;>try exact jz)|refine cp (Cs _) ?_|refine ap ?_|exact jI|(clear hK K)))
 all_goals(refine aW [.cell 2 42] ?_;try simp only[go_sem])
 all_goals simp_all [vB,vZ]
def Gm(s:UR):aB prog 147 [rS s] (rV (vT s)):=by
 refine bF func147 ntmps147 ?_
 (repeat' (first|refine aq fun K hK=>?_|refine ak ?_|(refine hK _ _ ?_;clear hK K)|(refine ao ?_ ?_<;>intro hc<;>try exact jz)|refine ap ?_|exact jI|(clear hK K)))
 (refine aW [.cell 2 42] ?_;try simp only[go_sem])
 rfl
def vw(v:aj):aB prog 86 [rV v] (rB (mg v)):=by
 refine bF func86 ntmps86 ?_
 (repeat' (first|refine aq fun K hK=>?_|refine ak ?_|(refine hK _ _ ?_;clear hK K)|(refine ao ?_ ?_<;>intro hc<;>try exact jz)|refine ap ?_|exact jI|(clear hK K)))
 all_goals(refine aW [.tmp 2] ?_;try simp only[go_sem])
 all_goals(unfold mg;(repeat' split)<;>first|rfl|omega|(exfalso;simp_all;done)|skip)
 all_goals(refine IK ?_;by_cases hs:v.s=sE<;>simp[hs]<;>omega)
def zf(g:UR)(a b:Int):aj×Int:=if g=(⟨#[60]⟩:UR)then(vB (decide (a<b)),0)else if g=(⟨#[60,61]⟩:UR)then(vB (decide (a<=b)),0)else(v0,0)
def LI(g:UR)(a b:Int):aB prog 180 [rS g,rI a,rI b] (.aQ [rV (zf g a b).1,rI (zf g a b).2]):=by
 refine bF func180 ntmps180 ?_
 (repeat' (first|refine aq fun K hK=>?_|refine ak ?_|(refine hK _ _ ?_;clear hK K)|(refine ao ?_ ?_<;>intro hc<;>try exact jz)|refine cp (xj _) ?_|refine ap ?_|exact jI|(clear hK K)))
 all_goals(refine aW [.cell 6 42,.tmp 7] ?_;try simp only[go_sem])
 all_goals(unfold zf;(repeat' split)<;>first|rfl|omega|(exfalso;simp_all;done)|(simp_all [bW,vB];done)|(exfalso;simp_all;omega)|skip)
def Lf(g:UR)(a b:Int):aB prog 169 [rS g,rI a,rI b] (.aQ [rV (vf g a b).1,rI (vf g a b).2]):=by
 refine bF func169 ntmps169 ?_
 (repeat' (first|refine aq fun K hK=>?_|refine ak ?_|(refine hK _ _ ?_;clear hK K)|(refine ao ?_ ?_<;>intro hc<;>try exact jz)|refine cp (ui _) ?_|refine cp (LI _ _ _) ?_|refine ap ?_|exact jI|(clear hK K)))
 all_goals(refine aW [.cell 6 42,.tmp 7] ?_;try simp only[go_sem])
 all_goals(try unfold zf)
 all_goals(unfold vf;(repeat' split)<;>first|rfl|omega|(exfalso;simp_all;done)|(simp_all [bW,vB];done)|(exfalso;simp_all;omega)|skip)
def yy(g:UR)(a b:Bool):aj×Int:=if g=(⟨#[124,124]⟩:UR)then(vB (a || b),0)else if g=(⟨#[38,38]⟩:UR)then(vB (a && b),0)else(v0,0)
def P7(g:UR)(a b:Bool):aB prog 170 [rS g,rB a,rB b] (.aQ [rV (yy g a b).1,rI (yy g a b).2]):=by
 refine bF func170 ntmps170 ?_
 (repeat' (first|refine aq fun K hK=>?_|refine ak ?_|(refine hK _ _ ?_;clear hK K)|(refine ao ?_ ?_<;>intro hc<;>try exact jz)|refine cp (xj _) ?_|refine ap ?_|exact jI|(clear hK K)))
 all_goals(refine aW [.cell 6 42,.tmp 7] ?_;try simp only[go_sem])
 all_goals(unfold yy;(repeat' split)<;>first|rfl|omega|(exfalso;simp_all;done)|(simp_all [bW,vB];done)|(exfalso;simp_all;omega)|skip)
def zH(g a b:UR):aj×Int:=if g=(⟨#[43]⟩:UR)then(if(a.size:Int)+b.size>40 then(v0,6)else(vT (a++b),0))else(v0,0)
def L9(g a b:UR)(ha:a.size<=1000000)(hb:b.size<=1000000):aB prog 171 [rS g,rS a,rS b] (.aQ [rV (zH g a b).1,rI (zH g a b).2]):=by
 refine bF func171 ntmps171 ?_
 (repeat' (first|refine aq fun K hK=>?_|refine ak ?_|(refine hK _ _ ?_;clear hK K)|(refine ao ?_ ?_<;>intro hc<;>try exact jz)|refine cp (Gm _) ?_|refine ap ?_|exact jI|(clear hK K)))
 all_goals(refine aW [.cell 6 42,.tmp 7] ?_;try simp only[go_sem])
 all_goals(unfold zH;(repeat' split)<;>first|rfl|omega|(exfalso;simp_all;done)|(simp_all [bW,vB];done)|(exfalso;simp_all;omega)|skip)
def P2(g:UR)(a b:aj)(ha:a.s.size<=1000000)(hb:b.s.size<=1000000):aB prog 151 [rS g,rV a,rV b] (.aQ [rV (qu g a b).1,rI (qu g a b).2]):=by
 refine bF func151 ntmps151 ?_
 (repeat' (first|refine aq fun K hK=>?_|refine ak ?_|(refine hK _ _ ?_;clear hK K)|(refine ao ?_ ?_<;>intro hc<;>try exact jz)|refine cp (xj _) ?_|refine cp (Lf _ _ _) ?_|refine cp (P7 _ _ _) ?_|refine cp (L9 _ _ _ ha hb) ?_|refine ap ?_|exact jI|(clear hK K)))
 all_goals(refine aW [.cell 6 42,.tmp 7] ?_;try simp only[go_sem])
 all_goals(try unfold yy);all_goals(try unfold zH)
 all_goals(unfold qu;(repeat' split)<;>first|rfl|omega|(exfalso;simp_all;done)|(simp_all [bW,vB];done)|(exfalso;simp_all;omega)|skip)
def OT(g:UR)(a:aj):aB prog 152 [rS g,rV a] (rV (mT g a)):=by
 refine bF func152 ntmps152 ?_
 (repeat' (first|refine aq fun K hK=>?_|refine ak ?_|(refine hK _ _ ?_;clear hK K)|(refine ao ?_ ?_<;>intro hc<;>try exact jz)|refine cp (xj _) ?_|refine cp (ui _) ?_|refine ap ?_|exact jI|(clear hK K)))
 all_goals(refine aW [.cell 4 42] ?_;try simp only[go_sem])
 all_goals(unfold mT;(repeat' split)<;>first|rfl|omega|(exfalso;simp_all;done)|(simp_all [bW,vB];done)|(exfalso;simp_all;omega)|skip)
def NZ (w : NW) (hg : j6 w) : Lib.TabIs prog w.toWorld "internal/strconv.uint64pow10" .u64 Lib.pow10Tab := by
 obtain⟨⟨cur,el,fr,h1,h2⟩,_⟩:=hg 0 (Lib.pow10Tab.map (Value.int .u64)) (by unfold CT;simp);unfold Lib.TabIs World.var?
 rw [show prog.globalNamed "internal/strconv.uint64pow10" = some 0 by kernel_rfl];simp only[Option.bind_some,h1,Option.some.injEq];apply Array.ext';simpa using h2
def LH(n:Int)(h:bE n):aB prog 172 [rI n] (rS (B1 n)):=by
 refine Qj [.int .i64 n] (.string (B1 n)) rfl (fun w=>.raw _) fun w hg=>?_
 refine(Tryz.strconv_Itoa n h.1 h.2 w.toWorld (NZ w hg)).mono ?_;rintro e W ⟨rfl,k,os,rfl⟩;refine⟨rfl,⟨rfl,rfl,rfl,?_,fun b hb=>?_⟩⟩
 ·show w.heap.size<=(w.heap++os).size;simp
 ·show(w.heap++os)[b]?=w.heap[b]?;rw[Array.getElem?_append_left hb]
def L4(b:Bool):aB prog 173 [rB b] (rS (if b=true then(⟨#[116,114,117,101]⟩:UR)else(⟨#[102,97,108,115,101]⟩:UR))):=by
 refine Kt [.bool b] (.string (if b=true then(⟨#[116,114,117,101]⟩:UR)else(⟨#[102,97,108,115,101]⟩:UR))) rfl (fun w=>.raw _) fun w=>?_
 refine(Tryz.strconv_FormatBool b w).mono ?_;rintro e W ⟨rfl,rfl⟩;refine⟨?_,RowKit.Below.refl _ _⟩;cases b<;>rfl
def Rn(v:aj)(h:bE v.n):aB prog 161 [rV v] (rS (na v)):=by
 refine bF func161 ntmps161 ?_
 (repeat' (first|refine aq fun K hK=>?_|refine ak ?_|(refine hK _ _ ?_;clear hK K)|(refine ao ?_ ?_<;>intro hc<;>try exact jz)|refine cp (LH _ h) ?_|refine cp (L4 _) ?_|refine ap ?_|exact jI|(clear hK K)))
 all_goals(refine aW [.tmp 2] ?_;try simp only[go_sem])
 all_goals(unfold na;(repeat' split)<;>first|rfl|omega|contradiction|(simp_all;done)|skip)
attribute [go_sem] Lv QJ
end Go.Proofs.YtijdhbokcdpklaaGreatDoor