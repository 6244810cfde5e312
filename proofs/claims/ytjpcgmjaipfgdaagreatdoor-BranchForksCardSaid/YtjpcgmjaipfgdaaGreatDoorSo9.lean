/- Lemmas. No conditions. -/
import Derived.Test.YtjpcgmjaipfgdaaGreatDoorSoS
set_option linter.all false
set_option maxHeartbeats 4000000
set_option maxRecDepth 10000
namespace Go.Gd
open Go
def MY{P:U6}{f:FuncId}{args:UU}{r:AV}(cO:U4)(v:Value)(ha:args=cO.map .raw)(hr:∀w:NW,ay w r v)(h:∀w:NW,kF w->Calls P f cO.toArray w.toWorld fun e w'=>e=.returned v/\RowKit.Below w.heap.size w.toWorld w'):aD P f args r:=by
 intro w vs h1 h2;have WI:vs=cO.toArray:=by
  apply Array.ext';apply List.ext_getElem?;intro i;obtain⟨hl,hv⟩:=h2;subst ha;by_cases hi:i<cO.length
  ·have V4:i<vs.size:=by rw[<-hl];simpa using hi
   have:=di (hv i (.raw cO[i]) vs[i] (by simp[hi]) (by simp[V4]));simp[hi,V4,this]
  ·have V4:¬i<vs.size:=by rw[<-hl];simpa using hi
   rw[List.getElem?_eq_none (by simpa using V4),List.getElem?_eq_none (by simpa using hi)]
 subst WI;refine(h w h1.bS).mono ?_;rintro e W ⟨rfl,hb⟩;have ex:Ext w (entry []) (w.to W) (entry []):={ size:=hb.size,free:=fun b VJ hO=>⟨hb.block b VJ,hO⟩,names:=fun _ _ _ _ h=>h,os:=hb.os,tape:=hb.tape,output:=hb.output,rest:=fun b VJ hO Vj=>⟨hb.block b VJ,hO,Vj⟩,base:=rfl };refine⟨v,r,entry [],w.to W,rfl,rfl,⟨rfl,rfl⟩,{ rows:=fun i row hi=>(by cases hi),dn:=h1.dn,inj:=h1.inj,own:=h1.own,bS:=h1.bS.aW ex.toKeep,fin:=fun b VJ=>Nat.lt_of_lt_of_le (h1.fin b VJ) hb.size },hr _,ex.pS⟩
def Sj{P:U6}{fn:Func}{F:UU}{l0:UT}{out:UU}{e:Exit}{r:AV}{l:UT}(rs:List ResultVar)(hv:kS out=r)(hl:iV zq l0)(hq:(kS out).all (iv zq)=true)(h2:fB zq l0=l)(Xr:fn.results.toList=rs:=by rfl)(he:e=.normal\/e=.ret:=by first|exact Or.inr rfl|exact Or.inl rfl|fail)
  (ho:jV P ⟨[],l0⟩ F rs=some out:=by first|(simp(disch:=first|omega|fail) only[go_sem,↓reduceIte,Nat.reduceEqDiff,Nat.reduceLeDiff,Nat.reduceSub,Nat.reduceAdd];rfl)|rfl) (hok:kR P ⟨[],l0⟩ F rs:=by first|exact jI|(simp(disch:=first|omega|fail) only[go_sem,↓reduceIte,Nat.reduceEqDiff,Nat.reduceLeDiff,Nat.reduceSub,Nat.reduceAdd])):lQ P fn (fun r' l'=>r'=r/\l'=l) e F ⟨[],l0⟩:=by
 subst Xr;exact GN zq he ho hok rfl hl (AB hv hq) h2
def OB(p:ab)(k:Int):gk:=⟨(nth p.aa.ao k.toNat).body,0⟩
def TP(p:ab)(fn:Int)(args:List aj)(n:Nat):UT:=[(gC 1 n,.aJ 393 2 ([OB p fn].map ug)),(gC 0 n,.aJ 54 3 ((Bl p fn args).slots.map bY))]
def TK(p:ab)(fn:Int)(args:List aj)(n:Nat):UU:=[.raw (.int .i64 fn),.rs (gC 0 n) (Bl p fn args).slots.length 3 (Bl p fn args).slots.length,.rs (gC 1 n) 1 2 1]
end Go.Gd
namespace Go.Proofs.YtjpcgmjaipfgdaaGreatDoor
open Go Go.Gd Tryz
abbrev rV(v:aj):AV:=.agg (bY v)
def ud(n:Int):aD prog 204 [rI n] (rV (vI n)):=by
 refine cB func204 ntmps204 ?_
 (repeat' (first|refine ar fun K hK=>?_|refine av ?_|(refine hK _ _ ?_;clear hK K)|(refine au ?_ ?_<;>intro hc<;>try exact jz)|refine aq ?_|exact jI|(clear hK K)))
 (refine bq [.cell 2 54] ?_;try simp only[go_sem])
 rfl
def zG(t:Int):aD prog 219 [rI t] (rV (vZ t)):=by
 refine cB func219 ntmps219 ?_
 (repeat' (first|refine ar fun K hK=>?_|refine av ?_|(refine hK _ _ ?_;clear hK K)|(refine au ?_ ?_<;>intro hc<;>try exact jz)|refine aq ?_|exact jI|(clear hK K)))
 (refine bq [.cell 2 54] ?_;try simp only[go_sem])
 rfl
def yc(b:Bool):aD prog 205 [rB b] (rV (vB b)):=by
 refine cB func205 ntmps205 ?_
 (repeat' (first|refine ar fun K hK=>?_|refine av ?_|(refine hK _ _ ?_;clear hK K)|(refine au ?_ ?_<;>intro hc<;>try exact jz)|refine cp (zG _) ?_|refine aq ?_|exact jI|(clear hK K)))
 all_goals(refine bq [.cell 2 54] ?_;try simp only[go_sem])
 all_goals simp_all [vB,vZ]
def Jt(s:U0):aD prog 206 [rS s] (rV (vT s)):=by
 refine cB func206 ntmps206 ?_
 (repeat' (first|refine ar fun K hK=>?_|refine av ?_|(refine hK _ _ ?_;clear hK K)|(refine au ?_ ?_<;>intro hc<;>try exact jz)|refine aq ?_|exact jI|(clear hK K)))
 (refine bq [.cell 2 54] ?_;try simp only[go_sem])
 rfl
def uI(v:aj):aD prog 124 [rV v] (rB (lc v)):=by
 refine cB func124 ntmps124 ?_
 (repeat' (first|refine ar fun K hK=>?_|refine av ?_|(refine hK _ _ ?_;clear hK K)|(refine au ?_ ?_<;>intro hc<;>try exact jz)|refine aq ?_|exact jI|(clear hK K)))
 all_goals(refine bq [.tmp 2] ?_;try simp only[go_sem])
 all_goals(unfold lc;(repeat' split)<;>first|rfl|omega|(exfalso;simp_all;done)|skip)
 all_goals(refine HH ?_;by_cases hs:v.s=sE<;>simp[hs]<;>omega)
def y9(g:U0)(a b:Int):aj×Int:=if g=(⟨#[60]⟩:U0)then(vB (decide (a<b)),0)else if g=(⟨#[60,61]⟩:U0)then(vB (decide (a<=b)),0)else(v0,0)
def N5(g:U0)(a b:Int):aD prog 262 [rS g,rI a,rI b] (.ba [rV (y9 g a b).1,rI (y9 g a b).2]):=by
 refine cB func262 ntmps262 ?_
 (repeat' (first|refine ar fun K hK=>?_|refine av ?_|(refine hK _ _ ?_;clear hK K)|(refine au ?_ ?_<;>intro hc<;>try exact jz)|refine cp (yc _) ?_|refine aq ?_|exact jI|(clear hK K)))
 all_goals(refine bq [.cell 6 54,.tmp 7] ?_;try simp only[go_sem])
 all_goals(unfold y9;(repeat' split)<;>first|rfl|omega|(exfalso;simp_all;done)|(simp_all [bY,vB];done)|(exfalso;simp_all;omega)|skip)
def Oy(g:U0)(a b:Int):aD prog 242 [rS g,rI a,rI b] (.ba [rV (vv g a b).1,rI (vv g a b).2]):=by
 refine cB func242 ntmps242 ?_
 (repeat' (first|refine ar fun K hK=>?_|refine av ?_|(refine hK _ _ ?_;clear hK K)|(refine au ?_ ?_<;>intro hc<;>try exact jz)|refine cp (ud _) ?_|refine cp (N5 _ _ _) ?_|refine aq ?_|exact jI|(clear hK K)))
 all_goals(refine bq [.cell 6 54,.tmp 7] ?_;try simp only[go_sem])
 all_goals(try unfold y9)
 all_goals(unfold vv;(repeat' split)<;>first|rfl|omega|(exfalso;simp_all;done)|(simp_all [bY,vB];done)|(exfalso;simp_all;omega)|skip)
def zf(g:U0)(a b:Bool):aj×Int:=if g=(⟨#[124,124]⟩:U0)then(vB (a || b),0)else if g=(⟨#[38,38]⟩:U0)then(vB (a && b),0)else(v0,0)
def Lv(g:U0)(a b:Bool):aD prog 243 [rS g,rB a,rB b] (.ba [rV (zf g a b).1,rI (zf g a b).2]):=by
 refine cB func243 ntmps243 ?_
 (repeat' (first|refine ar fun K hK=>?_|refine av ?_|(refine hK _ _ ?_;clear hK K)|(refine au ?_ ?_<;>intro hc<;>try exact jz)|refine cp (yc _) ?_|refine aq ?_|exact jI|(clear hK K)))
 all_goals(refine bq [.cell 6 54,.tmp 7] ?_;try simp only[go_sem])
 all_goals(unfold zf;(repeat' split)<;>first|rfl|omega|(exfalso;simp_all;done)|(simp_all [bY,vB];done)|(exfalso;simp_all;omega)|skip)
def zR(g a b:U0):aj×Int:=if g=(⟨#[43]⟩:U0)then(if(a.size:Int)+b.size>40 then(v0,6)else(vT (a++b),0))else(v0,0)
def LQ(g a b:U0)(ha:a.size<=1000000)(hb:b.size<=1000000):aD prog 244 [rS g,rS a,rS b] (.ba [rV (zR g a b).1,rI (zR g a b).2]):=by
 refine cB func244 ntmps244 ?_
 (repeat' (first|refine ar fun K hK=>?_|refine av ?_|(refine hK _ _ ?_;clear hK K)|(refine au ?_ ?_<;>intro hc<;>try exact jz)|refine cp (Jt _) ?_|refine aq ?_|exact jI|(clear hK K)))
 all_goals(refine bq [.cell 6 54,.tmp 7] ?_;try simp only[go_sem])
 all_goals(unfold zR;(repeat' split)<;>first|rfl|omega|(exfalso;simp_all;done)|(simp_all [bY,vB];done)|(exfalso;simp_all;omega)|skip)
def Ll(g:U0)(a b:aj)(ha:a.s.size<=1000000)(hb:b.s.size<=1000000):aD prog 210 [rS g,rV a,rV b] (.ba [rV (qP g a b).1,rI (qP g a b).2]):=by
 refine cB func210 ntmps210 ?_
 (repeat' (first|refine ar fun K hK=>?_|refine av ?_|(refine hK _ _ ?_;clear hK K)|(refine au ?_ ?_<;>intro hc<;>try exact jz)|refine cp (yc _) ?_|refine cp (Oy _ _ _) ?_|refine cp (Lv _ _ _) ?_|refine cp (LQ _ _ _ ha hb) ?_|refine aq ?_|exact jI|(clear hK K)))
 all_goals(refine bq [.cell 6 54,.tmp 7] ?_;try simp only[go_sem])
 all_goals(try unfold zf);all_goals(try unfold zR)
 all_goals(unfold qP;(repeat' split)<;>first|rfl|omega|(exfalso;simp_all;done)|(simp_all [bY,vB];done)|(exfalso;simp_all;omega)|skip)
def PR(g:U0)(a:aj):aD prog 211 [rS g,rV a] (rV (mQ g a)):=by
 refine cB func211 ntmps211 ?_
 (repeat' (first|refine ar fun K hK=>?_|refine av ?_|(refine hK _ _ ?_;clear hK K)|(refine au ?_ ?_<;>intro hc<;>try exact jz)|refine cp (yc _) ?_|refine cp (ud _) ?_|refine aq ?_|exact jI|(clear hK K)))
 all_goals(refine bq [.cell 4 54] ?_;try simp only[go_sem])
 all_goals(unfold mQ;(repeat' split)<;>first|rfl|omega|(exfalso;simp_all;done)|(simp_all [bY,vB];done)|(exfalso;simp_all;omega)|skip)
abbrev OJ(l:List aj):AV:=aM bY 3 l
abbrev zn(h:UW):AV:=aM py 1 h
def M1 (w : NW) (hg : kF w) : Lib.TabIs prog w.toWorld "internal/strconv.uint64pow10" .u64 Lib.pow10Tab := by
 obtain⟨⟨cur,el,fr,h1,h2⟩,_⟩:=hg 0 (Lib.pow10Tab.map (Value.int .u64)) (by unfold DN;simp);unfold Lib.TabIs World.var?
 rw [show prog.globalNamed "internal/strconv.uint64pow10" = some 0 by kernel_rfl];simp only[Option.bind_some,h1,Option.some.injEq];apply Array.ext';simpa using h2
def yf(n:Int)(h:bz n):aD prog 82 [rI n] (rS (ld n)):=by
 refine MY [.int .i64 n] (.string (ld n)) rfl (fun w=>.raw _) fun w hg=>?_
 refine(Tryz.strconv_Itoa n h.1 h.2 w.toWorld (M1 w hg)).mono ?_;rintro e W ⟨rfl,k,os,rfl⟩;refine⟨rfl,⟨rfl,rfl,rfl,?_,fun b hb=>?_⟩⟩
 ·show w.heap.size<=(w.heap++os).size;simp
 ·show(w.heap++os)[b]?=w.heap[b]?;rw[Array.getElem?_append_left hb]
def Li(b:Bool):aD prog 245 [rB b] (rS (if b=true then(⟨#[116,114,117,101]⟩:U0)else(⟨#[102,97,108,115,101]⟩:U0))):=by
 refine Jv [.bool b] (.string (if b=true then(⟨#[116,114,117,101]⟩:U0)else(⟨#[102,97,108,115,101]⟩:U0))) rfl (fun w=>.raw _) fun w=>?_
 refine(Tryz.strconv_FormatBool b w).mono ?_;rintro e W ⟨rfl,rfl⟩;refine⟨?_,RowKit.Below.refl _ _⟩;cases b<;>rfl
def Kn(v:aj)(h:bz v.n):aD prog 220 [rV v] (rS (mA v)):=by
 refine cB func220 ntmps220 ?_
 (repeat' (first|refine ar fun K hK=>?_|refine av ?_|(refine hK _ _ ?_;clear hK K)|(refine au ?_ ?_<;>intro hc<;>try exact jz)|refine cp (yf _ h) ?_|refine cp (Li _) ?_|refine aq ?_|exact jI|(clear hK K)))
 all_goals(refine bq [.tmp 2] ?_;try simp only[go_sem])
 all_goals(unfold mA;(repeat' split)<;>first|rfl|omega|contradiction|(simp_all;done)|skip)
attribute [go_sem] TP TK
end Go.Proofs.YtjpcgmjaipfgdaaGreatDoor