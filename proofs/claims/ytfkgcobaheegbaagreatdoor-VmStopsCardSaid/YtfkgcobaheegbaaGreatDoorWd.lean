/- Lemmas. No conditions. -/
import Derived.Test.YtfkgcobaheegbaaGreatDoorSoP
set_option linter.all false
set_option maxHeartbeats 1000000
set_option maxRecDepth 10000
namespace Go.Proofs.YtfkgcobaheegbaaGreatDoor
open Go Go.Gd Tryz
theorem tu(n:Int):eG prog 154 [rI n] (rV (vI n)):=by
 refine fm func154 ntmps154 ?_
 (repeat' (first|refine aB fun K hK=>?_|refine aC ?_|(refine hK _ _ ?_;clear hK K)|(refine aA ?_ ?_<;>intro hc<;>try exact jz)|refine aD ?_|exact jI|(clear hK K)))
 (refine bH [.cell 2 59] ?_;try simp only[go_sem])
 rfl
theorem BD(t:Int):eG prog 100 [rI t] (rV (vZ t)):=by
 refine fm func100 ntmps100 ?_
 (repeat' (first|refine aB fun K hK=>?_|refine aC ?_|(refine hK _ _ ?_;clear hK K)|(refine aA ?_ ?_<;>intro hc<;>try exact jz)|refine aD ?_|exact jI|(clear hK K)))
 (refine bH [.cell 2 59] ?_;try simp only[go_sem])
 rfl
theorem vL(b:Bool):eG prog 172 [rB b] (rV (vB b)):=by
 refine fm func172 ntmps172 ?_
 (repeat' (first|refine aB fun K hK=>?_|refine aC ?_|(refine hK _ _ ?_;clear hK K)|(refine aA ?_ ?_<;>intro hc<;>try exact jz)|refine cp (BD _) ?_|refine aD ?_|exact jI|(clear hK K)))
 all_goals(refine bH [.cell 2 59] ?_;try simp only[go_sem])
 all_goals simp_all [vB,vZ]
theorem G4(s:ByteArray):eG prog 173 [rS s] (rV (vT s)):=by
 refine fm func173 ntmps173 ?_
 (repeat' (first|refine aB fun K hK=>?_|refine aC ?_|(refine hK _ _ ?_;clear hK K)|(refine aA ?_ ?_<;>intro hc<;>try exact jz)|refine aD ?_|exact jI|(clear hK K)))
 (refine bH [.cell 2 59] ?_;try simp only[go_sem])
 rfl
theorem G6(v:ak):eG prog 197 [rV v] (rB (j9 v)):=by
 refine fm func197 ntmps197 ?_
 (repeat' (first|refine aB fun K hK=>?_|refine aC ?_|(refine hK _ _ ?_;clear hK K)|(refine aA ?_ ?_<;>intro hc<;>try exact jz)|refine aD ?_|exact jI|(clear hK K)))
 all_goals(refine bH [.tmp 2] ?_;try simp only[go_sem])
 all_goals(unfold j9;(repeat' split)<;>first|rfl|omega|(exfalso;simp_all;done)|skip)
 all_goals(refine NT ?_;by_cases hs:v.s=sE<;>simp[hs]<;>omega)
def x8(g:ByteArray)(a b:Int):ak×Int:=if g=(⟨#[60]⟩:ByteArray)then(vB (decide (a<b)),0)else if g=(⟨#[60,61]⟩:ByteArray)then(vB (decide (a<=b)),0)else(v0,0)
theorem QO(g:ByteArray)(a b:Int):eG prog 261 [rS g,rI a,rI b] (.bj [rV (x8 g a b).1,rI (x8 g a b).2]):=by
 refine fm func261 ntmps261 ?_
 (repeat' (first|refine aB fun K hK=>?_|refine aC ?_|(refine hK _ _ ?_;clear hK K)|(refine aA ?_ ?_<;>intro hc<;>try exact jz)|refine cp (vL _) ?_|refine aD ?_|exact jI|(clear hK K)))
 all_goals(refine bH [.cell 6 59,.tmp 7] ?_;try simp only[go_sem])
 all_goals(unfold x8;(repeat' split)<;>first|rfl|omega|(exfalso;simp_all;done)|(simp_all [cv,vB];done)|(exfalso;simp_all;omega)|skip)
theorem IG(g:ByteArray)(a b:Int):eG prog 226 [rS g,rI a,rI b] (.bj [rV (sZ g a b).1,rI (sZ g a b).2]):=by
 refine fm func226 ntmps226 ?_
 (repeat' (first|refine aB fun K hK=>?_|refine aC ?_|(refine hK _ _ ?_;clear hK K)|(refine aA ?_ ?_<;>intro hc<;>try exact jz)|refine cp (tu _) ?_|refine cp (QO _ _ _) ?_|refine aD ?_|exact jI|(clear hK K)))
 all_goals(refine bH [.cell 6 59,.tmp 7] ?_;try simp only[go_sem])
 all_goals(try unfold x8)
 all_goals(unfold sZ;(repeat' split)<;>first|rfl|omega|(exfalso;simp_all;done)|(simp_all [cv,vB];done)|(exfalso;simp_all;omega)|skip)
def y9(g:ByteArray)(a b:Bool):ak×Int:=if g=(⟨#[124,124]⟩:ByteArray)then(vB (a || b),0)else if g=(⟨#[38,38]⟩:ByteArray)then(vB (a && b),0)else(v0,0)
theorem PI(g:ByteArray)(a b:Bool):eG prog 227 [rS g,rB a,rB b] (.bj [rV (y9 g a b).1,rI (y9 g a b).2]):=by
 refine fm func227 ntmps227 ?_
 (repeat' (first|refine aB fun K hK=>?_|refine aC ?_|(refine hK _ _ ?_;clear hK K)|(refine aA ?_ ?_<;>intro hc<;>try exact jz)|refine cp (vL _) ?_|refine aD ?_|exact jI|(clear hK K)))
 all_goals(refine bH [.cell 6 59,.tmp 7] ?_;try simp only[go_sem])
 all_goals(unfold y9;(repeat' split)<;>first|rfl|omega|(exfalso;simp_all;done)|(simp_all [cv,vB];done)|(exfalso;simp_all;omega)|skip)
def yD(g a b:ByteArray):ak×Int:=if g=(⟨#[43]⟩:ByteArray)then(if(a.size:Int)+b.size>40 then(v0,6)else(vT (a++b),0))else(v0,0)
theorem QA(g a b:ByteArray)(ha:a.size<=1000000)(hb:b.size<=1000000):eG prog 228 [rS g,rS a,rS b] (.bj [rV (yD g a b).1,rI (yD g a b).2]):=by
 refine fm func228 ntmps228 ?_
 (repeat' (first|refine aB fun K hK=>?_|refine aC ?_|(refine hK _ _ ?_;clear hK K)|(refine aA ?_ ?_<;>intro hc<;>try exact jz)|refine cp (G4 _) ?_|refine aD ?_|exact jI|(clear hK K)))
 all_goals(refine bH [.cell 6 59,.tmp 7] ?_;try simp only[go_sem])
 all_goals(unfold yD;(repeat' split)<;>first|rfl|omega|(exfalso;simp_all;done)|(simp_all [cv,vB];done)|(exfalso;simp_all;omega)|skip)
theorem P5(g:ByteArray)(a b:ak)(ha:a.s.size<=1000000)(hb:b.s.size<=1000000):eG prog 177 [rS g,rV a,rV b] (.bj [rV (kN g a b).1,rI (kN g a b).2]):=by
 refine fm func177 ntmps177 ?_
 (repeat' (first|refine aB fun K hK=>?_|refine aC ?_|(refine hK _ _ ?_;clear hK K)|(refine aA ?_ ?_<;>intro hc<;>try exact jz)|refine cp (vL _) ?_|refine cp (IG _ _ _) ?_|refine cp (PI _ _ _) ?_|refine cp (QA _ _ _ ha hb) ?_|refine aD ?_|exact jI|(clear hK K)))
 all_goals(refine bH [.cell 6 59,.tmp 7] ?_;try simp only[go_sem])
 all_goals(try unfold y9);all_goals(try unfold yD)
 all_goals(unfold kN;(repeat' split)<;>first|rfl|omega|(exfalso;simp_all;done)|(simp_all [cv,vB];done)|(exfalso;simp_all;omega)|skip)
theorem QK(g:ByteArray)(a:ak):eG prog 178 [rS g,rV a] (rV (kQ g a)):=by
 refine fm func178 ntmps178 ?_
 (repeat' (first|refine aB fun K hK=>?_|refine aC ?_|(refine hK _ _ ?_;clear hK K)|(refine aA ?_ ?_<;>intro hc<;>try exact jz)|refine cp (vL _) ?_|refine cp (tu _) ?_|refine aD ?_|exact jI|(clear hK K)))
 all_goals(refine bH [.cell 4 59] ?_;try simp only[go_sem])
 all_goals(unfold kQ;(repeat' split)<;>first|rfl|omega|(exfalso;simp_all;done)|(simp_all [cv,vB];done)|(exfalso;simp_all;omega)|skip)
end Go.Proofs.YtfkgcobaheegbaaGreatDoor
namespace Go.Gd
open Go
end Go.Gd
namespace Go.Proofs.YtfkgcobaheegbaaGreatDoor
open Go Go.Gd Tryz
theorem cI.at_{p:ab}(hs:dx p){s:aJ}(h:cI p s)(h2:s.status≠2):ru p s:=by have hd:=h.gM h2 0 jC;have:=hd.cH hs;rw[RS.fy]at this;exact⟨this.fr,this.aK,this.pa,this.AG,this.b0,this.b1,this.a0,this.a1,this.NP,this.n0,this.n1,this.sl,this.s0⟩
end Go.Proofs.YtfkgcobaheegbaaGreatDoor
namespace Go.Gd
open Go
theorem Jo{P:Program}{f:FuncId}{args:List AV}{r:AV}(cw:List Value)(v:Value)(ha:args=cw.map .raw)(hr:∀w:NW,aw w r v)(h:∀w:NW,lD w->Calls P f cw.toArray w.toWorld fun e w'=>e=.returned v/\RowKit.Below w.heap.size w.toWorld w'):eG P f args r:=by
 intro w vs h1 h2;have hvs:vs=cw.toArray:=by
  apply Array.ext';apply List.ext_getElem?;intro i;obtain⟨hl,hv⟩:=h2;subst ha;by_cases hi:i<cw.length
  ·have hi':i<vs.size:=by rw[<-hl];simpa using hi
   have:=dm (hv i (.raw cw[i]) vs[i] (by simp[hi]) (by simp[hi']));simp[hi,hi',this]
  ·have hi':¬i<vs.size:=by rw[<-hl];simpa using hi
   rw[List.getElem?_eq_none (by simpa using hi'),List.getElem?_eq_none (by simpa using hi)]
 subst hvs;refine(h w h1.cn).mono ?_;rintro e W ⟨rfl,hb⟩;have ex:Ext w (entry []) (w.to W) (entry []):={ size:=hb.size,free:=fun b hb' hO=>⟨hb.block b hb',hO⟩,names:=fun _ _ _ _ h=>h,os:=hb.os,tape:=hb.tape,output:=hb.output,rest:=fun b hb' hO hno=>⟨hb.block b hb',hO,hno⟩,base:=rfl };refine⟨v,r,entry [],w.to W,rfl,rfl,⟨rfl,rfl⟩,{ rows:=fun i row hi=>(by cases hi),dO:=h1.dO,inj:=h1.inj,own:=h1.own,cn:=h1.cn.aY ex.toKeep,fin:=fun b hb'=>Nat.lt_of_lt_of_le (h1.fin b hb') hb.size },hr _,ex.pB⟩
def cY(n:Int):Prop:=-9223372036854775808<=n/\n<=9223372036854775807
end Go.Gd
namespace Go.Proofs.YtfkgcobaheegbaaGreatDoor
open Go Go.Gd Tryz
theorem QD (w : NW) (hg : lD w) : Lib.TabIs prog w.toWorld "internal/strconv.uint64pow10" .u64 Lib.pow10Tab := by
 obtain⟨⟨cur,el,fr,h1,h2⟩,_⟩:=hg 0 (Lib.pow10Tab.map (Value.int .u64)) (by unfold A6;simp);unfold Lib.TabIs World.var?
 rw [show prog.globalNamed "internal/strconv.uint64pow10" = some 0 by kernel_rfl];simp only[Option.bind_some,h1,Option.some.injEq];apply Array.ext';simpa using h2
theorem IC(n:Int)(h:cY n):eG prog 91 [rI n] (rS (Be n)):=by
 refine Jo [.int .i64 n] (.string (Be n)) rfl (fun w=>.raw _) fun w hg=>?_
 refine(Tryz.strconv_Itoa n h.1 h.2 w.toWorld (QD w hg)).mono ?_;rintro e W ⟨rfl,k,os,rfl⟩;refine⟨rfl,⟨rfl,rfl,rfl,?_,fun b hb=>?_⟩⟩
 ·show w.heap.size<=(w.heap++os).size;simp
 ·show(w.heap++os)[b]?=w.heap[b]?;rw[Array.getElem?_append_left hb]
theorem MN(b:Bool):eG prog 218 [rB b] (rS (if b=true then(⟨#[116,114,117,101]⟩:ByteArray)else(⟨#[102,97,108,115,101]⟩:ByteArray))):=by
 refine EI [.bool b] (.string (if b=true then(⟨#[116,114,117,101]⟩:ByteArray)else(⟨#[102,97,108,115,101]⟩:ByteArray))) rfl (fun w=>.raw _) fun w=>?_
 refine(Tryz.strconv_FormatBool b w).mono ?_;rintro e W ⟨rfl,rfl⟩;refine⟨?_,RowKit.Below.refl _ _⟩;cases b<;>rfl
theorem j6e(v:ak)(h:cY v.n):eG prog 120 [rV v] (rS (kn v)):=by
 refine fm func120 ntmps120 ?_
 (repeat' (first|refine aB fun K hK=>?_|refine aC ?_|(refine hK _ _ ?_;clear hK K)|(refine aA ?_ ?_<;>intro hc<;>try exact jz)|refine cp (IC _ h) ?_|refine aD ?_|exact jI|(clear hK K)))
 all_goals(refine bH [.tmp 2] ?_;try simp only[go_sem])
 all_goals(unfold kn;(repeat' split)<;>first|rfl|omega|contradiction|(simp_all;done)|skip)
theorem Ob(v:ak)(h:cY v.n):eG prog 160 [rV v] (rS (kn v)):=by
 refine fm func160 ntmps160 ?_
 (repeat' (first|refine aB fun K hK=>?_|refine aC ?_|(refine hK _ _ ?_;clear hK K)|(refine aA ?_ ?_<;>intro hc<;>try exact jz)|refine cp (IC _ h) ?_|refine cp (MN _) ?_|refine aD ?_|exact jI|(clear hK K)))
 all_goals(refine bH [.tmp 2] ?_;try simp only[go_sem])
 all_goals(unfold kn;(repeat' split)<;>first|rfl|omega|contradiction|(simp_all;done)|skip)
end Go.Proofs.YtfkgcobaheegbaaGreatDoor
