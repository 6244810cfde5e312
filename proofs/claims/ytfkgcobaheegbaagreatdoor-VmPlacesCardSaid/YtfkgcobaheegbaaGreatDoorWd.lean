/- Lemmas. No conditions. -/
import Derived.Test.YtfkgcobaheegbaaGreatDoorSoP
set_option linter.all false
set_option maxHeartbeats 1000000
set_option maxRecDepth 10000
namespace Go.Proofs.YtfkgcobaheegbaaGreatDoor
open Go Go.Gd Tryz
theorem sL(n:Int):dV prog 154 [rI n] (rV (vI n)):=by
 refine eQ func154 ntmps154 ?_
 (repeat' (first|refine aA fun K hK=>?_|refine aC ?_|(refine hK _ _ ?_;clear hK K)|(refine aB ?_ ?_<;>intro hc<;>try exact jz)|refine az ?_|exact jI|(clear hK K)))
 (refine bH [.cell 2 59] ?_;try simp only[go_sem])
 rfl
theorem BB(t:Int):dV prog 100 [rI t] (rV (vZ t)):=by
 refine eQ func100 ntmps100 ?_
 (repeat' (first|refine aA fun K hK=>?_|refine aC ?_|(refine hK _ _ ?_;clear hK K)|(refine aB ?_ ?_<;>intro hc<;>try exact jz)|refine az ?_|exact jI|(clear hK K)))
 (refine bH [.cell 2 59] ?_;try simp only[go_sem])
 rfl
theorem wJ(b:Bool):dV prog 172 [rB b] (rV (vB b)):=by
 refine eQ func172 ntmps172 ?_
 (repeat' (first|refine aA fun K hK=>?_|refine aC ?_|(refine hK _ _ ?_;clear hK K)|(refine aB ?_ ?_<;>intro hc<;>try exact jz)|refine cp (BB _) ?_|refine az ?_|exact jI|(clear hK K)))
 all_goals(refine bH [.cell 2 59] ?_;try simp only[go_sem])
 all_goals simp_all [vB,vZ]
theorem Da(s:ByteArray):dV prog 173 [rS s] (rV (vT s)):=by
 refine eQ func173 ntmps173 ?_
 (repeat' (first|refine aA fun K hK=>?_|refine aC ?_|(refine hK _ _ ?_;clear hK K)|(refine aB ?_ ?_<;>intro hc<;>try exact jz)|refine az ?_|exact jI|(clear hK K)))
 (refine bH [.cell 2 59] ?_;try simp only[go_sem])
 rfl
theorem GP(v:ak):dV prog 197 [rV v] (rB (jU v)):=by
 refine eQ func197 ntmps197 ?_
 (repeat' (first|refine aA fun K hK=>?_|refine aC ?_|(refine hK _ _ ?_;clear hK K)|(refine aB ?_ ?_<;>intro hc<;>try exact jz)|refine az ?_|exact jI|(clear hK K)))
 all_goals(refine bH [.tmp 2] ?_;try simp only[go_sem])
 all_goals(unfold jU;(repeat' split)<;>first|rfl|omega|(exfalso;simp_all;done)|skip)
 all_goals(refine LX ?_;by_cases hs:v.s=sE<;>simp[hs]<;>omega)
def yj(g:ByteArray)(a b:Int):ak×Int:=if g=(⟨#[60]⟩:ByteArray)then(vB (decide (a<b)),0)else if g=(⟨#[60,61]⟩:ByteArray)then(vB (decide (a<=b)),0)else(v0,0)
theorem Lh(g:ByteArray)(a b:Int):dV prog 261 [rS g,rI a,rI b] (.bg [rV (yj g a b).1,rI (yj g a b).2]):=by
 refine eQ func261 ntmps261 ?_
 (repeat' (first|refine aA fun K hK=>?_|refine aC ?_|(refine hK _ _ ?_;clear hK K)|(refine aB ?_ ?_<;>intro hc<;>try exact jz)|refine cp (wJ _) ?_|refine az ?_|exact jI|(clear hK K)))
 all_goals(refine bH [.cell 6 59,.tmp 7] ?_;try simp only[go_sem])
 all_goals(unfold yj;(repeat' split)<;>first|rfl|omega|(exfalso;simp_all;done)|(simp_all [cI,vB];done)|(exfalso;simp_all;omega)|skip)
theorem MK(g:ByteArray)(a b:Int):dV prog 226 [rS g,rI a,rI b] (.bg [rV (s9 g a b).1,rI (s9 g a b).2]):=by
 refine eQ func226 ntmps226 ?_
 (repeat' (first|refine aA fun K hK=>?_|refine aC ?_|(refine hK _ _ ?_;clear hK K)|(refine aB ?_ ?_<;>intro hc<;>try exact jz)|refine cp (sL _) ?_|refine cp (Lh _ _ _) ?_|refine az ?_|exact jI|(clear hK K)))
 all_goals(refine bH [.cell 6 59,.tmp 7] ?_;try simp only[go_sem])
 all_goals(try unfold yj)
 all_goals(unfold s9;(repeat' split)<;>first|rfl|omega|(exfalso;simp_all;done)|(simp_all [cI,vB];done)|(exfalso;simp_all;omega)|skip)
def yV(g:ByteArray)(a b:Bool):ak×Int:=if g=(⟨#[124,124]⟩:ByteArray)then(vB (a || b),0)else if g=(⟨#[38,38]⟩:ByteArray)then(vB (a && b),0)else(v0,0)
theorem Mt(g:ByteArray)(a b:Bool):dV prog 227 [rS g,rB a,rB b] (.bg [rV (yV g a b).1,rI (yV g a b).2]):=by
 refine eQ func227 ntmps227 ?_
 (repeat' (first|refine aA fun K hK=>?_|refine aC ?_|(refine hK _ _ ?_;clear hK K)|(refine aB ?_ ?_<;>intro hc<;>try exact jz)|refine cp (wJ _) ?_|refine az ?_|exact jI|(clear hK K)))
 all_goals(refine bH [.cell 6 59,.tmp 7] ?_;try simp only[go_sem])
 all_goals(unfold yV;(repeat' split)<;>first|rfl|omega|(exfalso;simp_all;done)|(simp_all [cI,vB];done)|(exfalso;simp_all;omega)|skip)
def xF(g a b:ByteArray):ak×Int:=if g=(⟨#[43]⟩:ByteArray)then(if(a.size:Int)+b.size>40 then(v0,6)else(vT (a++b),0))else(v0,0)
theorem Nu(g a b:ByteArray)(ha:a.size<=1000000)(hb:b.size<=1000000):dV prog 228 [rS g,rS a,rS b] (.bg [rV (xF g a b).1,rI (xF g a b).2]):=by
 refine eQ func228 ntmps228 ?_
 (repeat' (first|refine aA fun K hK=>?_|refine aC ?_|(refine hK _ _ ?_;clear hK K)|(refine aB ?_ ?_<;>intro hc<;>try exact jz)|refine cp (Da _) ?_|refine az ?_|exact jI|(clear hK K)))
 all_goals(refine bH [.cell 6 59,.tmp 7] ?_;try simp only[go_sem])
 all_goals(unfold xF;(repeat' split)<;>first|rfl|omega|(exfalso;simp_all;done)|(simp_all [cI,vB];done)|(exfalso;simp_all;omega)|skip)
theorem Mq(g:ByteArray)(a b:ak)(ha:a.s.size<=1000000)(hb:b.s.size<=1000000):dV prog 177 [rS g,rV a,rV b] (.bg [rV (ki g a b).1,rI (ki g a b).2]):=by
 refine eQ func177 ntmps177 ?_
 (repeat' (first|refine aA fun K hK=>?_|refine aC ?_|(refine hK _ _ ?_;clear hK K)|(refine aB ?_ ?_<;>intro hc<;>try exact jz)|refine cp (wJ _) ?_|refine cp (MK _ _ _) ?_|refine cp (Mt _ _ _) ?_|refine cp (Nu _ _ _ ha hb) ?_|refine az ?_|exact jI|(clear hK K)))
 all_goals(refine bH [.cell 6 59,.tmp 7] ?_;try simp only[go_sem])
 all_goals(try unfold yV);all_goals(try unfold xF)
 all_goals(unfold ki;(repeat' split)<;>first|rfl|omega|(exfalso;simp_all;done)|(simp_all [cI,vB];done)|(exfalso;simp_all;omega)|skip)
theorem MN(g:ByteArray)(a:ak):dV prog 178 [rS g,rV a] (rV (kI g a)):=by
 refine eQ func178 ntmps178 ?_
 (repeat' (first|refine aA fun K hK=>?_|refine aC ?_|(refine hK _ _ ?_;clear hK K)|(refine aB ?_ ?_<;>intro hc<;>try exact jz)|refine cp (wJ _) ?_|refine cp (sL _) ?_|refine az ?_|exact jI|(clear hK K)))
 all_goals(refine bH [.cell 4 59] ?_;try simp only[go_sem])
 all_goals(unfold kI;(repeat' split)<;>first|rfl|omega|(exfalso;simp_all;done)|(simp_all [cI,vB];done)|(exfalso;simp_all;omega)|skip)
abbrev K0(h:List (List Int)):AV:=bt nY 1 h
end Go.Proofs.YtfkgcobaheegbaaGreatDoor
namespace Go.Gd
open Go
end Go.Gd
namespace Go.Proofs.YtfkgcobaheegbaaGreatDoor
open Go Go.Gd Tryz
theorem MM{p:ab}{s:aK}(h:¬(s.status=2\/s.status=3)):fG p s=cn p s:=by unfold fG;rw[if_neg h]
theorem cV.at_{p:ab}(hs:dT p){s:aK}(h:cV p s)(h2:s.status≠2):qP p s:=by
 have hd:=h.iE h2 0 jC;have:=hd.cB hs;rw[RS.fW]at this;exact⟨this.fr,this.aJ,this.pa,this.yi,this.b0,this.b1,this.a0,this.a1,this.Ol,this.n0,this.n1,this.sl,this.s0⟩
theorem j4J{p:ab}(hs:dT p){s:aK}(h:cV p s):dV prog 23 [.agg (fB p),.agg (jT s)] (rI (fG p s)):=by
 by_cases h2:s.status=2\/s.status=3
 ·have e:fG p s=-1:=by unfold fG;rw[if_pos h2]
  rw[e];refine eQ func23 ntmps23 ?_
  (repeat' (first|refine aA fun K hK=>?_|refine aC ?_|(refine hK _ _ ?_;clear hK K)|(refine aB ?_ ?_<;>intro hc<;>try exact jz)|refine az ?_|exact jI|(clear hK K)))
  all_goals(refine bH [.tmp 4] ?_;try simp only[go_sem])
 ·have e:=MM (p:=p) h2
  have hA:=h.at_ hs (fun e=>h2 (.inl e));rw[e];refine eQ func23 ntmps23 ?_
  (repeat' (first|refine aA fun K hK=>?_|refine aC ?_|(refine hK _ _ ?_;clear hK K)|(refine aB ?_ ?_<;>intro hc<;>try exact jz)|refine cp (Ms p s hA.fr hA.aJ hA.pa hA.yi hA.b0 hA.b1 hA.a0 hA.a1) ?_|refine az ?_|exact jI|(clear hK K)))
  all_goals(refine bH [.tmp 4] ?_;try simp only[go_sem])
theorem Dh(h:List (List Int))(k:Nat)(hk:k<h.length)(n:Int):(h.take (k+1)).foldl io n=(h.take k).foldl io n+(nth h k).length:=by
 rw[Hf hk,List.foldl_append];rfl
theorem MD(h:List (List Int))(hh:fg h<=1000000):dV prog 25 [K0 h] (rI (fg h)):=by
 have hlen:=xc h;have hf:∀k,(h.take k).foldl io (h.length:Int)<=fg h/\0<=(h.take k).foldl io (h.length:Int):=fun k=>by
  have e:fg h=(h.drop k).foldl io ((h.take k).foldl io (h.length:Int)):=by
   unfold fg;rw[<-List.foldl_append,List.take_append_drop]
  rw[e,lK (h.drop k),lK (h.take k)];have:=vP (h.drop k);have:=vP (h.take k);omega
 refine eQ func25 ntmps25 ?_
 (repeat' (first|refine aA fun K hK=>?_|refine aC ?_|(refine hK _ _ ?_;clear hK K)|(refine aB ?_ ?_<;>intro hc<;>try exact jz)|refine az ?_|exact jI|(clear hK K)))
 have hKo:=hK;clear hK;refine fm (S:=Nat) [(3,2),(7,13)] (fun k=>k<=h.length) (fun k=>[(3,rI ((h.take k).foldl io (h.length:Int))),(4,rI k)]) (fun k=>⟨[],[]⟩) (fun k=>h.length-k) 0 jB (fi jD cX) ?_;rintro k hk Kr hKr;have h1:=hf k;have h2:k<h.length->(h.take k).foldl io (h.length:Int)+(nth h k).length<=1000000:=fun hk=>by
  have:=hf (k+1);rw[Dh h k hk]at this;omega
 (refine S ?_;try exact jI)
 (repeat' (first|refine aA fun K hK=>?_|refine aC ?_|(refine hK _ _ ?_;clear hK K)|(refine aB ?_ ?_<;>intro hc<;>try exact jz)|refine hKo _ _ ?_|refine az ?_|exact jI|(clear hK K)))
 ·have e:=Dh h k jB (h.length:Int)
  refine hKr _ _ (fw (k+1) jB jJ jD ?_);rw[e];exact cX
 ·(refine bH [.tmp 2] ?_;try simp only[go_sem])
  rw[show k=h.length from jB,List.take_length];rfl
end Go.Proofs.YtfkgcobaheegbaaGreatDoor
namespace Go.Gd
open Go
theorem Mi{P:Program}{f:FuncId}{args:List AV}{r:AV}(cv:List Value)(v:Value)(ha:args=cv.map .raw)(hr:∀w:NW,av w r v)(h:∀w:NW,lh w->Calls P f cv.toArray w.toWorld fun e w'=>e=.returned v/\RowKit.Below w.heap.size w.toWorld w'):dV P f args r:=by
 intro w vs h1 h2;have hvs:vs=cv.toArray:=by
  apply Array.ext';apply List.ext_getElem?;intro i;obtain⟨hl,hv⟩:=h2;subst ha;by_cases hi:i<cv.length
  ·have hi':i<vs.size:=by rw[<-hl];simpa using hi
   have:=de (hv i (.raw cv[i]) vs[i] (by simp[hi]) (by simp[hi']));simp[hi,hi',this]
  ·have hi':¬i<vs.size:=by rw[<-hl];simpa using hi
   rw[List.getElem?_eq_none (by simpa using hi'),List.getElem?_eq_none (by simpa using hi)]
 subst hvs;refine(h w h1.ct).mono ?_;rintro e W ⟨rfl,hb⟩;have ex:Ext w (entry []) (w.to W) (entry []):={ size:=hb.size,free:=fun b hb' hO=>⟨hb.block b hb',hO⟩,names:=fun _ _ _ _ h=>h,os:=hb.os,tape:=hb.tape,output:=hb.output,rest:=fun b hb' hO hno=>⟨hb.block b hb',hO,hno⟩,base:=rfl };refine⟨v,r,entry [],w.to W,rfl,rfl,⟨rfl,rfl⟩,{ rows:=fun i row hi=>(by cases hi),dF:=h1.dF,inj:=h1.inj,own:=h1.own,ct:=h1.ct.aX ex.toKeep,fin:=fun b hb'=>Nat.lt_of_lt_of_le (h1.fin b hb') hb.size },hr _,ex.qB⟩
def dj(n:Int):Prop:=-9223372036854775808<=n/\n<=9223372036854775807
end Go.Gd
namespace Go.Proofs.YtfkgcobaheegbaaGreatDoor
open Go Go.Gd Tryz
theorem Ix (w : NW) (hg : lh w) : Lib.TabIs prog w.toWorld "internal/strconv.uint64pow10" .u64 Lib.pow10Tab := by
 obtain⟨⟨cur,el,fr,h1,h2⟩,_⟩:=hg 0 (Lib.pow10Tab.map (Value.int .u64)) (by unfold Bn;simp);unfold Lib.TabIs World.var?
 rw [show prog.globalNamed "internal/strconv.uint64pow10" = some 0 by kernel_rfl];simp only[Option.bind_some,h1,Option.some.injEq];apply Array.ext';simpa using h2
theorem GQ(n:Int)(h:dj n):dV prog 91 [rI n] (rS (zp n)):=by
 refine Mi [.int .i64 n] (.string (zp n)) rfl (fun w=>.raw _) fun w hg=>?_
 refine(Tryz.strconv_Itoa n h.1 h.2 w.toWorld (Ix w hg)).mono ?_;rintro e W ⟨rfl,k,os,rfl⟩;refine⟨rfl,⟨rfl,rfl,rfl,?_,fun b hb=>?_⟩⟩
 ·show w.heap.size<=(w.heap++os).size
  simp
 ·show(w.heap++os)[b]?=w.heap[b]?
  rw[Array.getElem?_append_left hb]
theorem Lo(b:Bool):dV prog 218 [rB b] (rS (if b=true then(⟨#[116,114,117,101]⟩:ByteArray)else(⟨#[102,97,108,115,101]⟩:ByteArray))):=by
 refine G5 [.bool b] (.string (if b=true then(⟨#[116,114,117,101]⟩:ByteArray)else(⟨#[102,97,108,115,101]⟩:ByteArray))) rfl (fun w=>.raw _) fun w=>?_
 refine(Tryz.strconv_FormatBool b w).mono ?_;rintro e W ⟨rfl,rfl⟩;refine⟨?_,RowKit.Below.refl _ _⟩;cases b<;>rfl
theorem j5h(v:ak)(h:dj v.n):dV prog 120 [rV v] (rS (jW v)):=by
 refine eQ func120 ntmps120 ?_
 (repeat' (first|refine aA fun K hK=>?_|refine aC ?_|(refine hK _ _ ?_;clear hK K)|(refine aB ?_ ?_<;>intro hc<;>try exact jz)|refine cp (GQ _ h) ?_|refine az ?_|exact jI|(clear hK K)))
 all_goals(refine bH [.tmp 2] ?_;try simp only[go_sem])
 all_goals(unfold jW;(repeat' split)<;>first|rfl|omega|contradiction|(simp_all;done)|skip)
theorem Is(v:ak)(h:dj v.n):dV prog 160 [rV v] (rS (jW v)):=by
 refine eQ func160 ntmps160 ?_
 (repeat' (first|refine aA fun K hK=>?_|refine aC ?_|(refine hK _ _ ?_;clear hK K)|(refine aB ?_ ?_<;>intro hc<;>try exact jz)|refine cp (GQ _ h) ?_|refine cp (Lo _) ?_|refine az ?_|exact jI|(clear hK K)))
 all_goals(refine bH [.tmp 2] ?_;try simp only[go_sem])
 all_goals(unfold jW;(repeat' split)<;>first|rfl|omega|contradiction|(simp_all;done)|skip)
end Go.Proofs.YtfkgcobaheegbaaGreatDoor
