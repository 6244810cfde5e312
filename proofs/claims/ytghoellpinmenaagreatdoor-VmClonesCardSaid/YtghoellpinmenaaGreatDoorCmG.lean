/- Lemmas. No conditions. -/
import Derived.Test.YtghoellpinmenaaGreatDoorCdA
set_option linter.all false
set_option maxHeartbeats 4000000
set_option maxRecDepth 10000
namespace Go.Gd
open Go
def im(h:PI)(k:Nat):Nat:=(h.take k).flatten.length
def ii(h:PI):PJ:=(List.range h.length).map fun k=>((im h (k+1):Nat):Int)
def qT(h:PI):(ii h).length=h.length:=by simp[ii]
variable{h:PI}{k:Nat}
def oZ(hk:k<h.length):im h (k+1)=im h k+(nth h k).length:=by unfold im;rw[List.take_succ,List.getElem?_eq_getElem hk,List.flatten_append,List.length_append,dT hk];simp
def qz(h:PI)(k:Nat):im h k<=h.flatten.length:=by
 unfold im;have:h.flatten=(h.take k).flatten++(h.drop k).flatten:=by rw[<-List.flatten_append,List.take_append_drop]
 rw[this,List.length_append];omega
def xd(hk:k<h.length):nth (ii h) k=(im h (k+1):Nat):=by rw[dT (by rw[qT];exact hk)];simp[ii]
def Nd{i:Nat}(hk:k<h.length)(hi:i<(nth h k).length):nth h.flatten (im h k+i)=nth (nth h k) i:=by
 have e:h.flatten=(h.take k).flatten++(nth h k++(h.drop (k+1)).flatten):=by rw[dT hk,<-List.flatten_cons,List.getElem_cons_drop,<-List.flatten_append,List.take_append_drop]
 rw[e];unfold im;unfold nth at hi ⊢;rw[List.getD_eq_getElem?_getD,List.getElem?_append_right jB,Nat.add_sub_cancel_left,List.getElem?_append_left hi,<-List.getD_eq_getElem?_getD]
def Jm{i:Nat}(n:Int)(hk:k<h.length)(hi:i<(nth h k).length):(h.set k ((nth h k).set i n)).flatten=h.flatten.set (im h k+i) n:=by
 have e:h.flatten=(h.take k).flatten++(nth h k++(h.drop (k+1)).flatten):=by rw[dT hk,<-List.flatten_cons,List.getElem_cons_drop,<-List.flatten_append,List.take_append_drop]
 have e2:h.set k ((nth h k).set i n)=h.take k++((nth h k).set i n::h.drop (k+1)):=by rw[List.set_eq_take_append_cons_drop,if_pos hk]
 rw[e2,List.flatten_append,List.flatten_cons,e];unfold im;rw[List.set_append_right _ _ jB,Nat.add_sub_cancel_left,List.set_append_left _ _ hi]
def N6(l:PJ)(hl:l.length=(nth h k).length)(hk:k<h.length):ii (h.set k l)=ii h:=by
 unfold ii;rw[List.length_set];apply List.map_congr_left;intro j _;congr 1
 unfold im;rw[List.take_set,List.length_flatten,List.length_flatten,List.map_set];congr 1
 apply List.ext_getElem jE;intro i h1 h2;rw[List.getElem_set];split
 ·rename_i e;subst e;rw[List.getElem_map,List.getElem_take,hl,dT hk]
 ·rfl
def gi(h:PI):PG:=[(2,.var 162 [.rs 3 h.flatten.length 1 h.flatten.length,.rs 4 h.length 1 h.length]),(3,.aE 3 1 (h.flatten.map eI)),(4,.aE 3 1 ((ii h).map eI))]
attribute [go_sem] gi
def N8(h:PI)(k:Nat):(h++[List.replicate k 0]).flatten=h.flatten++List.replicate k 0:=jE
def J0(h:PI)(k:Nat):ii (h++[List.replicate k 0])=ii h++[((h.flatten.length+k:Nat):Int)]:=by
 unfold ii;rw[List.length_append,List.length_singleton,List.range_succ,List.map_append,List.map_singleton];congr 1
 ·apply List.map_congr_left;intro j hj;have hj:j<h.length:=List.mem_range.1 hj;congr 1
  unfold im;rw[List.take_append_of_le_length jB]
 ·congr 2
  unfold im;rw[List.take_of_length_le jE];simp
def IT(k:Nat):(List.replicate k (0:Int)).map eI=List.replicate k [AV.raw (.int .i64 0)]:=by simp[eI]
def hS(p:ab):PH:=[aX eG 5 p.aa.nodes,aX fZ 5 p.aa.au,aX eI 1 p.types,aX eI 1 p.slots,aX eI 1 p.fn,aX eI 1 p.size]
def BL(p:ab):fD p=hS p:=rfl
def bH(p:ab)(L:List aq):PG:=[(0,.var 159 (hS p++[.rs 1 L.length 4 L.length])),(1,.aE 118 4 (L.map cO))]
attribute [go_sem] bH hS
def Py(f:Int->Int->List aq)(k:Int)(L:PJ)(i:Nat):(bn f k (L.take i) []).length<=(bn f k L []).length:=by have e:=BA f (L.take i) (L.drop i) k [];rw[List.take_append_drop]at e;rw[e,uM f (L.drop i)];simp
def HO(f:Int->Int->List aq)(k:Int)(L:PJ)(i:Nat)(h:i<L.length):bn f k (L.take (i+1)) []=bn f k (L.take i) []++f (nth L i) (k+(bn f k (L.take i) []).length):=by rw[show L.take (i+1)=L.take i++[nth L i] by rw[List.take_succ,List.getElem?_eq_getElem h,dT h];rfl,BA];rfl
end Go.Gd
namespace Go.Proofs.YtghoellpinmenaaGreatDoor
open Go Go.Gd Tryz
def AQ(h:PI)(a:Int)(hl:h.length<=1000)(ha:a<1\/(h.length:Int)<a):ai prog 82 [.pt 2 0 0 0,rI a] (gi h) (fun r l=>r=.raw (.slice none 0 0)/\l=gi h):=by
 have Rg:=qT h;by_cases h1:a<1
 ·refine aQ func82 ntmps82 ?_;refine S ?_
  (repeat' (first|refine ax fun K hK=>?_|refine az ?_|(refine hK _ _ ?_;clear hK K)|(refine aw ?_ ?_<;>intro hc<;>try exact jz)|refine ay ?_|exact jI|(clear hK K)))
  (refine bQ [.tmp 4] ?_ ?_<;>(try simp only[go_sem]))
 ·refine aQ func82 ntmps82 ?_;refine S ?_
  (repeat' (first|refine ax fun K hK=>?_|refine az ?_|(refine hK _ _ ?_;clear hK K)|(refine aw ?_ ?_<;>intro hc<;>try exact jz)|refine ay ?_|exact jI|(clear hK K)))
  (refine bQ [.tmp 4] ?_ ?_<;>(try simp only[go_sem]))
def vK(h:PI)(k:Nat)(a:Int)(ha:a=(k:Int)+1)(hl:h.length<=1000)(hf:h.flatten.length<=1000)(hk:k<h.length):ai prog 82 [.pt 2 0 0 0,rI a] (gi h) (fun r l=>r=.rv 3 h.flatten.length 1 (im h k) (nth h k).length/\l=gi h):=by
 have Rg:=qT h;have e1:nth (ii h) (a-1).toNat=(im h k+(nth h k).length:Nat):=by rw[show(a-1).toNat=k from jB,xd hk,oZ hk]
 have e2:=oZ hk;have e3:=qz h (k+1);generalize (nth h k).length=c at*;by_cases h1:k=0
 ·have e0:im h k=0:=by subst h1;rfl
  rw[e0]at e1 e2;rw[e0];refine aQ func82 ntmps82 ?_;refine S ?_
  (have W:=jA Rg e1;repeat' (first|refine ax fun K hK=>?_|refine az ?_|(refine hK _ _ ?_;clear hK K)|(refine aw ?_ ?_<;>intro hc<;>try exact jz)|refine ay ?_|exact jI|(clear hK K)))
  (refine bQ [.tmp 4] ?_ ?_<;>(try simp only[go_sem]))
  rw[Nat.sub_zero]
 ·have e4:nth (ii h) (a-2).toNat=(im h k:Nat):=by
   have e4:=xd (h:=h) (k:=k-1) jB;rw[show k-1+1=k from jB]at e4;rw[show(a-2).toNat=k-1 from jB];exact e4
  generalize im h k=o at*;refine aQ func82 ntmps82 ?_;refine S ?_
  (have W:=jA Rg (jA e1 (e4));repeat' (first|refine ax fun K hK=>?_|refine az ?_|(refine hK _ _ ?_;clear hK K)|(refine aw ?_ ?_<;>intro hc<;>try exact jz)|refine ay ?_|exact jI|(clear hK K)))
  (refine bQ [.tmp 4] ?_ ?_<;>(try simp only[go_sem]))
  rw[Nat.add_sub_cancel_left]
def Im(h:PI)(a:Int)(hl:h.length<=1000)(hf:h.flatten.length<=1000):ai prog 118 [.pt 2 0 0 0,rI a] (gi h) (fun r l=>r=rI (MV.aV h a).length/\l=gi h):=by
 unfold MV.aV;by_cases e:a<1\/(h.length:Int)<a
 ·have Qk:=AQ h a hl e;rw[if_pos e];refine aQ func118 ntmps118 ?_;refine S ?_
  (repeat' (first|refine ax fun K hK=>?_|refine az ?_|(refine hK _ _ ?_;clear hK K)|(refine aw ?_ ?_<;>intro hc<;>try exact jz)|refine cm (Qk) ?_|refine ay ?_|exact jI|(clear hK K)))
  (refine bQ [.tmp 4] ?_ ?_<;>(try simp only[go_sem]))
 ·have Qk:=vK h (a-1).toNat a jB hl hf jB;rw[if_neg e];refine aQ func118 ntmps118 ?_;refine S ?_
  (repeat' (first|refine ax fun K hK=>?_|refine az ?_|(refine hK _ _ ?_;clear hK K)|(refine aw ?_ ?_<;>intro hc<;>try exact jz)|refine cm (Qk) ?_|refine ay ?_|exact jI|(clear hK K)))
  (refine bQ [.tmp 4] ?_ ?_<;>(try simp only[go_sem]))
def Nr(h:PI)(a i:Int)(hl:h.length<=1000)(hf:h.flatten.length<=1000):ai prog 119 [.pt 2 0 0 0,rI a,rI i] (gi h) (fun r l=>r=.ba [rI (if i<0\/((MV.aV h a).length:Int)<=i then 0 else nth (MV.aV h a) i.toNat),rI (if i<0\/((MV.aV h a).length:Int)<=i then 2 else 0)]/\l=gi h):=by
 by_cases e:a<1\/(h.length:Int)<a
 ·have Qk:=AQ h a hl e;have e2:MV.aV h a=[]:=by unfold MV.aV;rw[if_pos e]
  have e3:i<0\/(([]:PJ).length:Int)<=i:=by simp only[List.length_nil];omega
  rw[e2,if_pos e3,if_pos e3];by_cases h0:i<0
  ·refine aQ func119 ntmps119 ?_;refine S ?_
   (repeat' (first|refine ax fun K hK=>?_|refine az ?_|(refine hK _ _ ?_;clear hK K)|(refine aw ?_ ?_<;>intro hc<;>try exact jz)|refine cm (Qk) ?_|refine ay ?_|exact jI|(clear hK K)))
   (refine bQ [.tmp 6,.tmp 7] ?_ ?_<;>(try simp only[go_sem]))
  ·refine aQ func119 ntmps119 ?_;refine S ?_
   (repeat' (first|refine ax fun K hK=>?_|refine az ?_|(refine hK _ _ ?_;clear hK K)|(refine aw ?_ ?_<;>intro hc<;>try exact jz)|refine cm (Qk) ?_|refine ay ?_|exact jI|(clear hK K)))
   (refine bQ [.tmp 6,.tmp 7] ?_ ?_<;>(try simp only[go_sem]))
 ·have Qk:=vK h (a-1).toNat a jB hl hf jB;have e2:MV.aV h a=nth h (a-1).toNat:=by unfold MV.aV;rw[if_neg e]
  rw[e2];have hk:(a-1).toNat<h.length:=jB;generalize (a-1).toNat=k at*;have Va:=oZ hk;have Qa:=qz h (k+1);by_cases e3:i<0\/((nth h k).length:Int)<=i
  ·rw[if_pos e3,if_pos e3];by_cases h0:i<0
   ·refine aQ func119 ntmps119 ?_;refine S ?_
    (repeat' (first|refine ax fun K hK=>?_|refine az ?_|(refine hK _ _ ?_;clear hK K)|(refine aw ?_ ?_<;>intro hc<;>try exact jz)|refine cm (Qk) ?_|refine ay ?_|exact jI|(clear hK K)))
    (refine bQ [.tmp 6,.tmp 7] ?_ ?_<;>(try simp only[go_sem]))
   ·refine aQ func119 ntmps119 ?_;refine S ?_
    (repeat' (first|refine ax fun K hK=>?_|refine az ?_|(refine hK _ _ ?_;clear hK K)|(refine aw ?_ ?_<;>intro hc<;>try exact jz)|refine cm (Qk) ?_|refine ay ?_|exact jI|(clear hK K)))
    (refine bQ [.tmp 6,.tmp 7] ?_ ?_<;>(try simp only[go_sem]))
  ·rw[if_neg e3,if_neg e3];have hn:=Nd (i:=i.toNat) hk jB;refine aQ func119 ntmps119 ?_;refine S ?_
   (have W:=hn;repeat' (first|refine ax fun K hK=>?_|refine az ?_|(refine hK _ _ ?_;clear hK K)|(refine aw ?_ ?_<;>intro hc<;>try exact jz)|refine cm (Qk) ?_|refine ay ?_|exact jI|(clear hK K)))
   (refine bQ [.tmp 6,.tmp 7] ?_ ?_<;>(try simp only[go_sem]))
def Jt(h:PI)(a i n:Int)(hl:h.length<=1000)(hf:h.flatten.length<=1000)(hi:¬(i<0\/((MV.aV h a).length:Int)<=i)):ai prog 120 [.pt 2 0 0 0,rI a,rI i,rI n] (gi h) (fun r l=>r=rI 0/\l=gi (h.set (a-1).toNat ((nth h (a-1).toNat).set i.toNat n))):=by
 have e:¬(a<1\/(h.length:Int)<a):=fun e=>hi (by unfold MV.aV;rw[if_pos e];simp only[List.length_nil];omega)
 have e2:MV.aV h a=nth h (a-1).toNat:=by unfold MV.aV;rw[if_neg e]
 rw[e2]at hi;have Qk:=vK h (a-1).toNat a jB hl hf jB;have hk:(a-1).toNat<h.length:=jB;generalize (a-1).toNat=k at*;have Va:=oZ hk;have Qa:=qz h (k+1);have hn:=Jm n hk (i:=i.toNat) jB;have YY:=N6 (h:=h) (k:=k) ((nth h k).set i.toNat n) (by rw[List.length_set]) hk;have QT:(h.flatten.set (im h k+i.toNat) n).length=h.flatten.length:=List.length_set;unfold gi;rw[hn,YY];simp only[List.length_set,List.map_set];refine aQ func120 ntmps120 ?_;refine S ?_
 (repeat' (first|refine ax fun K hK=>?_|refine az ?_|(refine hK _ _ ?_;clear hK K)|(refine aw ?_ ?_<;>intro hc<;>try exact jz)|refine cm (Qk) ?_|refine ay ?_|exact jI|(clear hK K)))
 (refine bQ [.tmp 8] ?_ ?_<;>(try simp only[go_sem]))
def LQ(h:PI)(a i n:Int)(hl:h.length<=1000)(hf:h.flatten.length<=1000)(hi:i<0\/((MV.aV h a).length:Int)<=i):ai prog 120 [.pt 2 0 0 0,rI a,rI i,rI n] (gi h) (fun r l=>r=rI 2/\l=gi h):=by
 by_cases e:a<1\/(h.length:Int)<a
 ·have Qk:=AQ h a hl e;by_cases h0:i<0
  ·refine aQ func120 ntmps120 ?_;refine S ?_
   (repeat' (first|refine ax fun K hK=>?_|refine az ?_|(refine hK _ _ ?_;clear hK K)|(refine aw ?_ ?_<;>intro hc<;>try exact jz)|refine cm (Qk) ?_|refine ay ?_|exact jI|(clear hK K)))
   (refine bQ [.tmp 8] ?_ ?_<;>(try simp only[go_sem]))
  ·refine aQ func120 ntmps120 ?_;refine S ?_
   (repeat' (first|refine ax fun K hK=>?_|refine az ?_|(refine hK _ _ ?_;clear hK K)|(refine aw ?_ ?_<;>intro hc<;>try exact jz)|refine cm (Qk) ?_|refine ay ?_|exact jI|(clear hK K)))
   (refine bQ [.tmp 8] ?_ ?_<;>(try simp only[go_sem]))
 ·have Qk:=vK h (a-1).toNat a jB hl hf jB;have e2:MV.aV h a=nth h (a-1).toNat:=by unfold MV.aV;rw[if_neg e]
  rw[e2]at hi;have hk:(a-1).toNat<h.length:=jB;generalize (a-1).toNat=k at*;have Va:=oZ hk;have Qa:=qz h (k+1);by_cases h0:i<0
  ·refine aQ func120 ntmps120 ?_;refine S ?_
   (repeat' (first|refine ax fun K hK=>?_|refine az ?_|(refine hK _ _ ?_;clear hK K)|(refine aw ?_ ?_<;>intro hc<;>try exact jz)|refine cm (Qk) ?_|refine ay ?_|exact jI|(clear hK K)))
   (refine bQ [.tmp 8] ?_ ?_<;>(try simp only[go_sem]))
  ·refine aQ func120 ntmps120 ?_;refine S ?_
   (repeat' (first|refine ax fun K hK=>?_|refine az ?_|(refine hK _ _ ?_;clear hK K)|(refine aw ?_ ?_<;>intro hc<;>try exact jz)|refine cm (Qk) ?_|refine ay ?_|exact jI|(clear hK K)))
   (refine bQ [.tmp 8] ?_ ?_<;>(try simp only[go_sem]))
def IJ(h:PI)(n:Int)(hn:n<0\/16<n)(hl:h.length<=40)(hf:h.flatten.length<=40):ai prog 122 [.pt 2 0 0 0,rI n] (gi h) (fun r l=>r=.ba [rI 0,rI 7]/\l=gi h):=by
 have Rg:=qT h;refine aQ func122 ntmps122 ?_
 (refine S ?_;try exact jI)
 by_cases h0:n<0
 ·(repeat' (first|refine ax fun K hK=>?_|refine az ?_|(with_reducible refine gR 3 ?_);refine dE 3 (aK 0 16) mixed ?_|(with_reducible refine gR 6 ?_);refine dE 6 (aK 0 15) mixed ?_|(refine hK _ _ ?_;clear hK K)|(refine aw ?_ ?_<;>intro hc<;>try exact jz)|refine ay ?_|exact jI|(clear hK K)))
  (refine bQ [.tmp 4,.tmp 5] ?_ ?_<;>(try simp only[go_sem]))
 ·(repeat' (first|refine ax fun K hK=>?_|refine az ?_|(with_reducible refine gR 3 ?_);refine dE 3 (aK 0 16) mixed ?_|(with_reducible refine gR 6 ?_);refine dE 6 (aK 0 15) mixed ?_|(refine hK _ _ ?_;clear hK K)|(refine aw ?_ ?_<;>intro hc<;>try exact jz)|refine ay ?_|exact jI|(clear hK K)))
  (refine bQ [.tmp 4,.tmp 5] ?_ ?_<;>(try simp only[go_sem]))
def NK(h:PI)(n:Int)(hn:0<=n/\n<=16)(hc:40<(h.length:Int)+h.flatten.length+n+1)(hl:h.length<=40)(hf:h.flatten.length<=40):ai prog 122 [.pt 2 0 0 0,rI n] (gi h) (fun r l=>r=.ba [rI 0,rI 4]/\l=gi h):=by
 have Rg:=qT h;refine aQ func122 ntmps122 ?_;refine S ?_
 (repeat' (first|refine ax fun K hK=>?_|refine az ?_|(with_reducible refine gR 3 ?_);refine dE 3 (aK 0 16) mixed ?_|(with_reducible refine gR 6 ?_);refine dE 6 (aK 0 15) mixed ?_|(refine hK _ _ ?_;clear hK K)|(refine aw ?_ ?_<;>intro hc<;>try exact jz)|refine ay ?_|exact jI|(clear hK K)))
 (refine bQ [.tmp 4,.tmp 5] ?_ ?_<;>(try simp only[go_sem]))
def Nz(h:PI)(k:Nat)(hn:k<=16)(hc:h.length+h.flatten.length+k+1<=40):ai prog 122 [.pt 2 0 0 0,rI k] (gi h) (fun r l=>r=.ba [rI (h.length+1:Nat),rI 0]/\l=gi (h++[List.replicate k 0])):=by
 have Rg:=qT h;unfold gi;rw[N8,J0,List.map_append,IT];refine aQ func122 ntmps122 ?_;refine S ?_
 (repeat' (first|refine ax fun K hK=>?_|refine az ?_|(with_reducible refine gR 3 ?_);refine dE 3 (aK 0 16) mixed ?_|(with_reducible refine gR 6 ?_);refine dE 6 (aK 0 15) mixed ?_|(refine hK _ _ ?_;clear hK K)|(refine aw ?_ ?_<;>intro hc<;>try exact jz)|(refine L4 (e:=3) (z0:=.int .i64 0) (css:=h.flatten.map eI) jG ⟨.i64,jG⟩ jG jG rfl (by simp only[go_sem];rfl) (by rw[List.length_map]) (by rw[List.length_map]) (by simp only[go_sem,room,List.length_map];omega) ?_;simp only[List.length_map];try refine S ?_)|refine ay ?_|exact jI|(clear hK K)))
 (refine bQ [.tmp 4,.tmp 5] ?_ ?_<;>(try simp only[go_sem]))
 simp[eI]
def nL(p:ab)(L:List aq)(a:Int)(h0:0<=a)(h1:a.toNat<p.aa.nodes.length):ai prog 107 [.pt 0 0 0 0,rI a] (bH p L) (fun r l=>r=.agg (eG (ao p a))/\l=bH p L):=by
 unfold ao;refine aQ func107 ntmps107 ?_;refine S ?_
 (repeat' (first|refine ax fun K hK=>?_|refine az ?_|(refine hK _ _ ?_;clear hK K)|(refine aw ?_ ?_<;>intro hc<;>try exact jz)|refine al 5 ?_|(refine fc ?_ ?_<;>intro hc<;>try exact jz)|refine ay ?_|exact jI|(clear hK K)))
 (refine bA [.cell 4 78] ?_;try simp only[go_sem])
def iA(p:ab)(L:List aq)(op a:Int)(hL:L.length<=1000000):ai prog 73 [.pt 0 0 0 0,rI op,rI a] (bH p L) (fun r l=>r=rI L.length/\l=bH p (L++[⟨op,a,0,sE⟩])):=by
 refine aQ func73 ntmps73 ?_;refine S ?_
 (repeat' (first|refine ax fun K hK=>?_|refine az ?_|(refine hK _ _ ?_;clear hK K)|(refine aw ?_ ?_<;>intro hc<;>try exact jz)|(refine fc ?_ ?_<;>intro hc<;>try exact jz)|refine ay ?_|exact jI|(clear hK K)))
 (refine bA [.tmp 6] ?_;try simp only[go_sem])
 rw[show((L.length+1:Nat):Int)-1=(L.length:Int) from jB]
def Ad(p:ab)(L:List aq)(k:Nat)(hk:k<L.length)(hL:L.length<=1000000):ai prog 167 [.pt 0 0 0 0,rI k] (bH p L) (fun r l=>r=.ba []/\l=bH p (L.set k { nth L k with a:=L.length })):=by
 refine aQ func167 ntmps167 ?_;refine S ?_
 (repeat' (first|refine ax fun K hK=>?_|refine az ?_|(with_reducible refine gR 0 ?_);refine dE 0 (aK 0 13) mixed ?_|(refine hK _ _ ?_;clear hK K)|(refine aw ?_ ?_<;>intro hc<;>try exact jz)|(refine fc ?_ ?_<;>intro hc<;>try exact jz)|refine ay ?_|exact jI|(clear hK K)))
 (refine bQ [] ?_ ?_<;>(try simp only[go_sem]))
def yA(p:ab)(a:Int):List aq:=if(ao p a).kind=1 then[iI 2 (ao p a).n]else if(ao p a).kind=2 then[iI 3 (ao p a).n]else if(ao p a).kind=3 then[⟨4,0,0,(ao p a).name⟩]else if(ao p a).kind=4 then[⟨5,nth p.slots a.toNat,nth p.types a.toNat,sE⟩]else if(ao p a).kind=19 then[iI 14 0]else[]
def Lc(p:ab)(L:List aq)(a:Int)(h0:0<=a)(h2:a.toNat<p.slots.length)(h3:a.toNat<p.types.length)(hL:L.length<=1000000) :
  ai prog 170 [.pt 0 0 0 0,.agg (eG (ao p a)),rI a] (bH p L) (fun r l=>r=.ba []/\l=bH p (L++yA p a)):=by
 unfold yA;have QN:=iA p L 2 (ao p a).n hL;have Sb:=iA p L 3 (ao p a).n hL;have TD:=iA p L 14 0 hL;generalize ao p a=nd at*;by_cases k1:nd.kind=1
 ·rw[if_pos k1];refine aQ func170 ntmps170 ?_;refine S ?_
  (have W:=k1;repeat' (first|refine ax fun K hK=>?_|refine az ?_|(with_reducible refine gR 7 ?_);refine dE 7 (aK 0 13) mixed ?_|(with_reducible refine gR 9 ?_);refine dE 9 (aK 0 27) mixed ?_|(refine hK _ _ ?_;clear hK K)|(refine aw ?_ ?_<;>intro hc<;>try exact jz)|refine bx 5 ?_|refine cm (QN) ?_|refine cm (Sb) ?_|refine cm (TD) ?_|(refine fc ?_ ?_<;>intro hc<;>try exact jz)|refine ay ?_|exact jI|(clear hK K)))
  (refine bA [] ?_;try simp only[go_sem])
 rw[if_neg k1];have n1:=eq_false k1;by_cases k2:nd.kind=2
 ·rw[if_pos k2];refine aQ func170 ntmps170 ?_;refine S ?_
  (have W:=k2;repeat' (first|refine ax fun K hK=>?_|refine az ?_|(with_reducible refine gR 7 ?_);refine dE 7 (aK 0 13) mixed ?_|(with_reducible refine gR 9 ?_);refine dE 9 (aK 0 27) mixed ?_|(refine hK _ _ ?_;clear hK K)|(refine aw ?_ ?_<;>intro hc<;>try exact jz)|refine bx 5 ?_|refine cm (QN) ?_|refine cm (Sb) ?_|refine cm (TD) ?_|(refine fc ?_ ?_<;>intro hc<;>try exact jz)|refine ay ?_|exact jI|(clear hK K)))
  (refine bA [] ?_;try simp only[go_sem])
 rw[if_neg k2];have n2:=eq_false k2;by_cases k3:nd.kind=3
 ·rw[if_pos k3];refine aQ func170 ntmps170 ?_;refine S ?_
  (have W:=k3;repeat' (first|refine ax fun K hK=>?_|refine az ?_|(with_reducible refine gR 7 ?_);refine dE 7 (aK 0 13) mixed ?_|(with_reducible refine gR 9 ?_);refine dE 9 (aK 0 27) mixed ?_|(refine hK _ _ ?_;clear hK K)|(refine aw ?_ ?_<;>intro hc<;>try exact jz)|refine bx 5 ?_|refine cm (QN) ?_|refine cm (Sb) ?_|refine cm (TD) ?_|(refine fc ?_ ?_<;>intro hc<;>try exact jz)|refine ay ?_|exact jI|(clear hK K)))
  (refine bA [] ?_;try simp only[go_sem])
 rw[if_neg k3];have n3:=eq_false k3;by_cases k4:nd.kind=4
 ·rw[if_pos k4];refine aQ func170 ntmps170 ?_;refine S ?_
  (have W:=k4;repeat' (first|refine ax fun K hK=>?_|refine az ?_|(with_reducible refine gR 7 ?_);refine dE 7 (aK 0 13) mixed ?_|(with_reducible refine gR 9 ?_);refine dE 9 (aK 0 27) mixed ?_|(refine hK _ _ ?_;clear hK K)|(refine aw ?_ ?_<;>intro hc<;>try exact jz)|refine bx 5 ?_|refine cm (QN) ?_|refine cm (Sb) ?_|refine cm (TD) ?_|(refine fc ?_ ?_<;>intro hc<;>try exact jz)|refine ay ?_|exact jI|(clear hK K)))
  (refine bA [] ?_;try simp only[go_sem])
 rw[if_neg k4];have n4:=eq_false k4;by_cases k5:nd.kind=19
 ·rw[if_pos k5];refine aQ func170 ntmps170 ?_;refine S ?_
  (have W:=k5;repeat' (first|refine ax fun K hK=>?_|refine az ?_|(with_reducible refine gR 7 ?_);refine dE 7 (aK 0 13) mixed ?_|(with_reducible refine gR 9 ?_);refine dE 9 (aK 0 27) mixed ?_|(refine hK _ _ ?_;clear hK K)|(refine aw ?_ ?_<;>intro hc<;>try exact jz)|refine bx 5 ?_|refine cm (QN) ?_|refine cm (Sb) ?_|refine cm (TD) ?_|(refine fc ?_ ?_<;>intro hc<;>try exact jz)|refine ay ?_|exact jI|(clear hK K)))
  (refine bA [] ?_;try simp only[go_sem])
 rw[if_neg k5,List.append_nil];have n5:=eq_false k5;refine aQ func170 ntmps170 ?_;refine S ?_
 (have W:=jA n1 (jA n2 (jA n3 (jA n4 (n5))));repeat' (first|refine ax fun K hK=>?_|refine az ?_|(with_reducible refine gR 7 ?_);refine dE 7 (aK 0 13) mixed ?_|(with_reducible refine gR 9 ?_);refine dE 9 (aK 0 27) mixed ?_|(refine hK _ _ ?_;clear hK K)|(refine aw ?_ ?_<;>intro hc<;>try exact jz)|refine bx 5 ?_|(refine fc ?_ ?_<;>intro hc<;>try exact jz)|refine ay ?_|exact jI|(clear hK K)))
 (refine bA [] ?_;try simp only[go_sem])
attribute [local go_sem] iI
theorem AI{p:ab}(ht:aO p.aa):∀(n m:Nat) (a k:Int),0<=a->a.toNat<p.aa.nodes.length->bW (bE p.aa.nodes a)->a.toNat<n->a.toNat<m->aZ p n a k=aZ p m a k
 |0,m,a,k,_,_,_,hn,_=>by omega
 |n+1,0,a,k,_,_,_,_,hm=>jB
 |n+1,m+1,a,k,h0,hl,hk,hn,hm=>by
  have sh:=(ht.shape a.toNat hl).1;have hb:=(ht.shape a.toNat hl).2.1;have P8:bW (ao p a).kind:=hk;unfold bW at P8;have aA:∀x k,x∈(ao p a).l->bW (bE p.aa.nodes x)->aZ p n x k=aZ p m x k:=fun x k hx Qc=>by have:=hb x hx;exact AI ht n m x k this.1 jB Qc jB jB
  rw[lf,lf];have Qs:(ao p a).kind=1\/(ao p a).kind=2\/(ao p a).kind=3\/(ao p a).kind=4\/((ao p a).kind=5\/(ao p a).kind=6\/(ao p a).kind=7\/(ao p a).kind=8)\/(ao p a).kind=9:=jB;rcases Qs with e|e|e|e|e|e
  ·rw[if_pos e,if_pos e]
  ·rw[jN,if_pos e,jN,if_pos e]
  ·rw[jN,jN,if_pos e,jN,jN,if_pos e]
  ·rw[jN,jN,jN,if_pos e,jN,jN,jN,if_pos e]
  ·obtain⟨x,B',hx⟩:=sh.one (by have e:(nth p.aa.nodes a.toNat).kind=5\/(nth p.aa.nodes a.toNat).kind=6\/(nth p.aa.nodes a.toNat).kind=7\/(nth p.aa.nodes a.toNat).kind=8:=e;omega);have B':(ao p a).l=[x]:=B';have QP:nth (ao p a).l 0=x:=by rw[B'];rfl
   have e1:=aA x k (by rw[B'];simp) hx;rw[QP,e1];rcases e with e|e|e|e<;>simp only[e,Int.reduceEq,↓reduceIte]
  ·obtain⟨x,y,B',hx,hy⟩:=sh.two (.inl e);have B':(ao p a).l=[x,y]:=B';have QP:nth (ao p a).l 0=x:=by rw[B'];rfl
   have Tl:nth (ao p a).l 1=y:=by rw[B'];rfl
   have e1:=fun k=>aA x k (by rw[B'];simp) hx
   have e2:=fun k=>aA y k (by rw[B'];simp) hy
   rw[QP,Tl];simp only[e,e1,e2,Int.reduceEq,↓reduceIte]
structure jj(p:ab):Prop where
 ok:fG p
 neg:∀k,k<p.aa.nodes.length->¬iM (nth p.aa.nodes k).kind->nth p.slots k<=0
 pos:∀k,k<p.aa.nodes.length->iM (nth p.aa.nodes k).kind->0<=nth p.slots k
def z8(p:ab)(n:Nat):Prop:=∀(a:Int) (L:List aq),0<=a->a.toNat<p.aa.nodes.length->ff (bE p.aa.nodes a)->a.toNat<n->¬(1000000<L.length+3000*n)->ai prog 151 [.pt 0 0 0 0,rI a] (bH p L) (fun r l=>r=.ba []/\l=bH p (L++iU p n a L.length))
variable{p:ab}{n:Nat}
def me{a k:Int}(h:bW (bE p.aa.nodes a)):iU p n a k=aZ p n a k:=by have h:bW (ao p a).kind:=h;unfold bW at h;rw[sR,jN,jN,jN]
def KY(hp:jj p)(hx:z8 p n)(a:Int)(L:List aq)(h0:0<=a)(hl:a.toNat<p.aa.nodes.length)(hk:(ao p a).kind=9)(hn:a.toNat<n+1)(hL:¬(1000000<L.length+3000*(n+1))):ai prog 168 [.pt 0 0 0 0,.agg (eG (ao p a))] (bH p L) (fun r l=>r=.ba []/\l=bH p (L++aZ p (n+1) a L.length)):=by
 have ht:=hp.ok.ok.aa;have hb:=(ht.shape a.toNat hl).2.1;obtain⟨x,y,B',Ql,S6⟩:=(ht.shape a.toNat hl).1.two (.inl hk);have B':(ao p a).l=[x,y]:=B';have QP:nth (ao p a).l 0=x:=by rw[B'];rfl
 have Tl:nth (ao p a).l 1=y:=by rw[B'];rfl
 have bx:=hb x (by show x∈(ao p a).l;rw[B'];simp);have by_:=hb y (by show y∈(ao p a).l;rw[B'];simp);have J':=fun(z:Int) (k:Int) (lo:Nat)=>@lB p ht n z k lo
 obtain⟨lo,O'⟩:=(ht.shape a.toNat hl).2.2;have O':aJ p.aa.nodes lo (ao p a).l a.toNat:=O';rw[B']at O';obtain⟨c1,c2,c3,c4,c5,c6⟩:=jW O';obtain⟨d1,d2,d3,d4,d5⟩:=jL c6;have lx:=fun k=>J' x k lo c1 jB Ql c5
 have ly:=fun k=>J' y k _ d1 jB S6 d5
 have hm:=ht.many;have ex:=hx x L bx.1 jB (.inl Ql) jB jB;rw[me Ql]at ex;have ey:=fun(M:List aq) (hM:M.length<=L.length+2900)=>hx y M by_.1 jB (.inl S6) jB jB
 have hL:¬(997000<L.length):=jB;clear hx;rename_i WZ;clear WZ;simp only[me S6]at ey;have e9:aZ p (n+1) a L.length=(let x:=aZ p n x L.length;if kF (ao p a).name=7 then x++aZ p n y (L.length+x.length)++[⟨7,0,0,(ao p a).name⟩]else let y:=aZ p n y (L.length+x.length+1);x++[iI (kF (ao p a).name) (L.length+x.length+1+y.length)]++y):=by rw[lf];simp only[hk,QP,Tl,Int.reduceEq,↓reduceIte]
 rw[e9];clear e9;generalize hX:aZ p n x (L.length:Int)=X at*;have lX:X.length<=1300:=by have:=lx L.length;rw[hX]at this;omega
 have pt:=fun op=>iA p (L++X) op 0 (by simp only[List.length_append];omega)
 have ey1:=ey (L++X) (by simp only[List.length_append];omega);generalize ao p a=nd at*;by_cases k1:nd.name=(⟨#[38,38]⟩:PL)
 ·rw[k1];have hs:kF (⟨#[38,38]⟩:PL)=18:=by unfold kF;rw[if_pos rfl]
  simp only[hs,Int.reduceEq,↓reduceIte];rw[show(L.length:Int)+X.length+1=((L++X++[iI 18 0]).length:Nat) by simp;omega];have ey2:=ey (L++X++[iI 18 0]) (by simp only[List.length_append,List.length_singleton];omega);generalize hY:aZ p n y ((L++X++[iI 18 0]).length:Int)=Y at*;have lY:Y.length<=1300:=by have:=ly (L++X++[iI 18 0]).length;rw[hY]at this;omega
  have hh:=Ad p (L++X++[iI 18 0]++Y) (L++X).length (by simp only[List.length_append,List.length_singleton];omega) (by simp only[List.length_append,List.length_singleton];omega);rw[show nth (L++X++[iI 18 0]++Y) (L++X).length=iI 18 0 by rw[List.append_assoc];simp[nth]]at hh;have e8:(L++X++[iI 18 0]++Y).set (L++X).length ⟨18,((L++X++[iI 18 0]++Y).length:Nat),0,sE⟩=L++(X++[iI 18 (((L++X++[iI 18 0]).length:Nat)+Y.length)]++Y):=by rw[List.append_assoc,List.set_append_right _ _ jl,Nat.sub_self];simp[iI];omega
  have e8:bH p ((L++X++[iI 18 0]++Y).set (L++X).length { iI 18 0 with a:=((L++X++[iI 18 0]++Y).length:Nat) })=bH p (L++(X++[iI 18 (((L++X++[iI 18 0]).length:Nat)+Y.length)]++Y)):=by rw[<-e8];rfl
  rw[e8,show(L++X).length=L.length+X.length from List.length_append]at hh;clear e8;have TF:=pt 18;refine aQ func168 ntmps168 ?_
  (refine S ?_;try exact jI)
  have d1:(((⟨#[124,124]⟩:PL):PL)=(⟨#[38,38]⟩:PL))=False:=eq_false jC;have k1':(nd.name=(⟨#[38,38]⟩:PL))=True:=eq_true k1
  (have W:=jA k1' (jA B' (d1));repeat' (first|refine ax fun K hK=>?_|refine az ?_|(with_reducible refine gR 6 ?_);refine dE 6 (aK 0 13) mixed ?_|(refine hK _ _ ?_;clear hK K)|(refine aw ?_ ?_<;>intro hc<;>try exact jz)|refine bx 5 ?_|refine cm (ex) ?_|refine tv 6 ?_|refine uS [] pZ ?_|refine uS [(⟨#[38,38]⟩:PL)] pZ ?_|refine oC (n:=nd.name) (vs:=[rI 18,rI 19]) [(⟨#[38,38]⟩:PL),(⟨#[124,124]⟩:PL)] (.int .i64 0) (.ba [rI 18,rB true]) pZ jG (by unfold ns;rw[if_pos rfl];simp only[oG,k1,↓reduceIte]) ?_|refine cm (TF) ?_|refine cm (ey2) ?_|refine cm (hh) ?_|refine ay ?_|exact jI|(clear hK K)))
  (refine bA [] ?_;try simp only[go_sem])
 by_cases k2:nd.name=(⟨#[124,124]⟩:PL)
 ·rw[k2];have hs:kF (⟨#[124,124]⟩:PL)=19:=by unfold kF;rw[if_neg jC,if_pos rfl]
  simp only[hs,Int.reduceEq,↓reduceIte];rw[show(L.length:Int)+X.length+1=((L++X++[iI 19 0]).length:Nat) by simp;omega];have ey2:=ey (L++X++[iI 19 0]) (by simp only[List.length_append,List.length_singleton];omega);generalize hY:aZ p n y ((L++X++[iI 19 0]).length:Int)=Y at*;have lY:Y.length<=1300:=by have:=ly (L++X++[iI 19 0]).length;rw[hY]at this;omega
  have hh:=Ad p (L++X++[iI 19 0]++Y) (L++X).length (by simp only[List.length_append,List.length_singleton];omega) (by simp only[List.length_append,List.length_singleton];omega);rw[show nth (L++X++[iI 19 0]++Y) (L++X).length=iI 19 0 by rw[List.append_assoc];simp[nth]]at hh;have e8:(L++X++[iI 19 0]++Y).set (L++X).length ⟨19,((L++X++[iI 19 0]++Y).length:Nat),0,sE⟩=L++(X++[iI 19 (((L++X++[iI 19 0]).length:Nat)+Y.length)]++Y):=by rw[List.append_assoc,List.set_append_right _ _ jl,Nat.sub_self];simp[iI];omega
  have e8:bH p ((L++X++[iI 19 0]++Y).set (L++X).length { iI 19 0 with a:=((L++X++[iI 19 0]++Y).length:Nat) })=bH p (L++(X++[iI 19 (((L++X++[iI 19 0]).length:Nat)+Y.length)]++Y)):=by rw[<-e8];rfl
  rw[e8,show(L++X).length=L.length+X.length from List.length_append]at hh;clear e8;have TF:=pt 19;refine aQ func168 ntmps168 ?_
  (refine S ?_;try exact jI)
  have d1:(((⟨#[124,124]⟩:PL):PL)=(⟨#[38,38]⟩:PL))=False:=eq_false jC;have k2':(nd.name=(⟨#[124,124]⟩:PL))=True:=eq_true k2
  (have W:=jA k2' (jA B' (d1));repeat' (first|refine ax fun K hK=>?_|refine az ?_|(with_reducible refine gR 6 ?_);refine dE 6 (aK 0 13) mixed ?_|(refine hK _ _ ?_;clear hK K)|(refine aw ?_ ?_<;>intro hc<;>try exact jz)|refine bx 5 ?_|refine cm (ex) ?_|refine tv 6 ?_|refine uS [] pZ ?_|refine uS [(⟨#[38,38]⟩:PL)] pZ ?_|refine oC (n:=nd.name) (vs:=[rI 18,rI 19]) [(⟨#[38,38]⟩:PL),(⟨#[124,124]⟩:PL)] (.int .i64 0) (.ba [rI 19,rB true]) pZ jG (by unfold ns;rw[if_pos rfl];simp only[oG,k2,d1,↓reduceIte]) ?_|refine cm (TF) ?_|refine cm (ey2) ?_|refine cm (hh) ?_|refine ay ?_|exact jI|(clear hK K)))
  (refine bA [] ?_;try simp only[go_sem])
 have n1:=eq_false k1;have n2:=eq_false k2;have hs:kF nd.name=7:=by unfold kF;rw[if_neg k1,if_neg k2]
 simp only[hs,↓reduceIte];rw[show(L.length:Int)+X.length=((L++X).length:Nat) from jE];generalize hY:aZ p n y ((L++X).length:Int)=Y at*;have lY:Y.length<=1300:=by have:=ly (L++X).length;rw[hY]at this;omega
 simp only[<-List.append_assoc];refine aQ func168 ntmps168 ?_
 (refine S ?_;try exact jI)
 have d1:(((⟨#[124,124]⟩:PL):PL)=(⟨#[38,38]⟩:PL))=False:=eq_false jC
 (have W:=jA n1 (jA n2 (jA B' (d1)));repeat' (first|refine ax fun K hK=>?_|refine az ?_|(with_reducible refine gR 6 ?_);refine dE 6 (aK 0 13) mixed ?_|(refine hK _ _ ?_;clear hK K)|(refine aw ?_ ?_<;>intro hc<;>try exact jz)|refine bx 5 ?_|refine cm (ex) ?_|refine tv 6 ?_|refine uS [] pZ ?_|refine uS [(⟨#[38,38]⟩:PL)] pZ ?_|refine oC (n:=nd.name) (vs:=[rI 18,rI 19]) [(⟨#[38,38]⟩:PL),(⟨#[124,124]⟩:PL)] (.int .i64 0) (.ba [rI 0,rB false]) pZ jG (by unfold ns;rw[if_pos rfl];simp only[oG,k1,k2,↓reduceIte]) ?_|refine cm (ey1) ?_|refine ay ?_|exact jI|(clear hK K)))
 (refine bA [] ?_;try simp only[go_sem])
def AO(p:ab)(f:FuncId)(hf:bo prog f=true)(g:Int->Int->List aq)(l:PJ)(L:List aq)(hl:l.length<=1000)(B:Nat)(hB:¬(B<L.length+(bn g L.length l []).length))
  (hc:∀x∈l,∀M:List aq,¬(B<M.length)->ai prog f [.pt 0 0 0 0,rI x] (bH p M) (fun r l=>r=.ba []/\l=bH p (M++g x M.length))) :
  ai prog 106 [aX eI 1 l,.bd f [.pt 0 0 0 0]] (bH p L) (fun r l'=>r=.ba []/\l'=bH p (L++bn g L.length l [])):=by
 refine aQ func106 ntmps106 ?_;generalize hE:bH p (L++bn g L.length l [])=E;refine S ?_
 (repeat' (first|refine ax fun K hK=>?_|refine az ?_|(refine hK _ _ ?_;clear hK K)|(refine aw ?_ ?_<;>intro hc<;>try exact jz)|refine ay ?_|exact jI|(clear hK K)))
 refine dR (S:=Nat) [(5,1),(8,8)] (fun k=>k<=l.length) (fun k=>[(8,rI k)]) (fun k=>⟨[0,1],bH p (L++bn g L.length (l.take k) [])⟩) (fun k=>l.length-k) 0 jB (dS (by show _=Hp.mk _ (bH p (L++[]));rw[List.append_nil];rfl) cc) ?_;rintro k hk Kr P3;have Qa:=Py g L.length l k;by_cases PW:k<l.length
 ·have SR:=hc (nth l k) (fu PW) (L++bn g L.length (l.take k) []) (by rw[List.length_append];omega);have hs:=HO g L.length l k PW;rw[List.append_assoc,show((L++bn g L.length (l.take k) []).length:Int)=L.length+(bn g L.length (l.take k) []).length by rw[List.length_append];rfl,<-hs]at SR;generalize hX:bn g L.length (l.take k) []=X at*;generalize hY:bn g L.length (l.take (k+1)) []=Y at*;refine S ?_
  (have W:=hf;repeat' (first|refine ax fun K hK=>?_|refine az ?_|(refine hK _ _ ?_;clear hK K)|(refine aw ?_ ?_<;>intro hc<;>try exact jz)|refine bm SR ?_|refine ay ?_|exact jI|(clear hK K)))
  refine P3 _ _ (dZ (k+1) jB jJ (by rw[hY];simp only[bH,hS,List.length_append,List.map_append,List.cons_append,List.nil_append]) cc)
 ·have e:k=l.length:=jB;subst e;rw[List.take_length,hE];refine S ?_
  (repeat' (first|refine ax fun K hK=>?_|refine az ?_|(refine hK _ _ ?_;clear hK K)|(refine aw ?_ ?_<;>intro hc<;>try exact jz)|refine ay ?_|exact jI|(clear hK K)))
  (refine bQ [] ?_ ?_<;>(try simp only[go_sem]))
def M9(n:bg)(f:aU):ai prog 182 [.agg (fZ f),.pt 4 0 0 0] [(4,.var 78 (eG n))] (fun r l=>r=rB (decide (f.name=n.name))/\l=[(4,.var 78 (eG n))]):=by
 refine aQ func182 ntmps182 ?_
 (repeat' (first|refine ax fun K hK=>?_|refine az ?_|(refine hK _ _ ?_;clear hK K)|(refine aw ?_ ?_<;>intro hc<;>try exact jz)|refine bx 5 ?_|refine ay ?_|exact jI|(clear hK K)))
 (refine bA [.tmp 3] ?_;try simp only[go_sem])
def KK(n:bg)(L:List aU)(k:Nat)(hL:L.length<=1000)(hk:k<L.length)(Qi:(nth L k).name=n.name)(RD:∀i,i<k->(nth L i).name≠n.name) :
  ai prog 58 [aX fZ 5 L,.fJ 182 [.pt 4 0 0 0]] [(4,.var 78 (eG n))] (fun r l=>r=rI k/\l=[(4,.var 78 (eG n))]):=by
 refine aQ func58 ntmps58 ?_
 (repeat' (first|refine ax fun K hK=>?_|refine az ?_|(refine hK _ _ ?_;clear hK K)|(refine aw ?_ ?_<;>intro hc<;>try exact jz)|refine ay ?_|exact jI|(clear hK K)))
 refine dR (S:=Nat) [(4,2),(8,11)] (fun i=>i<=k) (fun i=>[(8,rI i)]) (fun i=>⟨[4],[(4,.var 78 (eG n))]⟩) (fun i=>k-i) 0 jB (dS rfl cc) ?_;rintro i hi Kr P3;have SP:=M9 n (nth L i);by_cases e:i=k
 ·subst e;rw[decide_eq_true Qi]at SP;refine S ?_
  (repeat' (first|refine ax fun K hK=>?_|refine az ?_|(refine hK _ _ ?_;clear hK K)|(refine aw ?_ ?_<;>intro hc<;>try exact jz)|refine cl SP ?_|refine ay ?_|exact jI|(clear hK K)))
  (refine bA [.tmp 4] ?_;try simp only[go_sem])
 ·rw[decide_eq_false (RD i jB)]at SP;refine S ?_
  (repeat' (first|refine ax fun K hK=>?_|refine az ?_|(refine hK _ _ ?_;clear hK K)|(refine aw ?_ ?_<;>intro hc<;>try exact jz)|refine cl SP ?_|refine ay ?_|exact jI|(clear hK K)))
  refine P3 _ _ (dZ (i+1) jB jJ rfl cc)
def L3(hp:jj p)(hx:z8 p n)(a:Int)(L:List aq)(h0:0<=a)(hl:a.toNat<p.aa.nodes.length)(hk:(ao p a).kind=21)(hn:a.toNat<n+1)(hL:¬(1000000<L.length+3000*(n+1))):ai prog 169 [.pt 0 0 0 0,.agg (eG (ao p a))] (bH p L) (fun r l=>r=.ba []/\l=bH p (L++cd p n a L.length)):=by
 have ht:=hp.ok.ok.aa;have W0:=ht.au;have hm:=ht.many;have hb:=(ht.shape a.toNat hl).2.1;have Sc:=(ht.shape a.toNat hl).1.call hk;obtain⟨lo,O'⟩:=(ht.shape a.toNat hl).2.2;have J':=An ht n (L.length:Int) lo hl hk O';obtain⟨k,hc⟩:=callee hp.ok hl hk;have W1:=KK (ao p a) p.aa.au k jB hc.lt hc.name (fun i hi=>by have:=hp.ok.names.one i k hi hc.lt;rwa [hc.name]at this);have Wa:(cd p n a L.length).length=(bn (aZ p n) (L.length:Int) (ao p a).l []).length+1:=by unfold cd;simp
 have Ri:=AO p 151 jD (aZ p n) (ao p a).l L (by have:=hc.zV;omega) (1000000-3000*n) jB (fun x R3 M hM=>by have Tt:=hb x R3;have Qc:=Sc x R3;have:=hx x M Tt.1 jB (.inl Qc) jB jB;rwa [me Qc]at this)
 have Qk:zn p a=k:=hc.last;unfold cd;rw[Qk];have hL:¬(997000<L.length):=jB;rename_i WZ;clear hx WZ;have W2:=hc.zV;generalize ao p a=nd at*;generalize hX:bn (aZ p n) (L.length:Int) nd.l []=X at*;simp only[<-List.append_assoc];refine aQ func169 ntmps169 ?_;refine S ?_
 (repeat' (first|refine ax fun K hK=>?_|refine az ?_|(with_reducible refine gR 3 ?_);refine dE 3 (aK 0 15) mixed ?_|(refine hK _ _ ?_;clear hK K)|(refine aw ?_ ?_<;>intro hc<;>try exact jz)|refine dL 4 ?_|refine cm (Ri) ?_|refine cm (W1) ?_|refine ay ?_|exact jI|(clear hK K)))
 (refine bA [] ?_;try simp only[go_sem])
attribute [local go_sem] iI
def Hl(a x:Int)(L X:List aq)(op:Int)(h0:0<=a)(hl:a.toNat<p.aa.nodes.length)(hs:a.toNat<p.slots.length)(B':(ao p a).l=[x])(hL:¬(1000000<(L++X).length))
  (hm:ns (ao p a).kind [6,7,8,20,5] [rI 10,rI 8,rI 9,rI 13,rI 11] (.raw (.int .i64 0)) true=.ba [rI op,rB true])
  (ex:ai prog 151 [.pt 0 0 0 0,rI x] (bH p L) (fun r l=>r=.ba []/\l=bH p (L++X))) :
  ai prog 151 [.pt 0 0 0 0,rI a] (bH p L) (fun r l=>r=.ba []/\l=bH p (L++X++[iI op (if nth p.slots a.toNat<0 then 0 else nth p.slots a.toNat)])):=by
 have u':=nL p L a h0 hl;have TF:=fun v=>iA p (L++X) op v jB
 generalize ao p a=nd at*;refine aQ func151 ntmps151 ?_;refine S ?_
 (have W:=B';repeat' (first|refine ax fun K hK=>?_|refine az ?_|(refine hK _ _ ?_;clear hK K)|(refine aw ?_ ?_<;>intro hc<;>try exact jz)|refine al 5 ?_|refine cm (u') ?_|refine tv 6 ?_|refine km [] iR ?_|refine km [6] iR ?_|refine km [6,7] iR ?_|refine km [6,7,8] iR ?_|refine km [6,7,8,20] iR ?_|refine yl (n:=nd.kind) (vs:=[rI 10,rI 8,rI 9,rI 13,rI 11]) [6,7,8,20,5] (.int .i64 0) (.ba [rI op,rB true]) iR jG hm ?_|refine cm (ex) ?_|refine cm (TF _) ?_|refine ay ?_|exact jI|(clear hK K)))
 (refine bA [] ?_;try simp only[go_sem])
def NQ(a:Int)(L X:List aq)(h0:0<=a)(hl:a.toNat<p.aa.nodes.length)
  (hm:ns (ao p a).kind [6,7,8,20,5] [rI 10,rI 8,rI 9,rI 13,rI 11] (.raw (.int .i64 0)) true=.ba [rI 0,rB false]) (hk:(ao p a).kind=9)
  (ex:ai prog 168 [.pt 0 0 0 0,.agg (eG (ao p a))] (bH p L) (fun r l=>r=.ba []/\l=bH p (L++X))) :
  ai prog 151 [.pt 0 0 0 0,rI a] (bH p L) (fun r l=>r=.ba []/\l=bH p (L++X)):=by
 have u':=nL p L a h0 hl;generalize ao p a=nd at*;rw[hk]at hm;refine aQ func151 ntmps151 ?_;refine S ?_
 (have W:=hk;repeat' (first|refine ax fun K hK=>?_|refine az ?_|(refine hK _ _ ?_;clear hK K)|(refine aw ?_ ?_<;>intro hc<;>try exact jz)|refine al 5 ?_|refine cm (u') ?_|refine tv 6 ?_|refine km [] iR ?_|refine km [6] iR ?_|refine km [6,7] iR ?_|refine km [6,7,8] iR ?_|refine km [6,7,8,20] iR ?_|refine yl (n:=9) (vs:=[rI 10,rI 8,rI 9,rI 13,rI 11]) [6,7,8,20,5] (.int .i64 0) (.ba [rI 0,rB false]) iR jG hm ?_|refine cm (ex) ?_|refine ay ?_|exact jI|(clear hK K)))
 (refine bA [] ?_;try simp only[go_sem])
def KG(a:Int)(L X:List aq)(h0:0<=a)(hl:a.toNat<p.aa.nodes.length)
  (hm:ns (ao p a).kind [6,7,8,20,5] [rI 10,rI 8,rI 9,rI 13,rI 11] (.raw (.int .i64 0)) true=.ba [rI 0,rB false]) (hk:(ao p a).kind=21)
  (ex:ai prog 169 [.pt 0 0 0 0,.agg (eG (ao p a))] (bH p L) (fun r l=>r=.ba []/\l=bH p (L++X))) :
  ai prog 151 [.pt 0 0 0 0,rI a] (bH p L) (fun r l=>r=.ba []/\l=bH p (L++X)):=by
 have u':=nL p L a h0 hl;generalize ao p a=nd at*;rw[hk]at hm;refine aQ func151 ntmps151 ?_;refine S ?_
 (have W:=hk;repeat' (first|refine ax fun K hK=>?_|refine az ?_|(refine hK _ _ ?_;clear hK K)|(refine aw ?_ ?_<;>intro hc<;>try exact jz)|refine al 5 ?_|refine cm (u') ?_|refine tv 6 ?_|refine km [] iR ?_|refine km [6] iR ?_|refine km [6,7] iR ?_|refine km [6,7,8] iR ?_|refine km [6,7,8,20] iR ?_|refine yl (n:=21) (vs:=[rI 10,rI 8,rI 9,rI 13,rI 11]) [6,7,8,20,5] (.int .i64 0) (.ba [rI 0,rB false]) iR jG hm ?_|refine cm (ex) ?_|refine ay ?_|exact jI|(clear hK K)))
 (refine bA [] ?_;try simp only[go_sem])
def PB(a:Int)(L X:List aq)(h0:0<=a)(hl:a.toNat<p.aa.nodes.length)
  (hm:ns (ao p a).kind [6,7,8,20,5] [rI 10,rI 8,rI 9,rI 13,rI 11] (.raw (.int .i64 0)) true=.ba [rI 0,rB false]) (hk:(ao p a).kind≠9) (P1:(ao p a).kind≠21)
  (ex:ai prog 170 [.pt 0 0 0 0,.agg (eG (ao p a)),rI a] (bH p L) (fun r l=>r=.ba []/\l=bH p (L++X))) :
  ai prog 151 [.pt 0 0 0 0,rI a] (bH p L) (fun r l=>r=.ba []/\l=bH p (L++X)):=by
 have u':=nL p L a h0 hl;generalize ao p a=nd at*;have n1:=eq_false hk;have n2:=eq_false P1;refine aQ func151 ntmps151 ?_;refine S ?_
 (have W:=jA n1 n2;repeat' (first|refine ax fun K hK=>?_|refine az ?_|(refine hK _ _ ?_;clear hK K)|(refine aw ?_ ?_<;>intro hc<;>try exact jz)|refine al 5 ?_|refine cm (u') ?_|refine tv 6 ?_|refine km [] iR ?_|refine km [6] iR ?_|refine km [6,7] iR ?_|refine km [6,7,8] iR ?_|refine km [6,7,8,20] iR ?_|refine yl (n:=nd.kind) (vs:=[rI 10,rI 8,rI 9,rI 13,rI 11]) [6,7,8,20,5] (.int .i64 0) (.ba [rI 0,rB false]) iR jG hm ?_|refine cm (ex) ?_|refine ay ?_|exact jI|(clear hK K)))
 (refine bA [] ?_;try simp only[go_sem])
def OM(ht:aO p.aa)(n m:Nat)(a k:Int)(hl:a.toNat<p.aa.nodes.length)(hk:(ao p a).kind=21)(hn:a.toNat<=n)(hm:a.toNat<=m):cd p n a k=cd p m a k:=by
 have hb:=(ht.shape a.toNat hl).2.1;have Sc:=(ht.shape a.toNat hl).1.call hk;unfold cd;rw[DA (ao p a).l k [] fun x hx j=>by have Tt:=hb x hx;exact AI ht n m x j Tt.1 jB (Sc x hx) jB jB]
theorem EZ{p:ab}(hp:jj p):∀n,z8 p n
 |0=>fun a L h0 hl hk hn hL=>by omega
 |n+1=>fun a L h0 hl hk hn hL=>by
  have hx:=EZ hp n;have ht:=hp.ok.ok.aa;have hm:=ht.many;have hb:=(ht.shape a.toNat hl).2.1;have Q0:p.slots.length=p.aa.nodes.length:=hp.ok.ok.slots;have Sj:p.types.length=p.aa.nodes.length:=hp.ok.ok.types;have sh:=(ht.shape a.toNat hl).1;have P8:ff (ao p a).kind:=hk;unfold ff bW at P8;have aA:∀x k,x∈(ao p a).l->bW (bE p.aa.nodes x)->aZ p (n+1) x k=aZ p n x k:=fun x k hx Qc=>by have:=hb x hx;exact AI ht (n+1) n x k this.1 jB Qc jB jB
  by_cases e21:(ao p a).kind=21
  ·have h1:=L3 hp hx a L h0 hl e21 hn jB;rw[show iU p (n+1) a L.length=cd p n a L.length by rw[sR,jN,jN,if_pos e21];exact OM ht _ _ a _ hl e21 jB jB];exact KG a L _ h0 hl (by rw[e21];rfl) e21 h1
  by_cases e9:(ao p a).kind=9
  ·have h1:=KY hp hx a L h0 hl e9 hn jB;rw[me (show bW _ by unfold bW;show 1<=(ao p a).kind/\(ao p a).kind<=9;omega)];exact NQ a L _ h0 hl (by rw[e9];rfl) e9 h1
  have Se:∀op k,(ao p a).kind=k->(k=5\/k=6\/k=7\/k=8\/k=20)->ns k [6,7,8,20,5] [rI 10,rI 8,rI 9,rI 13,rI 11] (.raw (.int .i64 0)) true=.ba [rI op,rB true]->∃x X,(ao p a).l=[x]/\aZ p n x L.length=X/\aZ p (n+1) x L.length=X/\
    ai prog 151 [.pt 0 0 0 0,rI a] (bH p L) (fun r l=>r=.ba []/\l=bH p (L++(X++[iI op (if nth p.slots a.toNat<0 then 0 else nth p.slots a.toNat)]))):=fun op k e hk5 YZ=>by
   obtain⟨x,B',Ql⟩:=sh.one (by have e:(nth p.aa.nodes a.toNat).kind=k:=e;omega);have B':(ao p a).l=[x]:=B';have Tt:=hb x (by show x∈(ao p a).l;rw[B'];simp);obtain⟨lo,O'⟩:=(ht.shape a.toNat hl).2.2;have O':aJ p.aa.nodes lo (ao p a).l a.toNat:=O';rw[B']at O';obtain⟨d1,d2,d3,d4,d5⟩:=jL O';have lx:=lB ht n x L.length lo d1 jB Ql d5;have ex:=hx x L Tt.1 jB (.inl Ql) jB jB;rw[me Ql]at ex;refine⟨x,aZ p n x L.length,B',rfl,aA x _ (by rw[B'];simp) Ql,?_⟩;rw[<-List.append_assoc];exact Hl a x L _ op h0 hl jB B' (by rw[List.length_append];omega) (by rw[e];exact YZ) ex
  have neg:(ao p a).kind=6\/(ao p a).kind=7\/(ao p a).kind=8\/(ao p a).kind=20->(if nth p.slots a.toNat<0 then 0 else nth p.slots a.toNat)=0:=fun e=>by have:=hp.neg a.toNat hl (by unfold iM;have e:(nth p.aa.nodes a.toNat).kind=6\/(nth p.aa.nodes a.toNat).kind=7\/(nth p.aa.nodes a.toNat).kind=8\/(nth p.aa.nodes a.toNat).kind=20:=e;omega);split<;>omega
  by_cases e5:(ao p a).kind=5
  ·obtain⟨x,X,h1,h2,TT,h3⟩:=Se 11 5 e5 jB rfl;have hps:=hp.pos a.toNat hl (by unfold iM;have e:(nth p.aa.nodes a.toNat).kind=5:=e5;omega);rw[jN]at h3;rw[me (show bW _ by unfold bW;show 1<=(ao p a).kind/\(ao p a).kind<=9;omega),lf];simp only[e5,h1,Int.reduceEq,↓reduceIte];rw[show nth [x] 0=x from rfl,h2];exact h3
  by_cases e6:(ao p a).kind=6
  ·obtain⟨x,X,h1,h2,TT,h3⟩:=Se 10 6 e6 jB rfl;rw[neg jB]at h3;rw[me (show bW _ by unfold bW;show 1<=(ao p a).kind/\(ao p a).kind<=9;omega),lf];simp only[e6,h1,Int.reduceEq,↓reduceIte];rw[show nth [x] 0=x from rfl,h2];exact h3
  by_cases e7:(ao p a).kind=7
  ·obtain⟨x,X,h1,h2,TT,h3⟩:=Se 8 7 e7 jB rfl;rw[neg jB]at h3;rw[me (show bW _ by unfold bW;show 1<=(ao p a).kind/\(ao p a).kind<=9;omega),lf];simp only[e7,h1,Int.reduceEq,↓reduceIte];rw[show nth [x] 0=x from rfl,h2];exact h3
  by_cases e8:(ao p a).kind=8
  ·obtain⟨x,X,h1,h2,TT,h3⟩:=Se 9 8 e8 jB rfl;rw[neg jB]at h3;rw[me (show bW _ by unfold bW;show 1<=(ao p a).kind/\(ao p a).kind<=9;omega),lf];simp only[e8,h1,Int.reduceEq,↓reduceIte];rw[show nth [x] 0=x from rfl,h2];exact h3
  by_cases e20:(ao p a).kind=20
  ·obtain⟨x,X,h1,h2,TT,h3⟩:=Se 13 20 e20 jB rfl;rw[neg jB]at h3;rw[sR];simp only[e20,h1,Int.reduceEq,↓reduceIte];rw[show nth [x] 0=x from rfl,TT];exact h3
  have Y0:=Lc p L a h0 jB jB jB;rw[show iU p (n+1) a L.length=yA p a by unfold yA;have Qs:(ao p a).kind=1\/(ao p a).kind=2\/(ao p a).kind=3\/(ao p a).kind=4\/(ao p a).kind=19:=jB;rcases Qs with e|e|e|e|e<;>(rw[sR,lf p n a];simp only[e,Int.reduceEq,↓reduceIte])]
  exact PB a L _ h0 hl (by have Qs:(ao p a).kind=1\/(ao p a).kind=2\/(ao p a).kind=3\/(ao p a).kind=4\/(ao p a).kind=19:=jB;rcases Qs with e|e|e|e|e<;>(rw[e];rfl)) e9 e21 Y0
attribute [local go_sem] iI
def Gm(p:ab)(n:Nat):Prop:=∀(a:Int) (L:List aq),0<=a->a.toNat<p.aa.nodes.length->eR (bE p.aa.nodes a)->a.toNat<n->¬(1000000<L.length+3000*n)->ai prog 108 [.pt 0 0 0 0,rI a] (bH p L) (fun r l=>r=.ba []/\l=bH p (L++fR p n a L.length))
def D4(ht:aO p.aa)(n:Nat)(b:Int)(k:Int)(lo:Nat)(b0:0<=b)(b1:b.toNat<p.aa.nodes.length)(b2:bE p.aa.nodes b=18)(b3:aJ p.aa.nodes lo (ao p b).l b.toNat):(bn (fR p n) k (ao p b).l []).length+4*lo<=4*b.toNat:=
 v8 (f:=fR p n) (ao p b).l k lo b.toNat b3 fun x hx k lo SR=>by have hb:=(ht.shape b.toNat b1).2.1 x hx;exact zO ht n x k lo hb.1 jB ((ht.shape b.toNat b1).1.block b2 x hx) SR
def xh(ht:aO p.aa)(n:Nat)(b:Int)(k:Int)(b0:0<=b)(b1:b.toNat<p.aa.nodes.length)(b2:bE p.aa.nodes b=18):(bn (fR p n) k (ao p b).l []).length<=1200:=by obtain⟨lo,b3⟩:=(ht.shape b.toNat b1).2.2;have hm:=ht.many;have:=D4 ht n b k lo b0 b1 b2 b3;omega
def Ak(hp:jj p)(hs:Gm p n)(b:Int)(L:List aq)(h0:0<=b)(hl:b.toNat<p.aa.nodes.length)(hk:bE p.aa.nodes b=18)(hn:b.toNat<=n)(hL:¬(998700<L.length+3000*n)) :
  ai prog 72 [.pt 0 0 0 0,rI b] (bH p L) (fun r l=>r=.ba []/\l=bH p (L++bn (fR p n) L.length (ao p b).l [])):=by
 have ht:=hp.ok.ok.aa;have hm:=ht.many;have hb:=(ht.shape b.toNat hl).2.1;have Sc:=(ht.shape b.toNat hl).1.block hk;have J':=xh ht n b L.length h0 hl hk;obtain⟨lo,O'⟩:=(ht.shape b.toNat hl).2.2;have P7:lo+(ao p b).l.length<=b.toNat:=zv O';have u':=nL p L b h0 hl;have Ri:=AO p 108 jD (fR p n) (ao p b).l L jB (1000000-3000*n) jB (fun x R3 M hM=>by have Tt:=hb x R3;exact hs x M Tt.1 jB (Sc x R3) jB jB)
 clear hs;generalize ao p b=nd at*;generalize hX:bn (fR p n) L.length nd.l []=X at*;refine aQ func72 ntmps72 ?_;refine S ?_
 (repeat' (first|refine ax fun K hK=>?_|refine az ?_|(refine hK _ _ ?_;clear hK K)|(refine aw ?_ ?_<;>intro hc<;>try exact jz)|refine cm (u') ?_|refine cm (Ri) ?_|refine ay ?_|exact jI|(clear hK K)))
 (refine bA [] ?_;try simp only[go_sem])
def Js(L X Y:List aq)(op v:Int)(k:Nat)(hk:k=L.length+X.length):(L++X++[iI op 0]++Y).set k { iI op 0 with a:=v }=L++X++[iI op v]++Y:=by subst hk;rw[List.append_assoc (L++X),List.set_append_right _ _ jE];simp[iI]
def Jf(L X Y:List aq)(x:aq)(k:Nat)(hk:k=L.length+X.length):nth (L++X++[x]++Y) k=x:=by subst hk;rw[List.append_assoc (L++X)];simp[nth]
def xp(p:ab)(L X Y:List aq)(op:Int)(k:Nat)(hk:k=L.length+X.length)(hL:¬(1000000<L.length+X.length+1+Y.length)) :
  ai prog 167 [.pt 0 0 0 0,rI k] (bH p (L++X++[iI op 0]++Y)) (fun r l=>r=.ba []/\l=bH p (L++X++[iI op (L.length+X.length+1+Y.length:Nat)]++Y)):=by
 have h:=Ad p (L++X++[iI op 0]++Y) k (by simp only[List.length_append,List.length_singleton];omega) (by simp only[List.length_append,List.length_singleton];omega);rw[Jf L X Y _ k hk,Js L X Y op _ k hk]at h;rwa [show(L++X++[iI op 0]++Y).length=L.length+X.length+1+Y.length by simp only[List.length_append,List.length_singleton]]at h
def MG(nd:bg)(x b:Int)(L X B:List aq)(mark:Int)(hL:¬(999700<L.length+X.length+B.length))(hk:nd.kind=16)(B':nd.l=[x,b])
  (ex:ai prog 151 [.pt 0 0 0 0,rI x] (bH p L) (fun r l=>r=.ba []/\l=bH p (L++X)))
  (eb:ai prog 72 [.pt 0 0 0 0,rI b] (bH p (L++X++[iI 17 0])) (fun r l=>r=.ba []/\l=bH p (L++X++[iI 17 0]++B))) :
  ai prog 150 [.pt 0 0 0 0,.agg (eG nd),rI mark] (bH p L) (fun r l=>r=.ba []/\l=bH p (L++X++[iI 17 (L.length+X.length+1+(B.length+1):Nat)]++(B++[iI 16 mark]))):=by
 have h1:=iA p (L++X) 17 0 (by simp only[List.length_append];omega);have h2:=iA p (L++X++[iI 17 0]++B) 16 mark (by simp only[List.length_append,List.length_singleton];omega);have h3:=xp p L X (B++[iI 16 mark]) 17 (L.length+X.length) rfl (by simp only[List.length_append,List.length_singleton];omega);rw[show(B++[iI 16 mark]).length=B.length+1 from jE]at h3;simp only[<-List.append_assoc]at h3 ⊢;refine aQ func150 ntmps150 ?_;refine S ?_
 (have W:=jA hk B';repeat' (first|refine ax fun K hK=>?_|refine az ?_|(refine hK _ _ ?_;clear hK K)|(refine aw ?_ ?_<;>intro hc<;>try exact jz)|refine bx 5 ?_|refine cm (ex) ?_|refine cm (h1) ?_|refine cm (eb) ?_|refine cm (h2) ?_|refine cm (h3) ?_|refine ay ?_|exact jI|(clear hK K)))
 (refine bA [] ?_;try simp only[go_sem])
def Ho(nd:bg)(x b:Int)(L X B:List aq)(mark:Int)(hL:¬(999700<L.length+X.length+B.length))(hk:nd.kind≠16)(B':nd.l=[x,b])
  (ex:ai prog 151 [.pt 0 0 0 0,rI x] (bH p L) (fun r l=>r=.ba []/\l=bH p (L++X)))
  (eb:ai prog 72 [.pt 0 0 0 0,rI b] (bH p (L++X++[iI 17 0])) (fun r l=>r=.ba []/\l=bH p (L++X++[iI 17 0]++B))) :
  ai prog 150 [.pt 0 0 0 0,.agg (eG nd),rI mark] (bH p L) (fun r l=>r=.ba []/\l=bH p (L++X++[iI 17 (L.length+X.length+1+B.length:Nat)]++B)):=by
 have h1:=iA p (L++X) 17 0 (by simp only[List.length_append];omega);have h3:=xp p L X B 17 (L.length+X.length) rfl jB;have n1:=eq_false hk;refine aQ func150 ntmps150 ?_;refine S ?_
 (have W:=jA n1 B';repeat' (first|refine ax fun K hK=>?_|refine az ?_|(refine hK _ _ ?_;clear hK K)|(refine aw ?_ ?_<;>intro hc<;>try exact jz)|refine bx 5 ?_|refine cm (ex) ?_|refine cm (h1) ?_|refine cm (eb) ?_|refine cm (h3) ?_|refine ay ?_|exact jI|(clear hK K)))
 (refine bA [] ?_;try simp only[go_sem])
def Lx(nd:bg)(x b d:Int)(L X B D:List aq)(mark:Int)(hL:¬(999700<L.length+X.length+B.length+D.length))(hk:nd.kind≠16)(B':nd.l=[x,b,d])
  (ex:ai prog 151 [.pt 0 0 0 0,rI x] (bH p L) (fun r l=>r=.ba []/\l=bH p (L++X)))
  (eb:ai prog 72 [.pt 0 0 0 0,rI b] (bH p (L++X++[iI 17 0])) (fun r l=>r=.ba []/\l=bH p (L++X++[iI 17 0]++B)))
  (ed:ai prog 72 [.pt 0 0 0 0,rI d] (bH p (L++X++[iI 17 (L.length+X.length+1+(B.length+1):Nat)]++B++[iI 16 0])) (fun r l=>r=.ba []/\l=bH p (L++X++[iI 17 (L.length+X.length+1+(B.length+1):Nat)]++B++[iI 16 0]++D))) :
  ai prog 150 [.pt 0 0 0 0,.agg (eG nd),rI mark] (bH p L) (fun r l=>r=.ba []/\l=bH p (L++X++[iI 17 (L.length+X.length+1+(B.length+1):Nat)]++(B++[iI 16 (L.length+X.length+1+B.length+1+D.length:Nat)])++D)):=by
 have h1:=iA p (L++X) 17 0 (by simp only[List.length_append];omega);have h2:=iA p (L++X++[iI 17 0]++B) 16 0 (by simp only[List.length_append,List.length_singleton];omega);have h3:=xp p L X (B++[iI 16 0]) 17 (L.length+X.length) rfl (by simp only[List.length_append,List.length_singleton];omega);rw[show(B++[iI 16 0]).length=B.length+1 from jE]at h3;have h4:=xp p (L++X++[iI 17 (L.length+X.length+1+(B.length+1):Nat)]) B D 16 (L.length+X.length+1+B.length) (by simp only[List.length_append,List.length_singleton]) (by simp only[List.length_append,List.length_singleton];omega);rw[show(L++X++[iI 17 (L.length+X.length+1+(B.length+1):Nat)]).length=L.length+X.length+1 by simp only[List.length_append,List.length_singleton]]at h4;simp only[<-List.append_assoc]at h3 h4 ⊢;have n1:=eq_false hk;refine aQ func150 ntmps150 ?_;refine S ?_
 (have W:=jA n1 B';repeat' (first|refine ax fun K hK=>?_|refine az ?_|(refine hK _ _ ?_;clear hK K)|(refine aw ?_ ?_<;>intro hc<;>try exact jz)|refine bx 5 ?_|refine cm (ex) ?_|refine cm (h1) ?_|refine cm (eb) ?_|refine cm (h2) ?_|refine cm (h3) ?_|refine cm (ed) ?_|refine cm (h4) ?_|refine ay ?_|exact jI|(clear hK K)))
 (refine bA [] ?_;try simp only[go_sem])
attribute [local go_sem] iI
def HP(a:Int)(L Y:List aq)(h0:0<=a)(hl:a.toNat<p.aa.nodes.length)(hs:a.toNat<p.slots.length)(hL:¬(999900<L.length+Y.length))(hk:(ao p a).kind=10)
  (Ri:ai prog 106 [aX eI 1 (ao p a).l,.bd 151 [.pt 0 0 0 0]] (bH p (L++[iI 1 a])) (fun r l=>r=.ba []/\l=bH p (L++[iI 1 a]++Y))) :
  ai prog 108 [.pt 0 0 0 0,rI a] (bH p L) (fun r l=>r=.ba []/\l=bH p (L++[iI 1 a]++Y++[iI 6 (nth p.slots a.toNat)])):=by
 have u':=nL p L a h0 hl;have h1:=iA p L 1 a jB;have h2:=iA p (L++[iI 1 a]++Y) 6 (nth p.slots a.toNat) (by simp only[List.length_append,List.length_singleton];omega);generalize ao p a=nd at*;refine aQ func108 ntmps108 ?_;refine S ?_
 (have W:=hk;repeat' (first|refine ax fun K hK=>?_|refine az ?_|(refine hK _ _ ?_;clear hK K)|(refine aw ?_ ?_<;>intro hc<;>try exact jz)|refine al 5 ?_|refine cm (u') ?_|refine cm (h1) ?_|refine cm (Ri) ?_|refine cm (h2) ?_|refine ay ?_|exact jI|(clear hK K)))
 (refine bA [] ?_;try simp only[go_sem])
def Jo(a:Int)(L Y:List aq)(h0:0<=a)(hl:a.toNat<p.aa.nodes.length)(hs:a.toNat<p.slots.length)(hL:¬(999900<L.length+Y.length))(hk:(ao p a).kind=11)
  (Ri:ai prog 106 [aX eI 1 (ao p a).l,.bd 151 [.pt 0 0 0 0]] (bH p (L++[iI 1 a])) (fun r l=>r=.ba []/\l=bH p (L++[iI 1 a]++Y))) :
  ai prog 108 [.pt 0 0 0 0,rI a] (bH p L) (fun r l=>r=.ba []/\l=bH p (L++[iI 1 a]++Y++[iI 6 (nth p.slots a.toNat)])):=by
 have u':=nL p L a h0 hl;have h1:=iA p L 1 a jB;have h2:=iA p (L++[iI 1 a]++Y) 6 (nth p.slots a.toNat) (by simp only[List.length_append,List.length_singleton];omega);generalize ao p a=nd at*;refine aQ func108 ntmps108 ?_;refine S ?_
 (have W:=hk;repeat' (first|refine ax fun K hK=>?_|refine az ?_|(refine hK _ _ ?_;clear hK K)|(refine aw ?_ ?_<;>intro hc<;>try exact jz)|refine al 5 ?_|refine cm (u') ?_|refine cm (h1) ?_|refine cm (Ri) ?_|refine cm (h2) ?_|refine ay ?_|exact jI|(clear hK K)))
 (refine bA [] ?_;try simp only[go_sem])
def HN(a:Int)(L Y:List aq)(h0:0<=a)(hl:a.toNat<p.aa.nodes.length)(hs:a.toNat<p.slots.length)(hL:¬(999900<L.length+Y.length))(hk:(ao p a).kind=12)
  (Ri:ai prog 106 [aX eI 1 (ao p a).l,.bd 151 [.pt 0 0 0 0]] (bH p (L++[iI 1 a])) (fun r l=>r=.ba []/\l=bH p (L++[iI 1 a]++Y))) :
  ai prog 108 [.pt 0 0 0 0,rI a] (bH p L) (fun r l=>r=.ba []/\l=bH p (L++[iI 1 a]++Y++[iI 12 (nth p.slots a.toNat)])):=by
 have u':=nL p L a h0 hl;have h1:=iA p L 1 a jB;have h2:=iA p (L++[iI 1 a]++Y) 12 (nth p.slots a.toNat) (by simp only[List.length_append,List.length_singleton];omega);generalize ao p a=nd at*;refine aQ func108 ntmps108 ?_;refine S ?_
 (have W:=hk;repeat' (first|refine ax fun K hK=>?_|refine az ?_|(refine hK _ _ ?_;clear hK K)|(refine aw ?_ ?_<;>intro hc<;>try exact jz)|refine al 5 ?_|refine cm (u') ?_|refine cm (h1) ?_|refine cm (Ri) ?_|refine cm (h2) ?_|refine ay ?_|exact jI|(clear hK K)))
 (refine bA [] ?_;try simp only[go_sem])
def Nw(a:Int)(L Y:List aq)(h0:0<=a)(hl:a.toNat<p.aa.nodes.length)(hs:a.toNat<p.slots.length)(hL:¬(999900<L.length+Y.length))(hk:(ao p a).kind=13)
  (Ri:ai prog 106 [aX eI 1 (ao p a).l,.bd 151 [.pt 0 0 0 0]] (bH p (L++[iI 1 a])) (fun r l=>r=.ba []/\l=bH p (L++[iI 1 a]++Y))) :
  ai prog 108 [.pt 0 0 0 0,rI a] (bH p L) (fun r l=>r=.ba []/\l=bH p (L++[iI 1 a]++Y++[iI 23 (0)])):=by
 have u':=nL p L a h0 hl;have h1:=iA p L 1 a jB;have h2:=iA p (L++[iI 1 a]++Y) 23 (0) (by simp only[List.length_append,List.length_singleton];omega);generalize ao p a=nd at*;refine aQ func108 ntmps108 ?_;refine S ?_
 (have W:=hk;repeat' (first|refine ax fun K hK=>?_|refine az ?_|(refine hK _ _ ?_;clear hK K)|(refine aw ?_ ?_<;>intro hc<;>try exact jz)|refine al 5 ?_|refine cm (u') ?_|refine cm (h1) ?_|refine cm (Ri) ?_|refine cm (h2) ?_|refine ay ?_|exact jI|(clear hK K)))
 (refine bA [] ?_;try simp only[go_sem])
def JS(a:Int)(L Y:List aq)(h0:0<=a)(hl:a.toNat<p.aa.nodes.length)(hs:a.toNat<p.slots.length)(hL:¬(999900<L.length+Y.length))(hk:(ao p a).kind=14)
  (Ri:ai prog 106 [aX eI 1 (ao p a).l,.bd 151 [.pt 0 0 0 0]] (bH p (L++[iI 1 a])) (fun r l=>r=.ba []/\l=bH p (L++[iI 1 a]++Y))) :
  ai prog 108 [.pt 0 0 0 0,rI a] (bH p L) (fun r l=>r=.ba []/\l=bH p (L++[iI 1 a]++Y++[iI 15 (0)])):=by
 have u':=nL p L a h0 hl;have h1:=iA p L 1 a jB;have h2:=iA p (L++[iI 1 a]++Y) 15 (0) (by simp only[List.length_append,List.length_singleton];omega);generalize ao p a=nd at*;refine aQ func108 ntmps108 ?_;refine S ?_
 (have W:=hk;repeat' (first|refine ax fun K hK=>?_|refine az ?_|(refine hK _ _ ?_;clear hK K)|(refine aw ?_ ?_<;>intro hc<;>try exact jz)|refine al 5 ?_|refine cm (u') ?_|refine cm (h1) ?_|refine cm (Ri) ?_|refine cm (h2) ?_|refine ay ?_|exact jI|(clear hK K)))
 (refine bA [] ?_;try simp only[go_sem])
def OO(a:Int)(L Y:List aq)(h0:0<=a)(hl:a.toNat<p.aa.nodes.length)(hs:a.toNat<p.slots.length)(hL:¬(999900<L.length+Y.length))(hk:(ao p a).kind=17)(RV:(ao p a).l=[])
  (Ri:ai prog 106 [aX eI 1 (ao p a).l,.bd 151 [.pt 0 0 0 0]] (bH p (L++[iI 1 a])) (fun r l=>r=.ba []/\l=bH p (L++[iI 1 a]++Y))) :
  ai prog 108 [.pt 0 0 0 0,rI a] (bH p L) (fun r l=>r=.ba []/\l=bH p (L++[iI 1 a]++Y++[iI 22 (0)])):=by
 have u':=nL p L a h0 hl;have h1:=iA p L 1 a jB;have h2:=iA p (L++[iI 1 a]++Y) 22 (0) (by simp only[List.length_append,List.length_singleton];omega);generalize ao p a=nd at*;rw[RV]at Ri;refine aQ func108 ntmps108 ?_;refine S ?_
 (have W:=jA hk RV;repeat' (first|refine ax fun K hK=>?_|refine az ?_|(refine hK _ _ ?_;clear hK K)|(refine aw ?_ ?_<;>intro hc<;>try exact jz)|refine al 5 ?_|refine cm (u') ?_|refine cm (h1) ?_|refine cm (Ri) ?_|refine cm (h2) ?_|refine ay ?_|exact jI|(clear hK K)))
 (refine bA [] ?_;try simp only[go_sem])
def N0(a:Int)(L Y:List aq)(h0:0<=a)(hl:a.toNat<p.aa.nodes.length)(hs:a.toNat<p.slots.length)(hL:¬(999900<L.length+Y.length))(hk:(ao p a).kind=17)(x:Int)(RV:(ao p a).l=[x])
  (Ri:ai prog 106 [aX eI 1 (ao p a).l,.bd 151 [.pt 0 0 0 0]] (bH p (L++[iI 1 a])) (fun r l=>r=.ba []/\l=bH p (L++[iI 1 a]++Y))) :
  ai prog 108 [.pt 0 0 0 0,rI a] (bH p L) (fun r l=>r=.ba []/\l=bH p (L++[iI 1 a]++Y++[iI 21 (0)])):=by
 have u':=nL p L a h0 hl;have h1:=iA p L 1 a jB;have h2:=iA p (L++[iI 1 a]++Y) 21 (0) (by simp only[List.length_append,List.length_singleton];omega);generalize ao p a=nd at*;rw[RV]at Ri;refine aQ func108 ntmps108 ?_;refine S ?_
 (have W:=jA hk RV;repeat' (first|refine ax fun K hK=>?_|refine az ?_|(refine hK _ _ ?_;clear hK K)|(refine aw ?_ ?_<;>intro hc<;>try exact jz)|refine al 5 ?_|refine cm (u') ?_|refine cm (h1) ?_|refine cm (Ri) ?_|refine cm (h2) ?_|refine ay ?_|exact jI|(clear hK K)))
 (refine bA [] ?_;try simp only[go_sem])
def AF(a:Int)(L Y:List aq)(h0:0<=a)(hl:a.toNat<p.aa.nodes.length)(hL:¬(999900<L.length+Y.length))(hk:(ao p a).kind=15\/(ao p a).kind=16)
  (ht:ai prog 150 [.pt 0 0 0 0,.agg (eG (ao p a)),rI L.length] (bH p (L++[iI 1 a])) (fun r l=>r=.ba []/\l=bH p (L++[iI 1 a]++Y))) :
  ai prog 108 [.pt 0 0 0 0,rI a] (bH p L) (fun r l=>r=.ba []/\l=bH p (L++[iI 1 a]++Y)):=by
 have u':=nL p L a h0 hl;have h1:=iA p L 1 a jB;generalize ao p a=nd at*;rcases hk with hk|hk
 ·refine aQ func108 ntmps108 ?_;refine S ?_
  (have W:=hk;repeat' (first|refine ax fun K hK=>?_|refine az ?_|(refine hK _ _ ?_;clear hK K)|(refine aw ?_ ?_<;>intro hc<;>try exact jz)|refine al 5 ?_|refine cm (u') ?_|refine cm (h1) ?_|refine cm (ht) ?_|refine ay ?_|exact jI|(clear hK K)))
  (refine bA [] ?_;try simp only[go_sem])
 ·refine aQ func108 ntmps108 ?_;refine S ?_
  (have W:=hk;repeat' (first|refine ax fun K hK=>?_|refine az ?_|(refine hK _ _ ?_;clear hK K)|(refine aw ?_ ?_<;>intro hc<;>try exact jz)|refine al 5 ?_|refine cm (u') ?_|refine cm (h1) ?_|refine cm (ht) ?_|refine ay ?_|exact jI|(clear hK K)))
  (refine bA [] ?_;try simp only[go_sem])
def JO{a k:Int}(h:bE p.aa.nodes a=21):iU p n a k=cd p n a k:=by have h:(ao p a).kind=21:=h;rw[sR,jN,jN,if_pos h]
def IM(p:ab)(n:Nat)(bl:Int->Int->List aq)(a from_:Int):qK p n bl a from_=(
  if(ao p a).kind=16 then aZ p n (nth (ao p a).l 0) from_++[iI 17 (from_+(aZ p n (nth (ao p a).l 0) from_).length+1+((bl (nth (ao p a).l 1) (from_+(aZ p n (nth (ao p a).l 0) from_).length+1)).length+1))]++(bl (nth (ao p a).l 1) (from_+(aZ p n (nth (ao p a).l 0) from_).length+1)++[iI 16 (from_-1)])
  else if(ao p a).l.length=3 then
   aZ p n (nth (ao p a).l 0) from_++[iI 17 (from_+(aZ p n (nth (ao p a).l 0) from_).length+1+((bl (nth (ao p a).l 1) (from_+(aZ p n (nth (ao p a).l 0) from_).length+1)).length+1))]++(bl (nth (ao p a).l 1) (from_+(aZ p n (nth (ao p a).l 0) from_).length+1)++[iI 16 (from_+(aZ p n (nth (ao p a).l 0) from_).length+1+(bl (nth (ao p a).l 1) (from_+(aZ p n (nth (ao p a).l 0) from_).length+1)).length+1+(bl (nth (ao p a).l 2) (from_+(aZ p n (nth (ao p a).l 0) from_).length+1+(bl (nth (ao p a).l 1) (from_+(aZ p n (nth (ao p a).l 0) from_).length+1)).length+1)).length)])++bl (nth (ao p a).l 2) (from_+(aZ p n (nth (ao p a).l 0) from_).length+1+(bl (nth (ao p a).l 1) (from_+(aZ p n (nth (ao p a).l 0) from_).length+1)).length+1)
  else aZ p n (nth (ao p a).l 0) from_++[iI 17 (from_+(aZ p n (nth (ao p a).l 0) from_).length+1+(bl (nth (ao p a).l 1) (from_+(aZ p n (nth (ao p a).l 0) from_).length+1)).length)]++bl (nth (ao p a).l 1) (from_+(aZ p n (nth (ao p a).l 0) from_).length+1)):=rfl
def wB(f:Int->Int->List aq)(k x:Int):bn f k [x] []=f x k:=by show[]++f x (k+((0:Nat):Int))=_;rw[Int.natCast_zero,Int.add_zero,List.nil_append]
def K5(f:Int->Int->List aq)(k x y:Int):bn f k [x,y] []=f x k++f y (k+(f x k).length):=by show bn f k [y] ([]++f x (k+((0:Nat):Int)))=_;rw[Int.natCast_zero,Int.add_zero,List.nil_append];rfl
def tz(L Y:List aq)(a b:aq):L++a::(Y++[b])=L++[a]++Y++[b]:=jE
def Nt(L Y:List aq)(a:aq):L++a::Y=L++[a]++Y:=jE
theorem wh{p:ab}(hp:jj p):∀n,Gm p n
 |0=>fun a L h0 hl hk hn hL=>by omega
 |n+1=>fun a L h0 hl hk hn hL=>by
  have hs:=wh hp n;have hx:=EZ hp n;have ht:=hp.ok.ok.aa;have hm:=ht.many;have hb:=(ht.shape a.toNat hl).2.1;have Q0:p.slots.length=p.aa.nodes.length:=hp.ok.ok.slots;have sh:=(ht.shape a.toNat hl).1;obtain⟨lo,O'⟩:=(ht.shape a.toNat hl).2.2;have O':aJ p.aa.nodes lo (ao p a).l a.toNat:=O';have P7:lo+(ao p a).l.length<=a.toNat:=zv O';have P8:eR (ao p a).kind:=hk;unfold eR at P8;have l1:(L++[iI 1 a]).length=L.length+1:=jE;have RE:∀x k,x∈(ao p a).l->ff (bE p.aa.nodes x)->(iU p n x k).length<=1200:=fun x k R3 S4=>by have Tt:=hb x R3;obtain⟨lo',hc⟩:=(ht.shape x.toNat jB).2.2;have:=FR ht n k lo' Tt.1 jB S4 hc;omega
  have Ri:∀Y,(∀x∈(ao p a).l,ff (bE p.aa.nodes x))->bn (iU p n) (L.length+1) (ao p a).l []=Y->Y.length<=2500->ai prog 106 [aX eI 1 (ao p a).l,.bd 151 [.pt 0 0 0 0]] (bH p (L++[iI 1 a])) (fun r l=>r=.ba []/\l=bH p (L++[iI 1 a]++Y)):=fun Y hr hY hYl=>by have:=AO p 151 jD (iU p n) (ao p a).l (L++[iI 1 a]) jB (1000000-3000*n) (by rw[l1,Int.natCast_add];show¬(_<L.length+1+(bn (iU p n) (L.length+1) (ao p a).l []).length);rw[hY];omega) (fun x R3 M hM=>hx x M (hb x R3).1 (by have:=hb x R3;omega) (hr x R3) (by have:=hb x R3;omega) jB);rw[l1,Int.natCast_add]at this;rw[show bn (iU p n) ((L.length:Int)+((1:Nat):Int)) (ao p a).l []=Y from hY]at this;exact this
  rw[xX];by_cases e10:(ao p a).kind=10
  ·obtain⟨x,B',TG⟩:=sh.right (by have e:(nth p.aa.nodes a.toNat).kind=10:=e10;omega);have B':(ao p a).l=[x]:=B';have RB:=RE x (L.length+1) (by rw[B'];simp) TG;have h:=Ri (iU p n x (L.length+1)) (by rw[B'];intro y hy;simp only[List.mem_singleton]at hy;subst hy;exact TG) (by rw[B',wB]) jB;rw[jP,B',show nth [x] 0=x from rfl,tz];exact HP a L _ h0 hl jB jB e10 h
  by_cases e11:(ao p a).kind=11
  ·obtain⟨x,B',TG⟩:=sh.right (by have e:(nth p.aa.nodes a.toNat).kind=11:=e11;omega);have B':(ao p a).l=[x]:=B';have RB:=RE x (L.length+1) (by rw[B'];simp) TG;have h:=Ri (iU p n x (L.length+1)) (by rw[B'];intro y hy;simp only[List.mem_singleton]at hy;subst hy;exact TG) (by rw[B',wB]) jB;rw[jP,B',show nth [x] 0=x from rfl,tz];exact Jo a L _ h0 hl jB jB e11 h
  rw[jN];by_cases e12:(ao p a).kind=12
  ·obtain⟨x,y,B',Ql,S6⟩:=sh.two (.inr e12);have B':(ao p a).l=[x,y]:=B';have RB:=RE x (L.length+1) (by rw[B'];simp) (.inl Ql);have hy1:=RE y (L.length+1+(iU p n x (L.length+1)).length) (by rw[B'];simp) (.inl S6);have h:=Ri (iU p n x (L.length+1)++iU p n y (L.length+1+(iU p n x (L.length+1)).length)) (by rw[B'];intro z hz;simp only[List.mem_cons,List.not_mem_nil,or_false]at hz;rcases hz with rfl|rfl<;>exact .inl (by assumption)) (by rw[B',K5]) (by rw[List.length_append];omega);rw[if_pos e12,B',show nth [x,y] 0=x from rfl,show nth [x,y] 1=y from rfl,<-me Ql,<-me S6,tz];exact HN a L _ h0 hl jB (by rw[List.length_append];omega) e12 h
  rw[if_neg e12];by_cases e13:(ao p a).kind=13
  ·obtain⟨x,B',Wm⟩:=sh.pB e13;have B':(ao p a).l=[x]:=B';have TG:ff (bE p.aa.nodes x):=.inr (.inr (.inr Wm));have RB:=RE x (L.length+1) (by rw[B'];simp) TG;have h:=Ri (iU p n x (L.length+1)) (by rw[B'];intro y hy;simp only[List.mem_singleton]at hy;subst hy;exact TG) (by rw[B',wB]) jB;rw[if_pos e13,B',show nth [x] 0=x from rfl,<-JO Wm,tz];exact Nw a L _ h0 hl jB jB e13 h
  rw[if_neg e13];by_cases e14:(ao p a).kind=14
  ·obtain⟨x,B',Ql⟩:=sh.one (by have e:(nth p.aa.nodes a.toNat).kind=14:=e14;omega);have B':(ao p a).l=[x]:=B';have RB:=RE x (L.length+1) (by rw[B'];simp) (.inl Ql);have h:=Ri (iU p n x (L.length+1)) (by rw[B'];intro y hy;simp only[List.mem_singleton]at hy;subst hy;exact .inl Ql) (by rw[B',wB]) jB;rw[if_pos e14,B',show nth [x] 0=x from rfl,<-me Ql,tz];exact JS a L _ h0 hl jB jB e14 h
  rw[if_neg e14];by_cases e17:(ao p a).kind=17
  ·rw[if_pos e17];rcases sh.ret e17 with B'|⟨x,B',Ql⟩
   ·have B':(ao p a).l=[]:=B';have h:=Ri [] (by rw[B'];intro y hy;simp at hy) (by rw[B'];rfl) jE;rw[B',if_pos (show([]:PJ).length=0 from rfl),show([iI 22 0]:List aq)=[]++[iI 22 0] from rfl,tz];exact OO a L _ h0 hl jB (by simp only[List.length_nil];omega) e17 B' h
   ·have B':(ao p a).l=[x]:=B';have RB:=RE x (L.length+1) (by rw[B'];simp) (.inl Ql);have h:=Ri (iU p n x (L.length+1)) (by rw[B'];intro y hy;simp only[List.mem_singleton]at hy;subst hy;exact .inl Ql) (by rw[B',wB]) jB;rw[B',if_neg (show¬([x]:PJ).length=0 from jE),show nth [x] 0=x from rfl,<-me Ql,tz];exact N0 a L _ h0 hl jB jB e17 x B' h
  rw[if_neg e17];have expL:∀x lo,aJ p.aa.nodes lo (ao p x).l x.toNat->0<=x->x.toNat<p.aa.nodes.length->bW (bE p.aa.nodes x)->∀k,(aZ p n x k).length<=1200:=fun x lo c h0 h1 h2 k=>by have:=lB ht n x k lo h0 h1 h2 c;omega
  have tst:∀x b,x∈(ao p a).l->b∈(ao p a).l->bW (bE p.aa.nodes x)->bE p.aa.nodes b=18->∃X B,aZ p n x (L.length+1)=X/\X.length<=1200/\B.length<=1200/\bn (fR p n) (L.length+1+X.length+1) (ao p b).l []=B/\
    ai prog 151 [.pt 0 0 0 0,rI x] (bH p (L++[iI 1 a])) (fun r l=>r=.ba []/\l=bH p (L++[iI 1 a]++X))/\
    ai prog 72 [.pt 0 0 0 0,rI b] (bH p (L++[iI 1 a]++X++[iI 17 0])) (fun r l=>r=.ba []/\l=bH p (L++[iI 1 a]++X++[iI 17 0]++B)):=fun x b R3 WQ Ql Sf=>by
   have Tt:=hb x R3;have WB:=hb b WQ;have hX:=RE x (L.length+1) R3 (.inl Ql);rw[me Ql]at hX;have ex:=hx x (L++[iI 1 a]) Tt.1 jB (.inl Ql) jB jB;rw[me Ql,l1,Int.natCast_add]at ex;refine⟨_,_,rfl,hX,xh ht n b _ WB.1 jB Sf,rfl,ex,?_⟩;have eb:=Ak hp hs b (L++[iI 1 a]++aZ p n x (L.length+1)++[iI 17 0]) WB.1 jB Sf jB (by simp only[List.length_append,List.length_singleton];omega);rw[show((L++[iI 1 a]++aZ p n x (L.length+1)++[iI 17 0]).length:Int)=L.length+1+(aZ p n x (L.length+1)).length+1 by simp only[List.length_append,List.length_singleton];omega]at eb;exact eb
  rw[Nt,IM];by_cases e16:(ao p a).kind=16
  ·obtain⟨x,b,B',Ql,Sf⟩:=sh.fm e16;have B':(ao p a).l=[x,b]:=B';obtain⟨X,B,t1,t2,t3,t4,t5,t6⟩:=tst x b (by rw[B'];simp) (by rw[B'];simp) Ql Sf;have hw:=MG (ao p a) x b (L++[iI 1 a]) X B L.length jB e16 B' t5 t6;rw[if_pos e16,B',show nth [x,b] 0=x from rfl,show nth [x,b] 1=b from rfl,t1,t4];rw[show((L.length:Int)+1+X.length+1+(B.length+1))=(((L++[iI 1 a]).length+X.length+1+(B.length+1):Nat):Int) by rw[l1];omega,show(L.length:Int)+1-1=L.length from jB];refine AF a L _ h0 hl (by simp only[List.length_append,List.length_singleton];omega) (.inr e16) ?_;simp only[List.append_assoc]at hw ⊢;exact hw
  rw[if_neg e16];have e15:(ao p a).kind=15:=jB;obtain⟨x,b,Ql,Sf,B'|⟨d,B',VM⟩⟩:=sh.lN e15
  ·have B':(ao p a).l=[x,b]:=B';obtain⟨X,B,t1,t2,t3,t4,t5,t6⟩:=tst x b (by rw[B'];simp) (by rw[B'];simp) Ql Sf;have hw:=Ho (ao p a) x b (L++[iI 1 a]) X B L.length jB e16 B' t5 t6;rw[B',if_neg (show¬([x,b]:PJ).length=3 from jE),show nth [x,b] 0=x from rfl,show nth [x,b] 1=b from rfl,t1,t4];rw[show((L.length:Int)+1+X.length+1+B.length)=(((L++[iI 1 a]).length+X.length+1+B.length:Nat):Int) by rw[l1];omega];refine AF a L _ h0 hl (by simp only[List.length_append,List.length_singleton];omega) (.inl e15) ?_;simp only[List.append_assoc]at hw ⊢;exact hw
  ·have B':(ao p a).l=[x,b,d]:=B';obtain⟨X,B,t1,t2,t3,t4,t5,t6⟩:=tst x b (by rw[B'];simp) (by rw[B'];simp) Ql Sf;have VN:=hb d (by show d∈(ao p a).l;rw[B'];simp);have hD:=xh ht n d (L.length+1+X.length+1+B.length+1) VN.1 jB VM;have hsum:X.length+B.length<=1200:=by
    have O':=O';rw[B']at O';obtain⟨c1,c2,c3,c4,c5,c6⟩:=jW O';obtain⟨d1,d2,d3,d4,d5,d6⟩:=jW c6;have q1:=lB ht n x (L.length+1) lo c1 jB Ql c5;have q2:=D4 ht n b (L.length+1+X.length+1) _ d1 jB Sf d5;rw[t1]at q1;rw[t4]at q2;omega
   have ed:=Ak hp hs d (L++[iI 1 a]++X++[iI 17 ((L++[iI 1 a]).length+X.length+1+(B.length+1):Nat)]++B++[iI 16 0]) VN.1 jB VM jB (by simp only[List.length_append,List.length_singleton];omega);rw[show((L++[iI 1 a]++X++[iI 17 ((L++[iI 1 a]).length+X.length+1+(B.length+1):Nat)]++B++[iI 16 0]).length:Int)=L.length+1+X.length+1+B.length+1 by simp only[List.length_append,List.length_singleton];omega]at ed;rw[B',if_pos (show([x,b,d]:PJ).length=3 from rfl),show nth [x,b,d] 0=x from rfl,show nth [x,b,d] 1=b from rfl,show nth [x,b,d] 2=d from rfl,t1,t4];generalize hDD:bn (fR p n) (L.length+1+X.length+1+B.length+1) (ao p d).l []=D at*;have hw:=Lx (ao p a) x b d (L++[iI 1 a]) X B D L.length jB e16 B' t5 t6 ed;rw[show((L.length:Int)+1+X.length+1+(B.length+1))=(((L++[iI 1 a]).length+X.length+1+(B.length+1):Nat):Int) by rw[l1];omega,show((L.length:Int)+1+X.length+1+B.length+1+D.length)=(((L++[iI 1 a]).length+X.length+1+B.length+1+D.length:Nat):Int) by rw[l1];omega];refine AF a L _ h0 hl (by simp only[List.length_append,List.length_singleton];omega) (.inl e15) ?_;simp only[List.append_assoc]at hw ⊢;exact hw
structure Fw(c c':Ck):Prop where
 fn:c'.fn=c.fn
 au:∀x∈c'.au,x∈c.au\/x=c.fn
def Fw.refl(c:Ck):Fw c c:=⟨rfl,fun _ h=>.inl h⟩
theorem Fw.trans{a b c:Ck}(h:Fw a b)(k:Fw b c):Fw a c:=⟨k.fn.trans h.fn,fun x hx=>by
 rcases k.au x hx with e|e
 ·exact h.au x e
 ·right;rw[e,h.fn]⟩
structure Ns(c c':Ck):Prop where
 aa:c'.aa=c.aa
 slots:∀k,¬iM (nth c.aa.nodes k).kind->nth c'.slots k=nth c.slots k
def Ns.refl(c:Ck):Ns c c:=⟨rfl,fun _ _=>rfl⟩
theorem Ns.trans{a b c:Ck}(h:Ns a b)(k:Ns b c):Ns a c:=⟨k.aa.trans h.aa,fun j hj=>(k.slots j (by rw[h.aa];exact hj)).trans (h.slots j hj)⟩
def uo{c c':Ck}(h1:c'.aa=c.aa)(h2:c'.slots=c.slots):Ns c c':=⟨h1,fun _ _=>by rw[h2]⟩
def ET(c:Ck)(a s:Int)(h:iM (c.node a).kind):Ns c (c.slot a s):=⟨rfl,fun k hk=>by
 show nth (c.slots.set a.toNat s) k=_;unfold nth;rw[List.getD_eq_getElem?_getD,List.getElem?_set,List.getD_eq_getElem?_getD];by_cases e:a.toNat=k
 ·subst e;exact(hk h).elim
 ·rw[if_neg e]⟩
def pV(c:Ck)(e a:Int):Ns c (c.aC e a):=by unfold Ck.aC;split<;>exact uo rfl rfl
def nw(c:Ck)(b:Bool)(a:Int):Ns c (c.ap b a):=by unfold Ck.ap;split;exact .refl _;exact pV _ _ _
def wI(c:Ck)(a:Int)(h:iM (c.node a).kind):Ns c (c.named a).1:=by unfold Ck.named;split;exact pV _ _ _;exact ET c a _ h
def KZ(c:Ck)(a t:Int):Ns c (c.note a t):=⟨rfl,fun _ _=>rfl⟩
def Cn(c:Ck)(a:Int):Ns c (c.ah a):=⟨rfl,fun _ _=>rfl⟩
def sq{c x y:Ck}{q:Prop}[Decidable q](h:Ns c x)(k:Ns c y):Ns c (if q then x else y):=by split;exact h;exact k
theorem Cm{ex:Ck->Int->Ck×Int}(hx:∀c a,Ns c (ex c a).1):∀(L:PJ) (c:Ck) (ts:PJ),Ns c (gy ex c L ts).1
 |[],c,ts=>by unfold gy;exact .refl c
 |a::L,c,ts=>by
  unfold gy;split
  ·exact(hx c a).trans (Cm hx L _ _)
  ·exact .refl c
theorem Gl(a:Int):∀(ts:PJ) (ps:List ce) (c:Ck),Ns c (hZ a c ts ps)
 |[],ps,c=>by rw[uN];exact .refl c
 |_::_,[],c=>by rw[uP];exact .refl c
 |x::ts,p::ps,c=>by
  unfold hZ;split
  ·exact(nw _ _ _).trans (Gl a ts ps _)
  ·exact .refl c
variable{ex:Ck->Int->Ck×Int}
def Lr(hx:∀c a,Ns c (ex c a).1)(c:Ck)(a:Int):Ns c (iL ex c a).1:=by
 unfold iL;split
 ·exact pV _ _ _
 ·simp only;exact((Cm hx _ c _).trans (sq (pV _ _ _) (.refl _))).trans (Gl _ _ _ _)
def Og(hx:∀c a,Ns c (ex c a).1)(c:Ck)(a:Int):Ns c (bX ex c a).1:=by
 unfold bX;simp only;split
 ·exact .refl c
 split
 ·exact .refl c
 split
 ·exact .refl c
 split
 ·rename_i e;exact wI _ _ (.inl e)
 split
 ·exact Lr hx c a
 split
 ·rename_i e;exact((wI _ _ (.inr (.inl e))).trans (hx _ _)).trans (nw _ _ _)
 split
 ·exact((hx _ _).trans (hx _ _)).trans (nw _ _ _)
 split
 ·exact(hx _ _).trans (nw _ _ _)
 split
 ·exact(hx _ _).trans (nw _ _ _)
 split
 ·exact(hx _ _).trans (nw _ _ _)
 ·exact(hx _ _).trans (nw _ _ _)
theorem qM:∀(n:Nat) (c:Ck) (a:Int),Ns c (av n c a).1
 |0,c,a=>by unfold av;exact .refl c
 |n+1,c,a=>by
  unfold av;split
  ·exact .refl c
  ·exact(Og (qM n) c a).trans (KZ _ _ _)
def OZ(hx:∀c a,Ns c (ex c a).1)(c:Ck)(a:Int)(hk:iM (c.node a).kind):Ns c (o6 ex c a):=by have hA:Ns c (iy ex c a):=(hx c _).trans (nw _ _ _);have hB:Ns (iy ex c a) (jy ex c a):=sq (pV _ _ _) (.refl _);have hC:Ns (jy ex c a) (ee ex c a):=sq (pV _ _ _) (.refl _);rw[ut];have VO:=(hA.trans hB).trans hC;exact VO.trans ((ET (ee ex c a) a _ (by unfold Ck.node;rw[VO.aa];exact hk)).trans (uo rfl rfl))
def KP(hx:∀c a,Ns c (ex c a).1)(c:Ck)(a:Int):Ns c (kg ex c a):=by
 unfold kg;simp only;split
 ·exact pV _ _ _
 split
 ·exact(hx _ _).trans (nw _ _ _)
 ·exact .refl c
theorem Ar{st:Ck->Int->Ck}(hs:∀c a,Ns c (st c a)):∀(L:PJ) (c:Ck),Ns c (dF st c L)
 |[],c=>by unfold dF;exact .refl c
 |a::L,c=>by
  unfold dF;split
  ·exact(hs c a).trans (Ar hs L _)
  ·exact .refl c
def D6{st:Ck->Int->Ck}(hs:∀c a,Ns c (st c a))(c:Ck)(a:Int):Ns c (fe st c a):=by unfold fe;simp only;exact((Cn c a).trans (Ar hs _ _)).trans (uo rfl rfl)
theorem Fy:∀(n:Nat) (c:Ck) (a:Int),Ns c (bJ n c a)
 |0,c,a=>by unfold bJ;exact .refl c
 |n+1,c,a=>by
  unfold bJ;simp only;refine(Cn c a).trans ?_;split
  ·rename_i e;exact OZ (qM n) _ _ (.inr (.inr (.inl e)))
  split
  ·rename_i e;exact((wI _ _ (.inr (.inr (.inr (.inl e))))).trans (qM n _ _)).trans (nw _ _ _)
  split
  ·rename_i e;exact(((wI _ _ (.inr (.inr (.inr (.inr e))))).trans (qM n _ _)).trans (qM n _ _)).trans (nw _ _ _)
  split
  ·exact qM n _ _
  split
  ·exact(qM n _ _).trans (nw _ _ _)
  split
  ·exact KP (qM n) _ _
  ·exact((qM n _ _).trans (nw _ _ _)).trans (Ar (fun c a=>D6 (Fy n) c a) _ _)
theorem DG(body:Int):∀(ps:List ce) (c:Ck) (i:Int),Ns c (fC body c ps i)
 |[],c,i=>by unfold fC;exact .refl c
 |p::ps,c,i=>by unfold fC;simp only;have h1:Ns c (if 0<=c.find p.name then c.aC 41 body else c):=sq (pV c 41 body) (.refl c);generalize (if 0<=c.find p.name then c.aC 41 body else c)=d at*;refine h1.trans ?_;exact Ns.trans (b:={ d with vars:=d.vars++[⟨p.name,p.ty,i⟩],more:=d.more.drop 1,size:=d.size+1 }) (uo rfl rfl) (DG body ps _ _)
def LV(c:Ck)(k:Nat):Ns c (gD c k):=by
 have h:Ns { c with fn:=(k:Int),vars:=[],more:=[],size:=0 } (gD c k):=by unfold gD;simp only;exact((DG _ _ _ _).trans (sq (D6 (Fy _) _ _) (.refl _))).trans (uo rfl rfl)
 exact Ns.trans (b:={ c with fn:=(k:Int),vars:=[],more:=[],size:=0 }) (uo rfl rfl) h
theorem GB:∀(n i:Nat) (c:Ck),Ns c (gG c i n)
 |0,i,c=>by unfold gG;exact .refl c
 |n+1,i,c=>by
  unfold gG;split
  ·exact(LV c i).trans (GB n (i+1) _)
  ·exact .refl c
theorem EV(x:aU):∀(l:List aU) (c:Ck),Ns c (lb x c l)
 |[],c=>by unfold lb;exact .refl c
 |f::l,c=>by unfold lb;exact(sq (pV _ _ _) (.refl _):Ns c (if f.name=x.name then c.aC 41 x.body else c)).trans (EV x l _)
theorem Bc(au:List aU):∀(n i:Nat) (c:Ck) (m:Bool),Ns c (kG au c m i n).1
 |0,i,c,m=>by unfold kG;exact .refl c
 |n+1,i,c,m=>by unfold kG;exact(EV _ _ c).trans (Bc au n (i+1) _ _)
def Ip(c:Ck):Ns c (iY c):=by unfold iY;simp only;exact sq (Bc _ _ _ _ _) ((Bc _ _ _ _ _).trans (pV _ _ _))
def O5{t:aF}(he:(gZ t).2.2=0):∀k,k<t.nodes.length->¬iM (nth t.nodes k).kind->nth (gZ t).1.slots k<=0:=fun k hk hn=>by
 unfold gZ at he ⊢;split at he
 ·rename_i h;exact(h he).elim
 rename_i h;rw[if_neg h];have h1:=(Ip (jU t)).trans (GB t.au.length 0 _);show nth (gG (iY (jU t)) 0 t.au.length).slots k<=0;rw[h1.slots k hn];show nth (t.nodes.map fun _=>(-1:Int)) k<=0;unfold nth;rw[List.getD_eq_getElem?_getD,List.getElem?_map,List.getElem?_eq_getElem hk];show(-1:Int)<=0;omega
def I7{t:List bg}{lo hi:Nat}{L:PJ}(h:aJ t lo L hi):∀k,lo<=k->k<hi->∃j,j<L.length/\k<=(nth L j).toNat/\(if j=0 then lo else(nth L (j-1)).toNat+1)<=k:=by
 induction h with
 |nil=>intro k h1 h2;omega
 |@cons lo c hi L hc h1 h2 i1 i2=>
  intro k Qg P1;by_cases e:k<=c
  ·exact⟨0,jE,by show k<=(c:Int).toNat;omega,by rw[if_pos rfl];exact Qg⟩
  ·obtain⟨j,g1,g2,g3⟩:=i2 k jB P1;refine⟨j+1,by simp;omega,g2,?_⟩;rw[jN];by_cases e0:j=0
   ·subst e0;show(c:Int).toNat+1<=k;omega
   ·rw[if_neg e0]at g3;rw[show j+1-1=(j-1)+1 from jB];exact g3
def Hj(h:fG p):∀k,k<p.aa.nodes.length->iM (nth p.aa.nodes k).kind->0<=nth p.slots k:=fun k hk hs=>by
 obtain⟨j,g1,g2,g3⟩:=I7 h.ok.aa.chain k (Nat.zero_le _) hk;have g1:j<p.aa.au.length:=by simpa using g1
 have e:∀i,i<p.aa.au.length->nth (p.aa.au.map (·.body)) i=(nth p.aa.au i).body:=fun i hi=>by unfold nth;rw[List.getD_eq_getElem?_getD,List.getElem?_map,List.getD_eq_getElem?_getD,List.getElem?_eq_getElem hi];rfl
 rw[e j g1]at g2;have hf:=h.au j g1;refine(hf.all k ?_ jB hs).1;unfold nV;split at g3
 ·rename_i e0;rw[if_pos e0];exact g3
 ·rename_i e0;rw[if_neg e0];rw[e (j-1) jB]at g3;exact g3
def Ku{s:PL}(he:(fP s).2.2=0):∀k,k<(fP s).1.aa.nodes.length->¬iM (nth (fP s).1.aa.nodes k).kind->nth (fP s).1.slots k<=0:=by
 have hok:=NE he;unfold fP at he hok ⊢;split at he
 ·rename_i h;exact(h he).elim
 rename_i h;rw[if_neg h]at hok ⊢;have h:(gz s).2.2=0:=jB;simp only at he hok ⊢;split at he
 ·cases he
 rename_i h2;split at he
 ·rename_i h3;exact(h3 he).elim
 rename_i h3;rw[if_neg h2,if_neg h3]at hok ⊢;have ht:=(Bn (xc h) jB).2;simp only at hok ⊢;rw[ht];exact O5 jB
attribute [local go_sem] iI
def PC(hp:jj p):dO prog 41 [.agg (fD p)] (.agg (vC (cC p))):=by
 have ht:=hp.ok.ok.aa;have hm:=ht.many;have W0:=ht.au;have eV:cC p=eN p p.aa.au.length:=by unfold cC eN;rw[List.take_length]
 rw[eV];have Rf:=yX hp.ok;have Rg:=xr p;rw[BL];refine fg func41 ntmps41 ?_;refine S ?_
 (repeat' (first|refine ax fun K hK=>?_|refine az ?_|(refine hK _ _ ?_;clear hK K)|(refine aw ?_ ?_<;>intro hc<;>try exact jz)|refine dL 2 ?_|refine al 3 ?_|refine al 0 ?_|refine ay ?_|exact jI|(clear hK K)))
 refine gT (cU.fl 1 0 6 118 4 rfl jC rfl rfl) ?_
 (refine S ?_;try exact jI)
 refine gT (cU.nil 5 4 3 (sz:=1) rfl jC (Or.inl rfl)) ?_
 (refine S ?_;try exact jI)
 have PY:=hK;clear hK;refine dR (S:=Nat) [(4,1),(6,1),(13,17)] (fun k=>k<=p.aa.au.length) (fun k=>[(4,.rs 5 k 1 k),(13,rI k)])
  (fun k=>⟨[],[(2,.var 29 (hS p)),(3,.var 99 [.raw (.slice none 0 0),.raw (.slice none 0 0)]),(0,.var 159 (hS p++[.rs 1 (eN p k).ins.length 4 (eN p k).ins.length])),(1,.aE 118 4 ((eN p k).ins.map cO)),(5,.aE 3 1 ((eN p k).entry.map eI))]⟩)
  (fun k=>p.aa.au.length-k) 0 jB (dS rfl cc) ?_
 rintro k hk Kr P3;have S3:=Rf k hk;have W3:=Rg k hk;by_cases PW:k<p.aa.au.length
 ·have hs:=wM p k PW;have RC:=pC ht (k:=k) PW;have Ra:=RC.1;have RA:=RC.2;have S5:=ht.body _ (fu PW);have UP:=xh ht (lR p) (nth p.aa.au k).body (eN p k).ins.length jB jB S5;have XU:=Ak hp (wh hp (lR p)) (nth p.aa.au k).body (eN p k).ins jB jB S5 (by show _<=p.aa.nodes.length;omega) (by have:lR p<=300:=hm;omega);change ai _ _ _ _ (fun r l=>r=.ba []/\l=bH p ((eN p k).ins++pN p (lR p) (nth p.aa.au k).body (eN p k).ins.length))at XU
  change (pN p (lR p) (nth p.aa.au k).body (eN p k).ins.length).length<=1200 at UP
  have TF:=iA p ((eN p k).ins++pN p (lR p) (nth p.aa.au k).body (eN p k).ins.length) 22 (nth p.aa.au k).ret (by rw[List.length_append];omega);have e1:(eN p (k+1)).ins=(eN p k).ins++pN p (lR p) (nth p.aa.au k).body (eN p k).ins.length++[iI 22 (nth p.aa.au k).ret]:=by rw[hs];rfl
  have e2:(eN p (k+1)).entry=(eN p k).entry++[((eN p k).ins.length:Int)]:=by rw[hs];rfl
  generalize pN p (lR p) (nth p.aa.au k).body (eN p k).ins.length=B at*;generalize Y1:eN p (k+1)=C' at*;generalize eN p k=C at*;generalize hF:nth p.aa.au k=F at*;refine S ?_
  (have W:=jA hF W3;repeat' (first|refine ax fun K hK=>?_|refine az ?_|(refine hK _ _ ?_;clear hK K)|(refine aw ?_ ?_<;>intro hc<;>try exact jz)|refine al 6 ?_|refine cm (XU) ?_|refine cm (TF) ?_|refine ay ?_|exact jI|(clear hK K)))
  refine P3 _ _ (yo [6] (k+1) jB (by show p.aa.au.length-(k+1)<p.aa.au.length-k;omega) rfl Sd (by rw[Y1,e1,e2];simp only[hS,List.map_append,List.length_append,List.map_cons,List.map_nil,List.length_cons,List.length_nil];rfl) j6)
 ·have e:k=p.aa.au.length:=jB;subst e;generalize eN p p.aa.au.length=C at*;refine S ?_
  (have W:=W3;repeat' (first|refine ax fun K hK=>?_|refine az ?_|(refine hK _ _ ?_;clear hK K)|(refine aw ?_ ?_<;>intro hc<;>try exact jz)|refine PY _ _ ?_|refine ay ?_|exact jI|(clear hK K)))
  refine lE [.cell 2 99] ?_;exact bT.agg (ds:=[aX cO 4 C.ins,aX eI 1 C.entry]) (jA (dz.row (enc:=cO) C.ins rfl rfl jE) (jA (dz.row (enc:=eI) C.entry rfl rfl (by simp[W3])) trivial))
def DN{s:PL}(he:(fP s).2.2=0):jj (fP s).1:=⟨FC he,Ku he,Hj (FC he)⟩
def KF(f:aU):dO prog 74 [.agg (fZ f)] (rB (decide (f.name=(⟨#[109,97,105,110]⟩:PL)))):=by
 refine fg func74 ntmps74 ?_
 (repeat' (first|refine ax fun K hK=>?_|refine az ?_|(refine hK _ _ ?_;clear hK K)|(refine aw ?_ ?_<;>intro hc<;>try exact jz)|refine dL 4 ?_|refine ay ?_|exact jI|(clear hK K)))
 (refine bA [.tmp 2] ?_;try simp only[go_sem])
def IX(L:List aU)(k:Nat)(hL:L.length<=1000)(hk:k<L.length)(Qi:(nth L k).name=(⟨#[109,97,105,110]⟩:PL))(RD:∀i,i<k->(nth L i).name≠(⟨#[109,97,105,110]⟩:PL)) :
  dO prog 58 [aX fZ 5 L,.raw (.func (.func 74) #[] #[])] (rI k):=by
 refine fg func58 ntmps58 ?_
 (repeat' (first|refine ax fun K hK=>?_|refine az ?_|(refine hK _ _ ?_;clear hK K)|(refine aw ?_ ?_<;>intro hc<;>try exact jz)|refine ay ?_|exact jI|(clear hK K)))
 refine dR (S:=Nat) [(4,2),(8,11)] (fun i=>i<=k) (fun i=>[(8,rI i)]) (fun i=>⟨[],[]⟩) (fun i=>k-i) 0 jB (dS rfl cc) ?_;rintro i hi Kr P3;have SP:=KF (nth L i);by_cases e:i=k
 ·subst e;rw[decide_eq_true Qi]at SP;refine S ?_
  (repeat' (first|refine ax fun K hK=>?_|refine az ?_|(refine hK _ _ ?_;clear hK K)|(refine aw ?_ ?_<;>intro hc<;>try exact jz)|refine cp (SP) ?_|refine ay ?_|exact jI|(clear hK K)))
  (refine bA [.tmp 4] ?_;try simp only[go_sem])
 ·rw[decide_eq_false (RD i jB)]at SP;refine S ?_
  (repeat' (first|refine ax fun K hK=>?_|refine az ?_|(refine hK _ _ ?_;clear hK K)|(refine aw ?_ ?_<;>intro hc<;>try exact jz)|refine cp (SP) ?_|refine ay ?_|exact jI|(clear hK K)))
  refine P3 _ _ (dZ (i+1) jB jJ rfl cc)
def O0(m:Nat)(hL:p.aa.au.length<=1000)(hk:m<p.aa.au.length)(Qi:(nth p.aa.au m).name=(⟨#[109,97,105,110]⟩:PL))(RD:∀i,i<m->(nth p.aa.au i).name≠(⟨#[109,97,105,110]⟩:PL)):dO prog 44 [.agg (fD p)] (rI m):=by
 have W1:=IX p.aa.au m hL hk Qi RD;rw[BL];refine fg func44 ntmps44 ?_;refine S ?_
 (repeat' (first|refine ax fun K hK=>?_|refine az ?_|(refine hK _ _ ?_;clear hK K)|(refine aw ?_ ?_<;>intro hc<;>try exact jz)|refine dL 2 ?_|refine cp (W1) ?_|refine ay ?_|exact jI|(clear hK K)))
 (refine bA [.tmp 2] ?_;try simp only[go_sem])
end Go.Proofs.YtghoellpinmenaaGreatDoor