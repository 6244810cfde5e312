/- Lemmas. No conditions. -/
import Derived.Test.YtjpcgmjaipfgdaaGreatDoorViA
set_option linter.all false
set_option maxHeartbeats 4000000
set_option maxRecDepth 10000
namespace Go.Gd
open Go
def kj(h:TC)(k:Nat):Nat:=(h.take k).flatten.length
def lu(h:TC):TD:=(List.range h.length).map fun k=>((kj h (k+1):Nat):Int)
def vL(h:TC):(lu h).length=h.length:=by simp[lu]
variable{h:TC}
def u7{k:Nat}(hk:k<h.length):kj h (k+1)=kj h k+(nth h k).length:=by unfold kj;rw[List.take_succ,List.getElem?_eq_getElem hk,List.flatten_append,List.length_append,fJ hk];simp
def wH(h:TC)(k:Nat):kj h k<=h.flatten.length:=by
 unfold kj;have:h.flatten=(h.take k).flatten++(h.drop k).flatten:=by rw[<-List.flatten_append,List.take_append_drop]
 rw[this,List.length_append];omega
def Et{k:Nat}(hk:k<h.length):nth (lu h) k=(kj h (k+1):Nat):=by rw[fJ (by rw[vL];exact hk)];simp[lu]
def OV{k i:Nat}(hk:k<h.length)(hi:i<(nth h k).length):nth h.flatten (kj h k+i)=nth (nth h k) i:=by
 have e:h.flatten=(h.take k).flatten++(nth h k++(h.drop (k+1)).flatten):=by rw[fJ hk,<-List.flatten_cons,List.getElem_cons_drop,<-List.flatten_append,List.take_append_drop]
 rw[e];unfold kj;unfold nth at hi ⊢;rw[List.getD_eq_getElem?_getD,List.getElem?_append_right jB,Nat.add_sub_cancel_left,List.getElem?_append_left hi,<-List.getD_eq_getElem?_getD]
def Kz{k i:Nat}(n:Int)(hk:k<h.length)(hi:i<(nth h k).length):(h.set k ((nth h k).set i n)).flatten=h.flatten.set (kj h k+i) n:=by
 have e:h.flatten=(h.take k).flatten++(nth h k++(h.drop (k+1)).flatten):=by rw[fJ hk,<-List.flatten_cons,List.getElem_cons_drop,<-List.flatten_append,List.take_append_drop]
 have e2:h.set k ((nth h k).set i n)=h.take k++((nth h k).set i n::h.drop (k+1)):=by rw[List.set_eq_take_append_cons_drop,if_pos hk]
 rw[e2,List.flatten_append,List.flatten_cons,e];unfold kj;rw[List.set_append_right _ _ jB,Nat.add_sub_cancel_left,List.set_append_left _ _ hi]
def JW{k:Nat}(l:TD)(hl:l.length=(nth h k).length)(hk:k<h.length):lu (h.set k l)=lu h:=by
 unfold lu;rw[List.length_set];apply List.map_congr_left;intro j _;congr 1
 unfold kj;rw[List.take_set,List.length_flatten,List.length_flatten,List.map_set];congr 1
 apply List.ext_getElem jE;intro i h1 h2;rw[List.getElem_set];split
 ·rename_i e;subst e;rw[List.getElem_map,List.getElem_take,hl,fJ hk]
 ·rfl
def gL(h:TC):TA:=[(2,.var 269 [.rs 3 h.flatten.length 1 h.flatten.length,.rs 4 h.length 1 h.length]),(3,.aF 3 1 (h.flatten.map eI)),(4,.aF 3 1 ((lu h).map eI))]
attribute [go_sem] gL
def Mj(h:TC)(k:Nat):(h++[List.replicate k 0]).flatten=h.flatten++List.replicate k 0:=jE
def Lw(h:TC)(k:Nat):lu (h++[List.replicate k 0])=lu h++[((h.flatten.length+k:Nat):Int)]:=by
 unfold lu;rw[List.length_append,List.length_singleton,List.range_succ,List.map_append,List.map_singleton];congr 1
 ·apply List.map_congr_left;intro j hj;have hj:j<h.length:=List.mem_range.1 hj;congr 1
  unfold kj;rw[List.take_append_of_le_length jB]
 ·congr 2
  unfold kj;rw[List.take_of_length_le jE];simp
def PW(k:Nat):(List.replicate k (0:Int)).map eI=List.replicate k [AV.raw (.int .i64 0)]:=by simp[eI]
def kg(p:af):TB:=[aM eF 5 p.aa.nodes,aM fX 5 p.aa.av,aM eI 1 p.types,aM eI 1 p.slots,aM eI 1 p.fn,aM eI 1 p.size]
def z7(p:af):ci p=kg p:=rfl
def bV(p:af)(L:List ax):TA:=[(0,.var 267 (kg p++[.rs 1 L.length 4 L.length])),(1,.aF 219 4 (L.map dj))]
attribute [go_sem] bV kg
def MP(f:Int->Int->List ax)(k:Int)(L:TD)(i:Nat):(bv f k (L.take i) []).length<=(bv f k L []).length:=by have e:=CB f (L.take i) (L.drop i) k [];rw[List.take_append_drop]at e;rw[e,vw f (L.drop i)];simp
def Lx(f:Int->Int->List ax)(k:Int)(L:TD)(i:Nat)(h:i<L.length):bv f k (L.take (i+1)) []=bv f k (L.take i) []++f (nth L i) (k+(bv f k (L.take i) []).length):=by rw[show L.take (i+1)=L.take i++[nth L i] by rw[List.take_succ,List.getElem?_eq_getElem h,fJ h];rfl,CB];rfl
end Go.Gd
namespace Go.Proofs.YtjpcgmjaipfgdaaGreatDoor
open Go Go.Gd Tryz
def At(h:TC)(a:Int)(hl:h.length<=1000)(ha:a<1\/(h.length:Int)<a):ab prog 175 [.pt 2 0 0 0,rI a] (gL h) (fun r l=>r=.raw (.slice none 0 0)/\l=gL h):=by
 have Vk:=vL h;by_cases h1:a<1
 ·refine aL func175 ntmps175 ?_;refine S ?_
  (repeat' (first|refine aq fun K hK=>?_|refine au ?_|(refine hK _ _ ?_;clear hK K)|(refine ap ?_ ?_<;>intro hc<;>try exact jz)|refine ar ?_|exact jI|(clear hK K)))
  (refine bW [.tmp 4] ?_ ?_<;>(try simp only[go_sem]))
 ·refine aL func175 ntmps175 ?_;refine S ?_
  (repeat' (first|refine aq fun K hK=>?_|refine au ?_|(refine hK _ _ ?_;clear hK K)|(refine ap ?_ ?_<;>intro hc<;>try exact jz)|refine ar ?_|exact jI|(clear hK K)))
  (refine bW [.tmp 4] ?_ ?_<;>(try simp only[go_sem]))
def xj(h:TC)(k:Nat)(a:Int)(ha:a=(k:Int)+1)(hl:h.length<=1000)(hf:h.flatten.length<=1000)(hk:k<h.length):ab prog 175 [.pt 2 0 0 0,rI a] (gL h) (fun r l=>r=.rv 3 h.flatten.length 1 (kj h k) (nth h k).length/\l=gL h):=by
 have Vk:=vL h;have e1:nth (lu h) (a-1).toNat=(kj h k+(nth h k).length:Nat):=by rw[show(a-1).toNat=k from jB,Et hk,u7 hk]
 have e2:=u7 hk;have e3:=wH h (k+1);generalize (nth h k).length=c at*;by_cases h1:k=0
 ·have e0:kj h k=0:=by subst h1;rfl
  rw[e0]at e1 e2;rw[e0];refine aL func175 ntmps175 ?_;refine S ?_
  (have W:=jA Vk e1;repeat' (first|refine aq fun K hK=>?_|refine au ?_|(refine hK _ _ ?_;clear hK K)|(refine ap ?_ ?_<;>intro hc<;>try exact jz)|refine ar ?_|exact jI|(clear hK K)))
  (refine bW [.tmp 4] ?_ ?_<;>(try simp only[go_sem]))
  rw[Nat.sub_zero]
 ·have e4:nth (lu h) (a-2).toNat=(kj h k:Nat):=by
   have e4:=Et (h:=h) (k:=k-1) jB;rw[show k-1+1=k from jB]at e4;rw[show(a-2).toNat=k-1 from jB];exact e4
  generalize kj h k=o at*;refine aL func175 ntmps175 ?_;refine S ?_
  (have W:=jA Vk (jA e1 (e4));repeat' (first|refine aq fun K hK=>?_|refine au ?_|(refine hK _ _ ?_;clear hK K)|(refine ap ?_ ?_<;>intro hc<;>try exact jz)|refine ar ?_|exact jI|(clear hK K)))
  (refine bW [.tmp 4] ?_ ?_<;>(try simp only[go_sem]))
  rw[Nat.add_sub_cancel_left]
def P2(h:TC)(a:Int)(hl:h.length<=1000)(hf:h.flatten.length<=1000):ab prog 212 [.pt 2 0 0 0,rI a] (gL h) (fun r l=>r=rI (MV.bk h a).length/\l=gL h):=by
 unfold MV.bk;by_cases e:a<1\/(h.length:Int)<a
 ·have TP:=At h a hl e;rw[if_pos e];refine aL func212 ntmps212 ?_;refine S ?_
  (repeat' (first|refine aq fun K hK=>?_|refine au ?_|(refine hK _ _ ?_;clear hK K)|(refine ap ?_ ?_<;>intro hc<;>try exact jz)|refine cm (TP) ?_|refine ar ?_|exact jI|(clear hK K)))
  (refine bW [.tmp 4] ?_ ?_<;>(try simp only[go_sem]))
 ·have TP:=xj h (a-1).toNat a jB hl hf jB;rw[if_neg e];refine aL func212 ntmps212 ?_;refine S ?_
  (repeat' (first|refine aq fun K hK=>?_|refine au ?_|(refine hK _ _ ?_;clear hK K)|(refine ap ?_ ?_<;>intro hc<;>try exact jz)|refine cm (TP) ?_|refine ar ?_|exact jI|(clear hK K)))
  (refine bW [.tmp 4] ?_ ?_<;>(try simp only[go_sem]))
def Lj(h:TC)(a i:Int)(hl:h.length<=1000)(hf:h.flatten.length<=1000):ab prog 213 [.pt 2 0 0 0,rI a,rI i] (gL h) (fun r l=>r=.aP [rI (if i<0\/((MV.bk h a).length:Int)<=i then 0 else nth (MV.bk h a) i.toNat),rI (if i<0\/((MV.bk h a).length:Int)<=i then 2 else 0)]/\l=gL h):=by
 by_cases e:a<1\/(h.length:Int)<a
 ·have TP:=At h a hl e;have e2:MV.bk h a=[]:=by unfold MV.bk;rw[if_pos e]
  have e3:i<0\/(([]:TD).length:Int)<=i:=by simp only[List.length_nil];omega
  rw[e2,if_pos e3,if_pos e3];by_cases h0:i<0
  ·refine aL func213 ntmps213 ?_;refine S ?_
   (repeat' (first|refine aq fun K hK=>?_|refine au ?_|(refine hK _ _ ?_;clear hK K)|(refine ap ?_ ?_<;>intro hc<;>try exact jz)|refine cm (TP) ?_|refine ar ?_|exact jI|(clear hK K)))
   (refine bW [.tmp 6,.tmp 7] ?_ ?_<;>(try simp only[go_sem]))
  ·refine aL func213 ntmps213 ?_;refine S ?_
   (repeat' (first|refine aq fun K hK=>?_|refine au ?_|(refine hK _ _ ?_;clear hK K)|(refine ap ?_ ?_<;>intro hc<;>try exact jz)|refine cm (TP) ?_|refine ar ?_|exact jI|(clear hK K)))
   (refine bW [.tmp 6,.tmp 7] ?_ ?_<;>(try simp only[go_sem]))
 ·have TP:=xj h (a-1).toNat a jB hl hf jB;have e2:MV.bk h a=nth h (a-1).toNat:=by unfold MV.bk;rw[if_neg e]
  rw[e2];have hk:(a-1).toNat<h.length:=jB;generalize (a-1).toNat=k at*;have hof:=u7 hk;have Ts:=wH h (k+1);by_cases e3:i<0\/((nth h k).length:Int)<=i
  ·rw[if_pos e3,if_pos e3];by_cases h0:i<0
   ·refine aL func213 ntmps213 ?_;refine S ?_
    (repeat' (first|refine aq fun K hK=>?_|refine au ?_|(refine hK _ _ ?_;clear hK K)|(refine ap ?_ ?_<;>intro hc<;>try exact jz)|refine cm (TP) ?_|refine ar ?_|exact jI|(clear hK K)))
    (refine bW [.tmp 6,.tmp 7] ?_ ?_<;>(try simp only[go_sem]))
   ·refine aL func213 ntmps213 ?_;refine S ?_
    (repeat' (first|refine aq fun K hK=>?_|refine au ?_|(refine hK _ _ ?_;clear hK K)|(refine ap ?_ ?_<;>intro hc<;>try exact jz)|refine cm (TP) ?_|refine ar ?_|exact jI|(clear hK K)))
    (refine bW [.tmp 6,.tmp 7] ?_ ?_<;>(try simp only[go_sem]))
  ·rw[if_neg e3,if_neg e3];have hn:=OV (i:=i.toNat) hk jB;refine aL func213 ntmps213 ?_;refine S ?_
   (have W:=hn;repeat' (first|refine aq fun K hK=>?_|refine au ?_|(refine hK _ _ ?_;clear hK K)|(refine ap ?_ ?_<;>intro hc<;>try exact jz)|refine cm (TP) ?_|refine ar ?_|exact jI|(clear hK K)))
   (refine bW [.tmp 6,.tmp 7] ?_ ?_<;>(try simp only[go_sem]))
def Mu(h:TC)(a i n:Int)(hl:h.length<=1000)(hf:h.flatten.length<=1000)(hi:¬(i<0\/((MV.bk h a).length:Int)<=i)):ab prog 214 [.pt 2 0 0 0,rI a,rI i,rI n] (gL h) (fun r l=>r=rI 0/\l=gL (h.set (a-1).toNat ((nth h (a-1).toNat).set i.toNat n))):=by
 have e:¬(a<1\/(h.length:Int)<a):=fun e=>hi (by unfold MV.bk;rw[if_pos e];simp only[List.length_nil];omega)
 have e2:MV.bk h a=nth h (a-1).toNat:=by unfold MV.bk;rw[if_neg e]
 rw[e2]at hi;have TP:=xj h (a-1).toNat a jB hl hf jB;have hk:(a-1).toNat<h.length:=jB;generalize (a-1).toNat=k at*;have hof:=u7 hk;have Ts:=wH h (k+1);have hn:=Kz n hk (i:=i.toNat) jB;have XM:=JW (h:=h) (k:=k) ((nth h k).set i.toNat n) (by rw[List.length_set]) hk;have Ux:(h.flatten.set (kj h k+i.toNat) n).length=h.flatten.length:=List.length_set;unfold gL;rw[hn,XM];simp only[List.length_set,List.map_set];refine aL func214 ntmps214 ?_;refine S ?_
 (repeat' (first|refine aq fun K hK=>?_|refine au ?_|(refine hK _ _ ?_;clear hK K)|(refine ap ?_ ?_<;>intro hc<;>try exact jz)|refine cm (TP) ?_|refine ar ?_|exact jI|(clear hK K)))
 (refine bW [.tmp 8] ?_ ?_<;>(try simp only[go_sem]))
def RF(h:TC)(a i n:Int)(hl:h.length<=1000)(hf:h.flatten.length<=1000)(hi:i<0\/((MV.bk h a).length:Int)<=i):ab prog 214 [.pt 2 0 0 0,rI a,rI i,rI n] (gL h) (fun r l=>r=rI 2/\l=gL h):=by
 by_cases e:a<1\/(h.length:Int)<a
 ·have TP:=At h a hl e;by_cases h0:i<0
  ·refine aL func214 ntmps214 ?_;refine S ?_
   (repeat' (first|refine aq fun K hK=>?_|refine au ?_|(refine hK _ _ ?_;clear hK K)|(refine ap ?_ ?_<;>intro hc<;>try exact jz)|refine cm (TP) ?_|refine ar ?_|exact jI|(clear hK K)))
   (refine bW [.tmp 8] ?_ ?_<;>(try simp only[go_sem]))
  ·refine aL func214 ntmps214 ?_;refine S ?_
   (repeat' (first|refine aq fun K hK=>?_|refine au ?_|(refine hK _ _ ?_;clear hK K)|(refine ap ?_ ?_<;>intro hc<;>try exact jz)|refine cm (TP) ?_|refine ar ?_|exact jI|(clear hK K)))
   (refine bW [.tmp 8] ?_ ?_<;>(try simp only[go_sem]))
 ·have TP:=xj h (a-1).toNat a jB hl hf jB;have e2:MV.bk h a=nth h (a-1).toNat:=by unfold MV.bk;rw[if_neg e]
  rw[e2]at hi;have hk:(a-1).toNat<h.length:=jB;generalize (a-1).toNat=k at*;have hof:=u7 hk;have Ts:=wH h (k+1);by_cases h0:i<0
  ·refine aL func214 ntmps214 ?_;refine S ?_
   (repeat' (first|refine aq fun K hK=>?_|refine au ?_|(refine hK _ _ ?_;clear hK K)|(refine ap ?_ ?_<;>intro hc<;>try exact jz)|refine cm (TP) ?_|refine ar ?_|exact jI|(clear hK K)))
   (refine bW [.tmp 8] ?_ ?_<;>(try simp only[go_sem]))
  ·refine aL func214 ntmps214 ?_;refine S ?_
   (repeat' (first|refine aq fun K hK=>?_|refine au ?_|(refine hK _ _ ?_;clear hK K)|(refine ap ?_ ?_<;>intro hc<;>try exact jz)|refine cm (TP) ?_|refine ar ?_|exact jI|(clear hK K)))
   (refine bW [.tmp 8] ?_ ?_<;>(try simp only[go_sem]))
def PT(h:TC)(n:Int)(hn:n<0\/16<n)(hl:h.length<=40)(hf:h.flatten.length<=40):ab prog 216 [.pt 2 0 0 0,rI n] (gL h) (fun r l=>r=.aP [rI 0,rI 7]/\l=gL h):=by
 have Vk:=vL h;refine aL func216 ntmps216 ?_
 (refine S ?_;try exact jI)
 by_cases h0:n<0
 ·(repeat' (first|refine aq fun K hK=>?_|refine au ?_|(refine hK _ _ ?_;clear hK K)|(refine ap ?_ ?_<;>intro hc<;>try exact jz)|refine ar ?_|exact jI|(clear hK K)))
  (refine bW [.tmp 4,.tmp 5] ?_ ?_<;>(try simp only[go_sem]))
 ·(repeat' (first|refine aq fun K hK=>?_|refine au ?_|(refine hK _ _ ?_;clear hK K)|(refine ap ?_ ?_<;>intro hc<;>try exact jz)|refine ar ?_|exact jI|(clear hK K)))
  (refine bW [.tmp 4,.tmp 5] ?_ ?_<;>(try simp only[go_sem]))
def MR(h:TC)(n:Int)(hn:0<=n/\n<=16)(hc:40<(h.length:Int)+h.flatten.length+n+1)(hl:h.length<=40)(hf:h.flatten.length<=40):ab prog 216 [.pt 2 0 0 0,rI n] (gL h) (fun r l=>r=.aP [rI 0,rI 4]/\l=gL h):=by
 have Vk:=vL h;refine aL func216 ntmps216 ?_;refine S ?_
 (repeat' (first|refine aq fun K hK=>?_|refine au ?_|(with_reducible refine gR 3 ?_);refine dE 3 (bc 0 16) mixed ?_|(refine hK _ _ ?_;clear hK K)|(refine ap ?_ ?_<;>intro hc<;>try exact jz)|refine ar ?_|exact jI|(clear hK K)))
 (refine bW [.tmp 4,.tmp 5] ?_ ?_<;>(try simp only[go_sem]))
def N8(h:TC)(k:Nat)(hn:k<=16)(hc:h.length+h.flatten.length+k+1<=40):ab prog 216 [.pt 2 0 0 0,rI k] (gL h) (fun r l=>r=.aP [rI (h.length+1:Nat),rI 0]/\l=gL (h++[List.replicate k 0])):=by
 have Vk:=vL h;unfold gL;rw[Mj,Lw,List.map_append,PW];refine aL func216 ntmps216 ?_;refine S ?_
 (repeat' (first|refine aq fun K hK=>?_|refine au ?_|(with_reducible refine gR 3 ?_);refine dE 3 (bc 0 16) mixed ?_|(with_reducible refine gR 6 ?_);refine dE 6 (bc 0 15) mixed ?_|(refine hK _ _ ?_;clear hK K)|(refine ap ?_ ?_<;>intro hc<;>try exact jz)|(refine La (e:=3) (z0:=.int .i64 0) (css:=h.flatten.map eI) jG ⟨.i64,jG⟩ jG jG rfl (by simp only[go_sem];rfl) (by rw[List.length_map]) (by rw[List.length_map]) (by simp only[go_sem,room,List.length_map];omega) ?_;simp only[List.length_map];try refine S ?_)|refine ar ?_|exact jI|(clear hK K)))
 (refine bW [.tmp 4,.tmp 5] ?_ ?_<;>(try simp only[go_sem]))
 simp[eI]
def oL(p:af)(L:List ax)(a:Int)(h0:0<=a)(h1:a.toNat<p.aa.nodes.length):ab prog 201 [.pt 0 0 0 0,rI a] (bV p L) (fun r l=>r=.agg (eF (ak p a))/\l=bV p L):=by
 unfold ak;refine aL func201 ntmps201 ?_;refine S ?_
 (repeat' (first|refine aq fun K hK=>?_|refine au ?_|(refine hK _ _ ?_;clear hK K)|(refine ap ?_ ?_<;>intro hc<;>try exact jz)|refine al 5 ?_|refine ar ?_|exact jI|(clear hK K)))
 (refine aZ [.cell 4 116] ?_;try simp only[go_sem])
def iZ(p:af)(L:List ax)(op a:Int)(hL:L.length<=1000000):ab prog 160 [.pt 0 0 0 0,rI op,rI a] (bV p L) (fun r l=>r=rI L.length/\l=bV p (L++[⟨op,a,0,sE⟩])):=by
 refine aL func160 ntmps160 ?_;refine S ?_
 (repeat' (first|refine aq fun K hK=>?_|refine au ?_|(refine hK _ _ ?_;clear hK K)|(refine ap ?_ ?_<;>intro hc<;>try exact jz)|refine ar ?_|exact jI|(clear hK K)))
 (refine aZ [.tmp 6] ?_;try simp only[go_sem])
 rw[show((L.length+1:Nat):Int)-1=(L.length:Int) from jB]
def BI(p:af)(L:List ax)(k:Nat)(hk:k<L.length)(hL:L.length<=1000000):ab prog 258 [.pt 0 0 0 0,rI k] (bV p L) (fun r l=>r=.aP []/\l=bV p (L.set k { nth L k with a:=L.length })):=by
 refine aL func258 ntmps258 ?_;refine S ?_
 (repeat' (first|refine aq fun K hK=>?_|refine au ?_|(with_reducible refine gR 0 ?_);refine dE 0 (bc 0 13) mixed ?_|(refine hK _ _ ?_;clear hK K)|(refine ap ?_ ?_<;>intro hc<;>try exact jz)|refine ar ?_|exact jI|(clear hK K)))
 (refine bW [] ?_ ?_<;>(try simp only[go_sem]))
def yB(p:af)(a:Int):List ax:=if(ak p a).kind=1 then[iI 2 (ak p a).n]else if(ak p a).kind=2 then[iI 3 (ak p a).n]else if(ak p a).kind=3 then[⟨4,0,0,(ak p a).name⟩]else if(ak p a).kind=4 then[⟨5,nth p.slots a.toNat,nth p.types a.toNat,sE⟩]else if(ak p a).kind=19 then[iI 14 0]else[]
def JP(p:af)(L:List ax)(a:Int)(h0:0<=a)(h2:a.toNat<p.slots.length)(h3:a.toNat<p.types.length)(hL:L.length<=1000000) :
  ab prog 261 [.pt 0 0 0 0,.agg (eF (ak p a)),rI a] (bV p L) (fun r l=>r=.aP []/\l=bV p (L++yB p a)):=by
 unfold yB;have UE:=iZ p L 2 (ak p a).n hL;have WU:=iZ p L 3 (ak p a).n hL;have Y9:=iZ p L 14 0 hL;generalize ak p a=nd at*;by_cases k1:nd.kind=1
 ·rw[if_pos k1];refine aL func261 ntmps261 ?_;refine S ?_
  (have W:=k1;repeat' (first|refine aq fun K hK=>?_|refine au ?_|(refine hK _ _ ?_;clear hK K)|(refine ap ?_ ?_<;>intro hc<;>try exact jz)|refine bx 5 ?_|refine cm (UE) ?_|refine ar ?_|exact jI|(clear hK K)))
  (refine aZ [] ?_;try simp only[go_sem])
 rw[if_neg k1];have n1:=eq_false k1;by_cases k2:nd.kind=2
 ·rw[if_pos k2];refine aL func261 ntmps261 ?_;refine S ?_
  (have W:=k2;repeat' (first|refine aq fun K hK=>?_|refine au ?_|(refine hK _ _ ?_;clear hK K)|(refine ap ?_ ?_<;>intro hc<;>try exact jz)|refine bx 5 ?_|refine cm (WU) ?_|refine ar ?_|exact jI|(clear hK K)))
  (refine aZ [] ?_;try simp only[go_sem])
 rw[if_neg k2];have n2:=eq_false k2;by_cases k3:nd.kind=3
 ·rw[if_pos k3];refine aL func261 ntmps261 ?_;refine S ?_
  (have W:=k3;repeat' (first|refine aq fun K hK=>?_|refine au ?_|(with_reducible refine gR 7 ?_);refine dE 7 (bc 0 13) mixed ?_|(refine hK _ _ ?_;clear hK K)|(refine ap ?_ ?_<;>intro hc<;>try exact jz)|refine bx 5 ?_|refine ar ?_|exact jI|(clear hK K)))
  (refine aZ [] ?_;try simp only[go_sem])
 rw[if_neg k3];have n3:=eq_false k3;by_cases k4:nd.kind=4
 ·rw[if_pos k4];refine aL func261 ntmps261 ?_;refine S ?_
  (have W:=k4;repeat' (first|refine aq fun K hK=>?_|refine au ?_|(with_reducible refine gR 9 ?_);refine dE 9 (bc 0 27) mixed ?_|(refine hK _ _ ?_;clear hK K)|(refine ap ?_ ?_<;>intro hc<;>try exact jz)|refine bx 5 ?_|refine ar ?_|exact jI|(clear hK K)))
  (refine aZ [] ?_;try simp only[go_sem])
 rw[if_neg k4];have n4:=eq_false k4;by_cases k5:nd.kind=19
 ·rw[if_pos k5];refine aL func261 ntmps261 ?_;refine S ?_
  (have W:=k5;repeat' (first|refine aq fun K hK=>?_|refine au ?_|(refine hK _ _ ?_;clear hK K)|(refine ap ?_ ?_<;>intro hc<;>try exact jz)|refine bx 5 ?_|refine cm (Y9) ?_|refine ar ?_|exact jI|(clear hK K)))
  (refine aZ [] ?_;try simp only[go_sem])
 rw[if_neg k5,List.append_nil];have n5:=eq_false k5;refine aL func261 ntmps261 ?_;refine S ?_
 (have W:=jA n1 (jA n2 (jA n3 (jA n4 (n5))));repeat' (first|refine aq fun K hK=>?_|refine au ?_|(refine hK _ _ ?_;clear hK K)|(refine ap ?_ ?_<;>intro hc<;>try exact jz)|refine bx 5 ?_|refine ar ?_|exact jI|(clear hK K)))
 (refine aZ [] ?_;try simp only[go_sem])
attribute [local go_sem] iI
theorem Ci{p:af}(ht:aQ p.aa):∀(n m:Nat) (a k:Int),0<=a->a.toNat<p.aa.nodes.length->cQ (bX p.aa.nodes a)->a.toNat<n->a.toNat<m->bo p n a k=bo p m a k
 |0,m,a,k,_,_,_,hn,_=>by omega
 |n+1,0,a,k,_,_,_,_,hm=>jB
 |n+1,m+1,a,k,h0,hl,hk,hn,hm=>by
  have sh:=(ht.shape a.toNat hl).1;have hb:=(ht.shape a.toNat hl).2.1;have Tv:cQ (ak p a).kind:=hk;unfold cQ at Tv;have aE:∀x k,x∈(ak p a).l->cQ (bX p.aa.nodes x)->bo p n x k=bo p m x k:=fun x k hx TR=>by have:=hb x hx;exact Ci ht n m x k this.1 jB TR jB jB
  rw[lR,lR];have T6:(ak p a).kind=1\/(ak p a).kind=2\/(ak p a).kind=3\/(ak p a).kind=4\/((ak p a).kind=5\/(ak p a).kind=6\/(ak p a).kind=7\/(ak p a).kind=8)\/(ak p a).kind=9:=jB;rcases T6 with e|e|e|e|e|e
  ·rw[if_pos e,if_pos e]
  ·rw[jN,if_pos e,jN,if_pos e]
  ·rw[jN,jN,if_pos e,jN,jN,if_pos e]
  ·rw[jN,jN,jN,if_pos e,jN,jN,jN,if_pos e]
  ·obtain⟨x,u',hx⟩:=sh.one (by have e:(nth p.aa.nodes a.toNat).kind=5\/(nth p.aa.nodes a.toNat).kind=6\/(nth p.aa.nodes a.toNat).kind=7\/(nth p.aa.nodes a.toNat).kind=8:=e;omega);have u':(ak p a).l=[x]:=u';have Ur:nth (ak p a).l 0=x:=by rw[u'];rfl
   have e1:=aE x k (by rw[u'];simp) hx;rw[Ur,e1];rcases e with e|e|e|e<;>simp only[e,Int.reduceEq,↓reduceIte]
  ·obtain⟨x,y,u',hx,hy⟩:=sh.two (.inl e);have u':(ak p a).l=[x,y]:=u';have Ur:nth (ak p a).l 0=x:=by rw[u'];rfl
   have Xm:nth (ak p a).l 1=y:=by rw[u'];rfl
   have e1:=fun k=>aE x k (by rw[u'];simp) hx
   have e2:=fun k=>aE y k (by rw[u'];simp) hy
   rw[Ur,Xm];simp only[e,e1,e2,Int.reduceEq,↓reduceIte]
structure fq(p:af):Prop where
 ok:gk p
 neg:∀k,k<p.aa.nodes.length->¬jL (nth p.aa.nodes k).kind->nth p.slots k<=0
 pos:∀k,k<p.aa.nodes.length->jL (nth p.aa.nodes k).kind->0<=nth p.slots k
def C1(p:af)(n:Nat):Prop:=∀(a:Int) (L:List ax),0<=a->a.toNat<p.aa.nodes.length->fm (bX p.aa.nodes a)->a.toNat<n->¬(1000000<L.length+3000*n)->ab prog 241 [.pt 0 0 0 0,rI a] (bV p L) (fun r l=>r=.aP []/\l=bV p (L++jO p n a L.length))
variable{p:af}{n:Nat}
def ns{a k:Int}(h:cQ (bX p.aa.nodes a)):jO p n a k=bo p n a k:=by have h:cQ (ak p a).kind:=h;unfold cQ at h;rw[tq,jN,jN,jN]
def Kg(hp:fq p)(hx:C1 p n)(a:Int)(L:List ax)(h0:0<=a)(hl:a.toNat<p.aa.nodes.length)(hk:(ak p a).kind=9)(hn:a.toNat<n+1)(hL:¬(1000000<L.length+3000*(n+1))):ab prog 259 [.pt 0 0 0 0,.agg (eF (ak p a))] (bV p L) (fun r l=>r=.aP []/\l=bV p (L++bo p (n+1) a L.length)):=by
 have ht:=hp.ok.ok.aa;have hb:=(ht.shape a.toNat hl).2.1;obtain⟨x,y,u',TX,WV⟩:=(ht.shape a.toNat hl).1.two (.inl hk);have u':(ak p a).l=[x,y]:=u';have Ur:nth (ak p a).l 0=x:=by rw[u'];rfl
 have Xm:nth (ak p a).l 1=y:=by rw[u'];rfl
 have bx:=hb x (by show x∈(ak p a).l;rw[u'];simp);have by_:=hb y (by show y∈(ak p a).l;rw[u'];simp);have I':=fun(z:Int) (k:Int) (lo:Nat)=>@ma p ht n z k lo
 obtain⟨lo,Tb⟩:=(ht.shape a.toNat hl).2.2;have Tb:aK p.aa.nodes lo (ak p a).l a.toNat:=Tb;rw[u']at Tb;obtain⟨c1,c2,c3,c4,c5,c6⟩:=kD Tb;obtain⟨d1,d2,d3,d4,d5⟩:=kn c6;have lx:=fun k=>I' x k lo c1 jB TX c5
 have ly:=fun k=>I' y k _ d1 jB WV d5
 have hm:=ht.many;have ex:=hx x L bx.1 jB (.inl TX) jB jB;rw[ns TX]at ex;have ey:=fun(M:List ax) (hM:M.length<=L.length+2900)=>hx y M by_.1 jB (.inl WV) jB jB
 have hL:¬(997000<L.length):=jB;clear hx;rename_i ZM;clear ZM;simp only[ns WV]at ey;have e9:bo p (n+1) a L.length=(let x:=bo p n x L.length;if lh (ak p a).name=7 then x++bo p n y (L.length+x.length)++[⟨7,0,0,(ak p a).name⟩]else let y:=bo p n y (L.length+x.length+1);x++[iI (lh (ak p a).name) (L.length+x.length+1+y.length)]++y):=by rw[lR];simp only[hk,Ur,Xm,Int.reduceEq,↓reduceIte]
 rw[e9];clear e9;generalize hX:bo p n x (L.length:Int)=X at*;have lX:X.length<=1300:=by have:=lx L.length;rw[hX]at this;omega
 have pt:=fun op=>iZ p (L++X) op 0 (by simp only[List.length_append];omega)
 have ey1:=ey (L++X) (by simp only[List.length_append];omega);generalize ak p a=nd at*;by_cases k1:nd.name=(⟨#[38,38]⟩:TF)
 ·rw[k1];have hs:lh (⟨#[38,38]⟩:TF)=18:=by unfold lh;rw[if_pos rfl]
  simp only[hs,Int.reduceEq,↓reduceIte];rw[show(L.length:Int)+X.length+1=((L++X++[iI 18 0]).length:Nat) by simp;omega];have ey2:=ey (L++X++[iI 18 0]) (by simp only[List.length_append,List.length_singleton];omega);generalize hY:bo p n y ((L++X++[iI 18 0]).length:Int)=Y at*;have lY:Y.length<=1300:=by have:=ly (L++X++[iI 18 0]).length;rw[hY]at this;omega
  have hh:=BI p (L++X++[iI 18 0]++Y) (L++X).length (by simp only[List.length_append,List.length_singleton];omega) (by simp only[List.length_append,List.length_singleton];omega);rw[show nth (L++X++[iI 18 0]++Y) (L++X).length=iI 18 0 by rw[List.append_assoc];simp[nth]]at hh;have e8:(L++X++[iI 18 0]++Y).set (L++X).length ⟨18,((L++X++[iI 18 0]++Y).length:Nat),0,sE⟩=L++(X++[iI 18 (((L++X++[iI 18 0]).length:Nat)+Y.length)]++Y):=by rw[List.append_assoc,List.set_append_right _ _ jl,Nat.sub_self];simp[iI];omega
  have e8:bV p ((L++X++[iI 18 0]++Y).set (L++X).length { iI 18 0 with a:=((L++X++[iI 18 0]++Y).length:Nat) })=bV p (L++(X++[iI 18 (((L++X++[iI 18 0]).length:Nat)+Y.length)]++Y)):=by rw[<-e8];rfl
  rw[e8,show(L++X).length=L.length+X.length from List.length_append]at hh;clear e8;have Xa:=pt 18;refine aL func259 ntmps259 ?_
  (refine S ?_;try exact jI)
  have d1:(((⟨#[124,124]⟩:TF):TF)=(⟨#[38,38]⟩:TF))=False:=eq_false jC;have k1':(nd.name=(⟨#[38,38]⟩:TF))=True:=eq_true k1
  (have W:=jA k1' (jA u' (d1));repeat' (first|refine aq fun K hK=>?_|refine au ?_|(refine hK _ _ ?_;clear hK K)|(refine ap ?_ ?_<;>intro hc<;>try exact jz)|refine cm (ex) ?_|refine tC 6 ?_|refine vv [] qI ?_|refine vv [(⟨#[38,38]⟩:TF)] qI ?_|refine pQ (n:=nd.name) (vs:=[rI 18,rI 19]) [(⟨#[38,38]⟩:TF),(⟨#[124,124]⟩:TF)] (.int .i64 0) (.aP [rI 18,rB true]) qI jG (by unfold ov;rw[if_pos rfl];simp only[pG,k1,↓reduceIte]) ?_|refine cm (Xa) ?_|refine cm (ey2) ?_|refine cm (hh) ?_|refine ar ?_|exact jI|(clear hK K)))
  (refine aZ [] ?_;try simp only[go_sem])
 by_cases k2:nd.name=(⟨#[124,124]⟩:TF)
 ·rw[k2];have hs:lh (⟨#[124,124]⟩:TF)=19:=by unfold lh;rw[if_neg jC,if_pos rfl]
  simp only[hs,Int.reduceEq,↓reduceIte];rw[show(L.length:Int)+X.length+1=((L++X++[iI 19 0]).length:Nat) by simp;omega];have ey2:=ey (L++X++[iI 19 0]) (by simp only[List.length_append,List.length_singleton];omega);generalize hY:bo p n y ((L++X++[iI 19 0]).length:Int)=Y at*;have lY:Y.length<=1300:=by have:=ly (L++X++[iI 19 0]).length;rw[hY]at this;omega
  have hh:=BI p (L++X++[iI 19 0]++Y) (L++X).length (by simp only[List.length_append,List.length_singleton];omega) (by simp only[List.length_append,List.length_singleton];omega);rw[show nth (L++X++[iI 19 0]++Y) (L++X).length=iI 19 0 by rw[List.append_assoc];simp[nth]]at hh;have e8:(L++X++[iI 19 0]++Y).set (L++X).length ⟨19,((L++X++[iI 19 0]++Y).length:Nat),0,sE⟩=L++(X++[iI 19 (((L++X++[iI 19 0]).length:Nat)+Y.length)]++Y):=by rw[List.append_assoc,List.set_append_right _ _ jl,Nat.sub_self];simp[iI];omega
  have e8:bV p ((L++X++[iI 19 0]++Y).set (L++X).length { iI 19 0 with a:=((L++X++[iI 19 0]++Y).length:Nat) })=bV p (L++(X++[iI 19 (((L++X++[iI 19 0]).length:Nat)+Y.length)]++Y)):=by rw[<-e8];rfl
  rw[e8,show(L++X).length=L.length+X.length from List.length_append]at hh;clear e8;have Xa:=pt 19;refine aL func259 ntmps259 ?_
  (refine S ?_;try exact jI)
  have d1:(((⟨#[124,124]⟩:TF):TF)=(⟨#[38,38]⟩:TF))=False:=eq_false jC;have k2':(nd.name=(⟨#[124,124]⟩:TF))=True:=eq_true k2
  (have W:=jA k2' (jA u' (d1));repeat' (first|refine aq fun K hK=>?_|refine au ?_|(refine hK _ _ ?_;clear hK K)|(refine ap ?_ ?_<;>intro hc<;>try exact jz)|refine cm (ex) ?_|refine tC 6 ?_|refine vv [] qI ?_|refine vv [(⟨#[38,38]⟩:TF)] qI ?_|refine pQ (n:=nd.name) (vs:=[rI 18,rI 19]) [(⟨#[38,38]⟩:TF),(⟨#[124,124]⟩:TF)] (.int .i64 0) (.aP [rI 19,rB true]) qI jG (by unfold ov;rw[if_pos rfl];simp only[pG,k2,d1,↓reduceIte]) ?_|refine cm (Xa) ?_|refine cm (ey2) ?_|refine cm (hh) ?_|refine ar ?_|exact jI|(clear hK K)))
  (refine aZ [] ?_;try simp only[go_sem])
 have n1:=eq_false k1;have n2:=eq_false k2;have hs:lh nd.name=7:=by unfold lh;rw[if_neg k1,if_neg k2]
 simp only[hs,↓reduceIte];rw[show(L.length:Int)+X.length=((L++X).length:Nat) from jE];generalize hY:bo p n y ((L++X).length:Int)=Y at*;have lY:Y.length<=1300:=by have:=ly (L++X).length;rw[hY]at this;omega
 simp only[<-List.append_assoc];refine aL func259 ntmps259 ?_
 (refine S ?_;try exact jI)
 have d1:(((⟨#[124,124]⟩:TF):TF)=(⟨#[38,38]⟩:TF))=False:=eq_false jC
 (have W:=jA n1 (jA n2 (jA u' (d1)));repeat' (first|refine aq fun K hK=>?_|refine au ?_|(with_reducible refine gR 6 ?_);refine dE 6 (bc 0 13) mixed ?_|(refine hK _ _ ?_;clear hK K)|(refine ap ?_ ?_<;>intro hc<;>try exact jz)|refine cm (ex) ?_|refine tC 6 ?_|refine vv [] qI ?_|refine vv [(⟨#[38,38]⟩:TF)] qI ?_|refine pQ (n:=nd.name) (vs:=[rI 18,rI 19]) [(⟨#[38,38]⟩:TF),(⟨#[124,124]⟩:TF)] (.int .i64 0) (.aP [rI 0,rB false]) qI jG (by unfold ov;rw[if_pos rfl];simp only[pG,k1,k2,↓reduceIte]) ?_|refine cm (ey1) ?_|refine ar ?_|exact jI|(clear hK K)))
 (refine aZ [] ?_;try simp only[go_sem])
def AT(p:af)(f:FuncId)(hf:aT prog f=true)(g:Int->Int->List ax)(l:TD)(L:List ax)(hl:l.length<=1000)(B:Nat)(hB:¬(B<L.length+(bv g L.length l []).length))
  (hc:∀x∈l,∀M:List ax,¬(B<M.length)->ab prog f [.pt 0 0 0 0,rI x] (bV p M) (fun r l=>r=.aP []/\l=bV p (M++g x M.length))) :
  ab prog 200 [aM eI 1 l,.bd f [.pt 0 0 0 0]] (bV p L) (fun r l'=>r=.aP []/\l'=bV p (L++bv g L.length l [])):=by
 refine aL func200 ntmps200 ?_;generalize hE:bV p (L++bv g L.length l [])=E;refine S ?_
 (repeat' (first|refine aq fun K hK=>?_|refine au ?_|(refine hK _ _ ?_;clear hK K)|(refine ap ?_ ?_<;>intro hc<;>try exact jz)|refine ar ?_|exact jI|(clear hK K)))
 refine eu (S:=Nat) [(5,1),(8,8)] (fun k=>k<=l.length) (fun k=>[(8,rI k)]) (fun k=>⟨[0,1],bV p (L++bv g L.length (l.take k) [])⟩) (fun k=>l.length-k) 0 jB (eD (by show _=Hp.mk _ (bV p (L++[]));rw[List.append_nil];rfl) cH) ?_;rintro k hk Kr Tg;have Ts:=MP g L.length l k;by_cases O':k<l.length
 ·have Wz:=hc (nth l k) (fh O') (L++bv g L.length (l.take k) []) (by rw[List.length_append];omega);have hs:=Lx g L.length l k O';rw[List.append_assoc,show((L++bv g L.length (l.take k) []).length:Int)=L.length+(bv g L.length (l.take k) []).length by rw[List.length_append];rfl,<-hs]at Wz;generalize hX:bv g L.length (l.take k) []=X at*;generalize hY:bv g L.length (l.take (k+1)) []=Y at*;refine S ?_
  (have W:=hf;repeat' (first|refine aq fun K hK=>?_|refine au ?_|(refine hK _ _ ?_;clear hK K)|(refine ap ?_ ?_<;>intro hc<;>try exact jz)|refine bm Wz ?_|refine ar ?_|exact jI|(clear hK K)))
  refine Tg _ _ (eJ (k+1) jB jJ (by rw[hY];simp only[bV,kg,List.length_append,List.map_append,List.cons_append,List.nil_append]) cH)
 ·have e:k=l.length:=jB;subst e;rw[List.take_length,hE];refine S ?_
  (repeat' (first|refine aq fun K hK=>?_|refine au ?_|(refine hK _ _ ?_;clear hK K)|(refine ap ?_ ?_<;>intro hc<;>try exact jz)|refine ar ?_|exact jI|(clear hK K)))
  (refine bW [] ?_ ?_<;>(try simp only[go_sem]))
def Oj(n:br)(f:bh):ab prog 273 [.agg (fX f),.pt 4 0 0 0] [(4,.var 116 (eF n))] (fun r l=>r=rB (decide (f.name=n.name))/\l=[(4,.var 116 (eF n))]):=by
 refine aL func273 ntmps273 ?_
 (repeat' (first|refine aq fun K hK=>?_|refine au ?_|(refine hK _ _ ?_;clear hK K)|(refine ap ?_ ?_<;>intro hc<;>try exact jz)|refine bx 5 ?_|refine ar ?_|exact jI|(clear hK K)))
 (refine aZ [.tmp 3] ?_;try simp only[go_sem])
def LY(n:br)(L:List bh)(k:Nat)(hL:L.length<=1000)(hk:k<L.length)(Th:(nth L k).name=n.name)(Vu:∀i,i<k->(nth L i).name≠n.name) :
  ab prog 161 [aM fX 5 L,.dP 273 [.pt 4 0 0 0]] [(4,.var 116 (eF n))] (fun r l=>r=rI k/\l=[(4,.var 116 (eF n))]):=by
 refine aL func161 ntmps161 ?_
 (repeat' (first|refine aq fun K hK=>?_|refine au ?_|(refine hK _ _ ?_;clear hK K)|(refine ap ?_ ?_<;>intro hc<;>try exact jz)|refine ar ?_|exact jI|(clear hK K)))
 refine eu (S:=Nat) [(4,2),(8,11)] (fun i=>i<=k) (fun i=>[(8,rI i)]) (fun i=>⟨[4],[(4,.var 116 (eF n))]⟩) (fun i=>k-i) 0 jB (eD rfl cH) ?_;rintro i hi Kr Tg;have VL:=Oj n (nth L i);by_cases e:i=k
 ·subst e;rw[decide_eq_true Th]at VL;refine S ?_
  (repeat' (first|refine aq fun K hK=>?_|refine au ?_|(refine hK _ _ ?_;clear hK K)|(refine ap ?_ ?_<;>intro hc<;>try exact jz)|refine cl VL ?_|refine ar ?_|exact jI|(clear hK K)))
  (refine aZ [.tmp 4] ?_;try simp only[go_sem])
 ·rw[decide_eq_false (Vu i jB)]at VL;refine S ?_
  (repeat' (first|refine aq fun K hK=>?_|refine au ?_|(refine hK _ _ ?_;clear hK K)|(refine ap ?_ ?_<;>intro hc<;>try exact jz)|refine cl VL ?_|refine ar ?_|exact jI|(clear hK K)))
  refine Tg _ _ (eJ (i+1) jB jJ rfl cH)
def JD(hp:fq p)(hx:C1 p n)(a:Int)(L:List ax)(h0:0<=a)(hl:a.toNat<p.aa.nodes.length)(hk:(ak p a).kind=21)(hn:a.toNat<n+1)(hL:¬(1000000<L.length+3000*(n+1))):ab prog 260 [.pt 0 0 0 0,.agg (eF (ak p a))] (bV p L) (fun r l=>r=.aP []/\l=bV p (L++cB p n a L.length)):=by
 have ht:=hp.ok.ok.aa;have ham:=ht.av;have hm:=ht.many;have hb:=(ht.shape a.toNat hl).2.1;have T3:=(ht.shape a.toNat hl).1.call hk;obtain⟨lo,Tb⟩:=(ht.shape a.toNat hl).2.2;have I':=A7 ht n (L.length:Int) lo hl hk Tb;obtain⟨k,hc⟩:=callee hp.ok hl hk;have VO:=LY (ak p a) p.aa.av k jB hc.lt hc.name (fun i hi=>by have:=hp.ok.names.one i k hi hc.lt;rwa [hc.name]at this);have Z':(cB p n a L.length).length=(bv (bo p n) (L.length:Int) (ak p a).l []).length+1:=by unfold cB;simp
 have U5:=AT p 241 jD (bo p n) (ak p a).l L (by have:=hc.AK;omega) (1000000-3000*n) jB (fun x VP M hM=>by have Xx:=hb x VP;have TR:=T3 x VP;have:=hx x M Xx.1 jB (.inl TR) jB jB;rwa [ns TR]at this)
 have TP:Bs p a=k:=hc.last;unfold cB;rw[TP];have hL:¬(997000<L.length):=jB;rename_i ZM;clear hx ZM;have hao:=hc.AK;generalize ak p a=nd at*;generalize hX:bv (bo p n) (L.length:Int) nd.l []=X at*;simp only[<-List.append_assoc];refine aL func260 ntmps260 ?_;refine S ?_
 (repeat' (first|refine aq fun K hK=>?_|refine au ?_|(with_reducible refine gR 3 ?_);refine dE 3 (bc 0 15) mixed ?_|(refine hK _ _ ?_;clear hK K)|(refine ap ?_ ?_<;>intro hc<;>try exact jz)|refine aV 4 ?_|refine cm (U5) ?_|refine cm (VO) ?_|refine ar ?_|exact jI|(clear hK K)))
 (refine aZ [] ?_;try simp only[go_sem])
attribute [local go_sem] iI
def Nq(a x:Int)(L X:List ax)(op:Int)(h0:0<=a)(hl:a.toNat<p.aa.nodes.length)(hs:a.toNat<p.slots.length)(u':(ak p a).l=[x])(hL:¬(1000000<(L++X).length))
  (hm:ov (ak p a).kind [6,7,8,20,5] [rI 10,rI 8,rI 9,rI 13,rI 11] (.raw (.int .i64 0)) true=.aP [rI op,rB true])
  (ex:ab prog 241 [.pt 0 0 0 0,rI x] (bV p L) (fun r l=>r=.aP []/\l=bV p (L++X))) :
  ab prog 241 [.pt 0 0 0 0,rI a] (bV p L) (fun r l=>r=.aP []/\l=bV p (L++X++[iI op (if nth p.slots a.toNat<0 then 0 else nth p.slots a.toNat)])):=by
 have p':=oL p L a h0 hl;have Xa:=fun v=>iZ p (L++X) op v jB
 generalize ak p a=nd at*;refine aL func241 ntmps241 ?_;refine S ?_
 (have W:=u';repeat' (first|refine aq fun K hK=>?_|refine au ?_|(refine hK _ _ ?_;clear hK K)|(refine ap ?_ ?_<;>intro hc<;>try exact jz)|refine al 5 ?_|refine cm (p') ?_|refine tC 6 ?_|refine lc [] jx ?_|refine lc [6] jx ?_|refine lc [6,7] jx ?_|refine lc [6,7,8] jx ?_|refine lc [6,7,8,20] jx ?_|refine xQ (n:=nd.kind) (vs:=[rI 10,rI 8,rI 9,rI 13,rI 11]) [6,7,8,20,5] (.int .i64 0) (.aP [rI op,rB true]) jx jG hm ?_|refine cm (ex) ?_|refine cm (Xa _) ?_|refine ar ?_|exact jI|(clear hK K)))
 (refine aZ [] ?_;try simp only[go_sem])
def Kx(a:Int)(L X:List ax)(h0:0<=a)(hl:a.toNat<p.aa.nodes.length)
  (hm:ov (ak p a).kind [6,7,8,20,5] [rI 10,rI 8,rI 9,rI 13,rI 11] (.raw (.int .i64 0)) true=.aP [rI 0,rB false]) (hk:(ak p a).kind=9)
  (ex:ab prog 259 [.pt 0 0 0 0,.agg (eF (ak p a))] (bV p L) (fun r l=>r=.aP []/\l=bV p (L++X))) :
  ab prog 241 [.pt 0 0 0 0,rI a] (bV p L) (fun r l=>r=.aP []/\l=bV p (L++X)):=by
 have p':=oL p L a h0 hl;generalize ak p a=nd at*;rw[hk]at hm;refine aL func241 ntmps241 ?_;refine S ?_
 (have W:=hk;repeat' (first|refine aq fun K hK=>?_|refine au ?_|(refine hK _ _ ?_;clear hK K)|(refine ap ?_ ?_<;>intro hc<;>try exact jz)|refine al 5 ?_|refine cm (p') ?_|refine tC 6 ?_|refine lc [] jx ?_|refine lc [6] jx ?_|refine lc [6,7] jx ?_|refine lc [6,7,8] jx ?_|refine lc [6,7,8,20] jx ?_|refine xQ (n:=9) (vs:=[rI 10,rI 8,rI 9,rI 13,rI 11]) [6,7,8,20,5] (.int .i64 0) (.aP [rI 0,rB false]) jx jG hm ?_|refine cm (ex) ?_|refine ar ?_|exact jI|(clear hK K)))
 (refine aZ [] ?_;try simp only[go_sem])
def QA(a:Int)(L X:List ax)(h0:0<=a)(hl:a.toNat<p.aa.nodes.length)
  (hm:ov (ak p a).kind [6,7,8,20,5] [rI 10,rI 8,rI 9,rI 13,rI 11] (.raw (.int .i64 0)) true=.aP [rI 0,rB false]) (hk:(ak p a).kind=21)
  (ex:ab prog 260 [.pt 0 0 0 0,.agg (eF (ak p a))] (bV p L) (fun r l=>r=.aP []/\l=bV p (L++X))) :
  ab prog 241 [.pt 0 0 0 0,rI a] (bV p L) (fun r l=>r=.aP []/\l=bV p (L++X)):=by
 have p':=oL p L a h0 hl;generalize ak p a=nd at*;rw[hk]at hm;refine aL func241 ntmps241 ?_;refine S ?_
 (have W:=hk;repeat' (first|refine aq fun K hK=>?_|refine au ?_|(refine hK _ _ ?_;clear hK K)|(refine ap ?_ ?_<;>intro hc<;>try exact jz)|refine al 5 ?_|refine cm (p') ?_|refine tC 6 ?_|refine lc [] jx ?_|refine lc [6] jx ?_|refine lc [6,7] jx ?_|refine lc [6,7,8] jx ?_|refine lc [6,7,8,20] jx ?_|refine xQ (n:=21) (vs:=[rI 10,rI 8,rI 9,rI 13,rI 11]) [6,7,8,20,5] (.int .i64 0) (.aP [rI 0,rB false]) jx jG hm ?_|refine cm (ex) ?_|refine ar ?_|exact jI|(clear hK K)))
 (refine aZ [] ?_;try simp only[go_sem])
def Sj(a:Int)(L X:List ax)(h0:0<=a)(hl:a.toNat<p.aa.nodes.length)
  (hm:ov (ak p a).kind [6,7,8,20,5] [rI 10,rI 8,rI 9,rI 13,rI 11] (.raw (.int .i64 0)) true=.aP [rI 0,rB false]) (hk:(ak p a).kind≠9) (Tl:(ak p a).kind≠21)
  (ex:ab prog 261 [.pt 0 0 0 0,.agg (eF (ak p a)),rI a] (bV p L) (fun r l=>r=.aP []/\l=bV p (L++X))) :
  ab prog 241 [.pt 0 0 0 0,rI a] (bV p L) (fun r l=>r=.aP []/\l=bV p (L++X)):=by
 have p':=oL p L a h0 hl;generalize ak p a=nd at*;have n1:=eq_false hk;have n2:=eq_false Tl;refine aL func241 ntmps241 ?_;refine S ?_
 (have W:=jA n1 n2;repeat' (first|refine aq fun K hK=>?_|refine au ?_|(refine hK _ _ ?_;clear hK K)|(refine ap ?_ ?_<;>intro hc<;>try exact jz)|refine al 5 ?_|refine cm (p') ?_|refine tC 6 ?_|refine lc [] jx ?_|refine lc [6] jx ?_|refine lc [6,7] jx ?_|refine lc [6,7,8] jx ?_|refine lc [6,7,8,20] jx ?_|refine xQ (n:=nd.kind) (vs:=[rI 10,rI 8,rI 9,rI 13,rI 11]) [6,7,8,20,5] (.int .i64 0) (.aP [rI 0,rB false]) jx jG hm ?_|refine cm (ex) ?_|refine ar ?_|exact jI|(clear hK K)))
 (refine aZ [] ?_;try simp only[go_sem])
def PG(ht:aQ p.aa)(n m:Nat)(a k:Int)(hl:a.toNat<p.aa.nodes.length)(hk:(ak p a).kind=21)(hn:a.toNat<=n)(hm:a.toNat<=m):cB p n a k=cB p m a k:=by
 have hb:=(ht.shape a.toNat hl).2.1;have T3:=(ht.shape a.toNat hl).1.call hk;unfold cB;rw[Dp (ak p a).l k [] fun x hx j=>by have Xx:=hb x hx;exact Ci ht n m x j Xx.1 jB (T3 x hx) jB jB]
theorem Dx{p:af}(hp:fq p):∀n,C1 p n
 |0=>fun a L h0 hl hk hn hL=>by omega
 |n+1=>fun a L h0 hl hk hn hL=>by
  have hx:=Dx hp n;have ht:=hp.ok.ok.aa;have hm:=ht.many;have hb:=(ht.shape a.toNat hl).2.1;have Uq:p.slots.length=p.aa.nodes.length:=hp.ok.ok.slots;have VX:p.types.length=p.aa.nodes.length:=hp.ok.ok.types;have sh:=(ht.shape a.toNat hl).1;have Tv:fm (ak p a).kind:=hk;unfold fm cQ at Tv;have aE:∀x k,x∈(ak p a).l->cQ (bX p.aa.nodes x)->bo p (n+1) x k=bo p n x k:=fun x k hx TR=>by have:=hb x hx;exact Ci ht (n+1) n x k this.1 jB TR jB jB
  by_cases e21:(ak p a).kind=21
  ·have h1:=JD hp hx a L h0 hl e21 hn jB;rw[show jO p (n+1) a L.length=cB p n a L.length by rw[tq,jN,jN,if_pos e21];exact PG ht _ _ a _ hl e21 jB jB];exact QA a L _ h0 hl (by rw[e21];rfl) e21 h1
  by_cases e9:(ak p a).kind=9
  ·have h1:=Kg hp hx a L h0 hl e9 hn jB;rw[ns (show cQ _ by unfold cQ;show 1<=(ak p a).kind/\(ak p a).kind<=9;omega)];exact Kx a L _ h0 hl (by rw[e9];rfl) e9 h1
  have VY:∀op k,(ak p a).kind=k->(k=5\/k=6\/k=7\/k=8\/k=20)->ov k [6,7,8,20,5] [rI 10,rI 8,rI 9,rI 13,rI 11] (.raw (.int .i64 0)) true=.aP [rI op,rB true]->∃x X,(ak p a).l=[x]/\bo p n x L.length=X/\bo p (n+1) x L.length=X/\
    ab prog 241 [.pt 0 0 0 0,rI a] (bV p L) (fun r l=>r=.aP []/\l=bV p (L++(X++[iI op (if nth p.slots a.toNat<0 then 0 else nth p.slots a.toNat)]))):=fun op k e hk5 hm5=>by
   obtain⟨x,u',TX⟩:=sh.one (by have e:(nth p.aa.nodes a.toNat).kind=k:=e;omega);have u':(ak p a).l=[x]:=u';have Xx:=hb x (by show x∈(ak p a).l;rw[u'];simp);obtain⟨lo,Tb⟩:=(ht.shape a.toNat hl).2.2;have Tb:aK p.aa.nodes lo (ak p a).l a.toNat:=Tb;rw[u']at Tb;obtain⟨d1,d2,d3,d4,d5⟩:=kn Tb;have lx:=ma ht n x L.length lo d1 jB TX d5;have ex:=hx x L Xx.1 jB (.inl TX) jB jB;rw[ns TX]at ex;refine⟨x,bo p n x L.length,u',rfl,aE x _ (by rw[u'];simp) TX,?_⟩;rw[<-List.append_assoc];exact Nq a x L _ op h0 hl jB u' (by rw[List.length_append];omega) (by rw[e];exact hm5) ex
  have neg:(ak p a).kind=6\/(ak p a).kind=7\/(ak p a).kind=8\/(ak p a).kind=20->(if nth p.slots a.toNat<0 then 0 else nth p.slots a.toNat)=0:=fun e=>by have:=hp.neg a.toNat hl (by unfold jL;have e:(nth p.aa.nodes a.toNat).kind=6\/(nth p.aa.nodes a.toNat).kind=7\/(nth p.aa.nodes a.toNat).kind=8\/(nth p.aa.nodes a.toNat).kind=20:=e;omega);split<;>omega
  by_cases e5:(ak p a).kind=5
  ·obtain⟨x,X,h1,h2,X1,h3⟩:=VY 11 5 e5 jB rfl;have hps:=hp.pos a.toNat hl (by unfold jL;have e:(nth p.aa.nodes a.toNat).kind=5:=e5;omega);rw[jN]at h3;rw[ns (show cQ _ by unfold cQ;show 1<=(ak p a).kind/\(ak p a).kind<=9;omega),lR];simp only[e5,h1,Int.reduceEq,↓reduceIte];rw[show nth [x] 0=x from rfl,h2];exact h3
  by_cases e6:(ak p a).kind=6
  ·obtain⟨x,X,h1,h2,X1,h3⟩:=VY 10 6 e6 jB rfl;rw[neg jB]at h3;rw[ns (show cQ _ by unfold cQ;show 1<=(ak p a).kind/\(ak p a).kind<=9;omega),lR];simp only[e6,h1,Int.reduceEq,↓reduceIte];rw[show nth [x] 0=x from rfl,h2];exact h3
  by_cases e7:(ak p a).kind=7
  ·obtain⟨x,X,h1,h2,X1,h3⟩:=VY 8 7 e7 jB rfl;rw[neg jB]at h3;rw[ns (show cQ _ by unfold cQ;show 1<=(ak p a).kind/\(ak p a).kind<=9;omega),lR];simp only[e7,h1,Int.reduceEq,↓reduceIte];rw[show nth [x] 0=x from rfl,h2];exact h3
  by_cases e8:(ak p a).kind=8
  ·obtain⟨x,X,h1,h2,X1,h3⟩:=VY 9 8 e8 jB rfl;rw[neg jB]at h3;rw[ns (show cQ _ by unfold cQ;show 1<=(ak p a).kind/\(ak p a).kind<=9;omega),lR];simp only[e8,h1,Int.reduceEq,↓reduceIte];rw[show nth [x] 0=x from rfl,h2];exact h3
  by_cases e20:(ak p a).kind=20
  ·obtain⟨x,X,h1,h2,X1,h3⟩:=VY 13 20 e20 jB rfl;rw[neg jB]at h3;rw[tq];simp only[e20,h1,Int.reduceEq,↓reduceIte];rw[show nth [x] 0=x from rfl,X1];exact h3
  have hlf:=JP p L a h0 jB jB jB;rw[show jO p (n+1) a L.length=yB p a by unfold yB;have T6:(ak p a).kind=1\/(ak p a).kind=2\/(ak p a).kind=3\/(ak p a).kind=4\/(ak p a).kind=19:=jB;rcases T6 with e|e|e|e|e<;>(rw[tq,lR p n a];simp only[e,Int.reduceEq,↓reduceIte])]
  exact Sj a L _ h0 hl (by have T6:(ak p a).kind=1\/(ak p a).kind=2\/(ak p a).kind=3\/(ak p a).kind=4\/(ak p a).kind=19:=jB;rcases T6 with e|e|e|e|e<;>(rw[e];rfl)) e9 e21 hlf
attribute [local go_sem] iI
def HU(p:af)(n:Nat):Prop:=∀(a:Int) (L:List ax),0<=a->a.toNat<p.aa.nodes.length->fu (bX p.aa.nodes a)->a.toNat<n->¬(1000000<L.length+3000*n)->ab prog 202 [.pt 0 0 0 0,rI a] (bV p L) (fun r l=>r=.aP []/\l=bV p (L++gf p n a L.length))
def C7(ht:aQ p.aa)(n:Nat)(b:Int)(k:Int)(lo:Nat)(b0:0<=b)(b1:b.toNat<p.aa.nodes.length)(b2:bX p.aa.nodes b=18)(b3:aK p.aa.nodes lo (ak p b).l b.toNat):(bv (gf p n) k (ak p b).l []).length+4*lo<=4*b.toNat:=
 xo (f:=gf p n) (ak p b).l k lo b.toNat b3 fun x hx k lo Wz=>by have hb:=(ht.shape b.toNat b1).2.1 x hx;exact CU ht n x k lo hb.1 jB ((ht.shape b.toNat b1).1.block b2 x hx) Wz
def zK(ht:aQ p.aa)(n:Nat)(b:Int)(k:Int)(b0:0<=b)(b1:b.toNat<p.aa.nodes.length)(b2:bX p.aa.nodes b=18):(bv (gf p n) k (ak p b).l []).length<=1200:=by obtain⟨lo,b3⟩:=(ht.shape b.toNat b1).2.2;have hm:=ht.many;have:=C7 ht n b k lo b0 b1 b2 b3;omega
def CV(hp:fq p)(hs:HU p n)(b:Int)(L:List ax)(h0:0<=b)(hl:b.toNat<p.aa.nodes.length)(hk:bX p.aa.nodes b=18)(hn:b.toNat<=n)(hL:¬(998700<L.length+3000*n)) :
  ab prog 159 [.pt 0 0 0 0,rI b] (bV p L) (fun r l=>r=.aP []/\l=bV p (L++bv (gf p n) L.length (ak p b).l [])):=by
 have ht:=hp.ok.ok.aa;have hm:=ht.many;have hb:=(ht.shape b.toNat hl).2.1;have T3:=(ht.shape b.toNat hl).1.block hk;have I':=zK ht n b L.length h0 hl hk;obtain⟨lo,Tb⟩:=(ht.shape b.toNat hl).2.2;have Tc:lo+(ak p b).l.length<=b.toNat:=CW Tb;have p':=oL p L b h0 hl;have U5:=AT p 202 jD (gf p n) (ak p b).l L jB (1000000-3000*n) jB (fun x VP M hM=>by have Xx:=hb x VP;exact hs x M Xx.1 jB (T3 x VP) jB jB)
 clear hs;generalize ak p b=nd at*;generalize hX:bv (gf p n) L.length nd.l []=X at*;refine aL func159 ntmps159 ?_;refine S ?_
 (repeat' (first|refine aq fun K hK=>?_|refine au ?_|(refine hK _ _ ?_;clear hK K)|(refine ap ?_ ?_<;>intro hc<;>try exact jz)|refine cm (p') ?_|refine cm (U5) ?_|refine ar ?_|exact jI|(clear hK K)))
 (refine aZ [] ?_;try simp only[go_sem])
def NZ(L X Y:List ax)(op v:Int)(k:Nat)(hk:k=L.length+X.length):(L++X++[iI op 0]++Y).set k { iI op 0 with a:=v }=L++X++[iI op v]++Y:=by subst hk;rw[List.append_assoc (L++X),List.set_append_right _ _ jE];simp[iI]
def Qe(L X Y:List ax)(x:ax)(k:Nat)(hk:k=L.length+X.length):nth (L++X++[x]++Y) k=x:=by subst hk;rw[List.append_assoc (L++X)];simp[nth]
def yP(p:af)(L X Y:List ax)(op:Int)(k:Nat)(hk:k=L.length+X.length)(hL:¬(1000000<L.length+X.length+1+Y.length)) :
  ab prog 258 [.pt 0 0 0 0,rI k] (bV p (L++X++[iI op 0]++Y)) (fun r l=>r=.aP []/\l=bV p (L++X++[iI op (L.length+X.length+1+Y.length:Nat)]++Y)):=by
 have h:=BI p (L++X++[iI op 0]++Y) k (by simp only[List.length_append,List.length_singleton];omega) (by simp only[List.length_append,List.length_singleton];omega);rw[Qe L X Y _ k hk,NZ L X Y op _ k hk]at h;rwa [show(L++X++[iI op 0]++Y).length=L.length+X.length+1+Y.length by simp only[List.length_append,List.length_singleton]]at h
def SA(nd:br)(x b:Int)(L X B:List ax)(mark:Int)(hL:¬(999700<L.length+X.length+B.length))(hk:nd.kind=16)(u':nd.l=[x,b])
  (ex:ab prog 241 [.pt 0 0 0 0,rI x] (bV p L) (fun r l=>r=.aP []/\l=bV p (L++X)))
  (eb:ab prog 159 [.pt 0 0 0 0,rI b] (bV p (L++X++[iI 17 0])) (fun r l=>r=.aP []/\l=bV p (L++X++[iI 17 0]++B))) :
  ab prog 240 [.pt 0 0 0 0,.agg (eF nd),rI mark] (bV p L) (fun r l=>r=.aP []/\l=bV p (L++X++[iI 17 (L.length+X.length+1+(B.length+1):Nat)]++(B++[iI 16 mark]))):=by
 have h1:=iZ p (L++X) 17 0 (by simp only[List.length_append];omega);have h2:=iZ p (L++X++[iI 17 0]++B) 16 mark (by simp only[List.length_append,List.length_singleton];omega);have h3:=yP p L X (B++[iI 16 mark]) 17 (L.length+X.length) rfl (by simp only[List.length_append,List.length_singleton];omega);rw[show(B++[iI 16 mark]).length=B.length+1 from jE]at h3;simp only[<-List.append_assoc]at h3 ⊢;refine aL func240 ntmps240 ?_;refine S ?_
 (have W:=jA hk u';repeat' (first|refine aq fun K hK=>?_|refine au ?_|(refine hK _ _ ?_;clear hK K)|(refine ap ?_ ?_<;>intro hc<;>try exact jz)|refine bx 5 ?_|refine cm (ex) ?_|refine cm (h1) ?_|refine cm (eb) ?_|refine cm (h2) ?_|refine cm (h3) ?_|refine ar ?_|exact jI|(clear hK K)))
 (refine aZ [] ?_;try simp only[go_sem])
def NV(nd:br)(x b:Int)(L X B:List ax)(mark:Int)(hL:¬(999700<L.length+X.length+B.length))(hk:nd.kind≠16)(u':nd.l=[x,b])
  (ex:ab prog 241 [.pt 0 0 0 0,rI x] (bV p L) (fun r l=>r=.aP []/\l=bV p (L++X)))
  (eb:ab prog 159 [.pt 0 0 0 0,rI b] (bV p (L++X++[iI 17 0])) (fun r l=>r=.aP []/\l=bV p (L++X++[iI 17 0]++B))) :
  ab prog 240 [.pt 0 0 0 0,.agg (eF nd),rI mark] (bV p L) (fun r l=>r=.aP []/\l=bV p (L++X++[iI 17 (L.length+X.length+1+B.length:Nat)]++B)):=by
 have h1:=iZ p (L++X) 17 0 (by simp only[List.length_append];omega);have h3:=yP p L X B 17 (L.length+X.length) rfl jB;have n1:=eq_false hk;refine aL func240 ntmps240 ?_;refine S ?_
 (have W:=jA n1 u';repeat' (first|refine aq fun K hK=>?_|refine au ?_|(refine hK _ _ ?_;clear hK K)|(refine ap ?_ ?_<;>intro hc<;>try exact jz)|refine bx 5 ?_|refine cm (ex) ?_|refine cm (h1) ?_|refine cm (eb) ?_|refine cm (h3) ?_|refine ar ?_|exact jI|(clear hK K)))
 (refine aZ [] ?_;try simp only[go_sem])
def RH(nd:br)(x b d:Int)(L X B D:List ax)(mark:Int)(hL:¬(999700<L.length+X.length+B.length+D.length))(hk:nd.kind≠16)(u':nd.l=[x,b,d])
  (ex:ab prog 241 [.pt 0 0 0 0,rI x] (bV p L) (fun r l=>r=.aP []/\l=bV p (L++X)))
  (eb:ab prog 159 [.pt 0 0 0 0,rI b] (bV p (L++X++[iI 17 0])) (fun r l=>r=.aP []/\l=bV p (L++X++[iI 17 0]++B)))
  (ed:ab prog 159 [.pt 0 0 0 0,rI d] (bV p (L++X++[iI 17 (L.length+X.length+1+(B.length+1):Nat)]++B++[iI 16 0])) (fun r l=>r=.aP []/\l=bV p (L++X++[iI 17 (L.length+X.length+1+(B.length+1):Nat)]++B++[iI 16 0]++D))) :
  ab prog 240 [.pt 0 0 0 0,.agg (eF nd),rI mark] (bV p L) (fun r l=>r=.aP []/\l=bV p (L++X++[iI 17 (L.length+X.length+1+(B.length+1):Nat)]++(B++[iI 16 (L.length+X.length+1+B.length+1+D.length:Nat)])++D)):=by
 have h1:=iZ p (L++X) 17 0 (by simp only[List.length_append];omega);have h2:=iZ p (L++X++[iI 17 0]++B) 16 0 (by simp only[List.length_append,List.length_singleton];omega);have h3:=yP p L X (B++[iI 16 0]) 17 (L.length+X.length) rfl (by simp only[List.length_append,List.length_singleton];omega);rw[show(B++[iI 16 0]).length=B.length+1 from jE]at h3;have h4:=yP p (L++X++[iI 17 (L.length+X.length+1+(B.length+1):Nat)]) B D 16 (L.length+X.length+1+B.length) (by simp only[List.length_append,List.length_singleton]) (by simp only[List.length_append,List.length_singleton];omega);rw[show(L++X++[iI 17 (L.length+X.length+1+(B.length+1):Nat)]).length=L.length+X.length+1 by simp only[List.length_append,List.length_singleton]]at h4;simp only[<-List.append_assoc]at h3 h4 ⊢;have n1:=eq_false hk;refine aL func240 ntmps240 ?_;refine S ?_
 (have W:=jA n1 u';repeat' (first|refine aq fun K hK=>?_|refine au ?_|(refine hK _ _ ?_;clear hK K)|(refine ap ?_ ?_<;>intro hc<;>try exact jz)|refine bx 5 ?_|refine cm (ex) ?_|refine cm (h1) ?_|refine cm (eb) ?_|refine cm (h2) ?_|refine cm (h3) ?_|refine cm (ed) ?_|refine cm (h4) ?_|refine ar ?_|exact jI|(clear hK K)))
 (refine aZ [] ?_;try simp only[go_sem])
attribute [local go_sem] iI
def R8(a:Int)(L Y:List ax)(h0:0<=a)(hl:a.toNat<p.aa.nodes.length)(hs:a.toNat<p.slots.length)(hL:¬(999900<L.length+Y.length))(hk:(ak p a).kind=10)
  (U5:ab prog 200 [aM eI 1 (ak p a).l,.bd 241 [.pt 0 0 0 0]] (bV p (L++[iI 1 a])) (fun r l=>r=.aP []/\l=bV p (L++[iI 1 a]++Y))) :
  ab prog 202 [.pt 0 0 0 0,rI a] (bV p L) (fun r l=>r=.aP []/\l=bV p (L++[iI 1 a]++Y++[iI 6 (nth p.slots a.toNat)])):=by
 have p':=oL p L a h0 hl;have h1:=iZ p L 1 a jB;have h2:=iZ p (L++[iI 1 a]++Y) 6 (nth p.slots a.toNat) (by simp only[List.length_append,List.length_singleton];omega);generalize ak p a=nd at*;refine aL func202 ntmps202 ?_;refine S ?_
 (have W:=hk;repeat' (first|refine aq fun K hK=>?_|refine au ?_|(refine hK _ _ ?_;clear hK K)|(refine ap ?_ ?_<;>intro hc<;>try exact jz)|refine al 5 ?_|refine cm (p') ?_|refine cm (h1) ?_|refine cm (U5) ?_|refine cm (h2) ?_|refine ar ?_|exact jI|(clear hK K)))
 (refine aZ [] ?_;try simp only[go_sem])
def RL(a:Int)(L Y:List ax)(h0:0<=a)(hl:a.toNat<p.aa.nodes.length)(hs:a.toNat<p.slots.length)(hL:¬(999900<L.length+Y.length))(hk:(ak p a).kind=11)
  (U5:ab prog 200 [aM eI 1 (ak p a).l,.bd 241 [.pt 0 0 0 0]] (bV p (L++[iI 1 a])) (fun r l=>r=.aP []/\l=bV p (L++[iI 1 a]++Y))) :
  ab prog 202 [.pt 0 0 0 0,rI a] (bV p L) (fun r l=>r=.aP []/\l=bV p (L++[iI 1 a]++Y++[iI 6 (nth p.slots a.toNat)])):=by
 have p':=oL p L a h0 hl;have h1:=iZ p L 1 a jB;have h2:=iZ p (L++[iI 1 a]++Y) 6 (nth p.slots a.toNat) (by simp only[List.length_append,List.length_singleton];omega);generalize ak p a=nd at*;refine aL func202 ntmps202 ?_;refine S ?_
 (have W:=hk;repeat' (first|refine aq fun K hK=>?_|refine au ?_|(refine hK _ _ ?_;clear hK K)|(refine ap ?_ ?_<;>intro hc<;>try exact jz)|refine al 5 ?_|refine cm (p') ?_|refine cm (h1) ?_|refine cm (U5) ?_|refine cm (h2) ?_|refine ar ?_|exact jI|(clear hK K)))
 (refine aZ [] ?_;try simp only[go_sem])
def Kc(a:Int)(L Y:List ax)(h0:0<=a)(hl:a.toNat<p.aa.nodes.length)(hs:a.toNat<p.slots.length)(hL:¬(999900<L.length+Y.length))(hk:(ak p a).kind=12)
  (U5:ab prog 200 [aM eI 1 (ak p a).l,.bd 241 [.pt 0 0 0 0]] (bV p (L++[iI 1 a])) (fun r l=>r=.aP []/\l=bV p (L++[iI 1 a]++Y))) :
  ab prog 202 [.pt 0 0 0 0,rI a] (bV p L) (fun r l=>r=.aP []/\l=bV p (L++[iI 1 a]++Y++[iI 12 (nth p.slots a.toNat)])):=by
 have p':=oL p L a h0 hl;have h1:=iZ p L 1 a jB;have h2:=iZ p (L++[iI 1 a]++Y) 12 (nth p.slots a.toNat) (by simp only[List.length_append,List.length_singleton];omega);generalize ak p a=nd at*;refine aL func202 ntmps202 ?_;refine S ?_
 (have W:=hk;repeat' (first|refine aq fun K hK=>?_|refine au ?_|(refine hK _ _ ?_;clear hK K)|(refine ap ?_ ?_<;>intro hc<;>try exact jz)|refine al 5 ?_|refine cm (p') ?_|refine cm (h1) ?_|refine cm (U5) ?_|refine cm (h2) ?_|refine ar ?_|exact jI|(clear hK K)))
 (refine aZ [] ?_;try simp only[go_sem])
def Og(a:Int)(L Y:List ax)(h0:0<=a)(hl:a.toNat<p.aa.nodes.length)(hs:a.toNat<p.slots.length)(hL:¬(999900<L.length+Y.length))(hk:(ak p a).kind=13)
  (U5:ab prog 200 [aM eI 1 (ak p a).l,.bd 241 [.pt 0 0 0 0]] (bV p (L++[iI 1 a])) (fun r l=>r=.aP []/\l=bV p (L++[iI 1 a]++Y))) :
  ab prog 202 [.pt 0 0 0 0,rI a] (bV p L) (fun r l=>r=.aP []/\l=bV p (L++[iI 1 a]++Y++[iI 23 (0)])):=by
 have p':=oL p L a h0 hl;have h1:=iZ p L 1 a jB;have h2:=iZ p (L++[iI 1 a]++Y) 23 (0) (by simp only[List.length_append,List.length_singleton];omega);generalize ak p a=nd at*;refine aL func202 ntmps202 ?_;refine S ?_
 (have W:=hk;repeat' (first|refine aq fun K hK=>?_|refine au ?_|(refine hK _ _ ?_;clear hK K)|(refine ap ?_ ?_<;>intro hc<;>try exact jz)|refine al 5 ?_|refine cm (p') ?_|refine cm (h1) ?_|refine cm (U5) ?_|refine cm (h2) ?_|refine ar ?_|exact jI|(clear hK K)))
 (refine aZ [] ?_;try simp only[go_sem])
def JZ(a:Int)(L Y:List ax)(h0:0<=a)(hl:a.toNat<p.aa.nodes.length)(hs:a.toNat<p.slots.length)(hL:¬(999900<L.length+Y.length))(hk:(ak p a).kind=14)
  (U5:ab prog 200 [aM eI 1 (ak p a).l,.bd 241 [.pt 0 0 0 0]] (bV p (L++[iI 1 a])) (fun r l=>r=.aP []/\l=bV p (L++[iI 1 a]++Y))) :
  ab prog 202 [.pt 0 0 0 0,rI a] (bV p L) (fun r l=>r=.aP []/\l=bV p (L++[iI 1 a]++Y++[iI 15 (0)])):=by
 have p':=oL p L a h0 hl;have h1:=iZ p L 1 a jB;have h2:=iZ p (L++[iI 1 a]++Y) 15 (0) (by simp only[List.length_append,List.length_singleton];omega);generalize ak p a=nd at*;refine aL func202 ntmps202 ?_;refine S ?_
 (have W:=hk;repeat' (first|refine aq fun K hK=>?_|refine au ?_|(refine hK _ _ ?_;clear hK K)|(refine ap ?_ ?_<;>intro hc<;>try exact jz)|refine al 5 ?_|refine cm (p') ?_|refine cm (h1) ?_|refine cm (U5) ?_|refine cm (h2) ?_|refine ar ?_|exact jI|(clear hK K)))
 (refine aZ [] ?_;try simp only[go_sem])
def Py(a:Int)(L Y:List ax)(h0:0<=a)(hl:a.toNat<p.aa.nodes.length)(hs:a.toNat<p.slots.length)(hL:¬(999900<L.length+Y.length))(hk:(ak p a).kind=17)(Vb:(ak p a).l=[])
  (U5:ab prog 200 [aM eI 1 (ak p a).l,.bd 241 [.pt 0 0 0 0]] (bV p (L++[iI 1 a])) (fun r l=>r=.aP []/\l=bV p (L++[iI 1 a]++Y))) :
  ab prog 202 [.pt 0 0 0 0,rI a] (bV p L) (fun r l=>r=.aP []/\l=bV p (L++[iI 1 a]++Y++[iI 22 (0)])):=by
 have p':=oL p L a h0 hl;have h1:=iZ p L 1 a jB;have h2:=iZ p (L++[iI 1 a]++Y) 22 (0) (by simp only[List.length_append,List.length_singleton];omega);generalize ak p a=nd at*;rw[Vb]at U5;refine aL func202 ntmps202 ?_;refine S ?_
 (have W:=jA hk Vb;repeat' (first|refine aq fun K hK=>?_|refine au ?_|(refine hK _ _ ?_;clear hK K)|(refine ap ?_ ?_<;>intro hc<;>try exact jz)|refine al 5 ?_|refine cm (p') ?_|refine cm (h1) ?_|refine cm (U5) ?_|refine cm (h2) ?_|refine ar ?_|exact jI|(clear hK K)))
 (refine aZ [] ?_;try simp only[go_sem])
def MB(a:Int)(L Y:List ax)(h0:0<=a)(hl:a.toNat<p.aa.nodes.length)(hs:a.toNat<p.slots.length)(hL:¬(999900<L.length+Y.length))(hk:(ak p a).kind=17)(x:Int)(Vb:(ak p a).l=[x])
  (U5:ab prog 200 [aM eI 1 (ak p a).l,.bd 241 [.pt 0 0 0 0]] (bV p (L++[iI 1 a])) (fun r l=>r=.aP []/\l=bV p (L++[iI 1 a]++Y))) :
  ab prog 202 [.pt 0 0 0 0,rI a] (bV p L) (fun r l=>r=.aP []/\l=bV p (L++[iI 1 a]++Y++[iI 21 (0)])):=by
 have p':=oL p L a h0 hl;have h1:=iZ p L 1 a jB;have h2:=iZ p (L++[iI 1 a]++Y) 21 (0) (by simp only[List.length_append,List.length_singleton];omega);generalize ak p a=nd at*;rw[Vb]at U5;refine aL func202 ntmps202 ?_;refine S ?_
 (have W:=jA hk Vb;repeat' (first|refine aq fun K hK=>?_|refine au ?_|(refine hK _ _ ?_;clear hK K)|(refine ap ?_ ?_<;>intro hc<;>try exact jz)|refine al 5 ?_|refine cm (p') ?_|refine cm (h1) ?_|refine cm (U5) ?_|refine cm (h2) ?_|refine ar ?_|exact jI|(clear hK K)))
 (refine aZ [] ?_;try simp only[go_sem])
def A4(a:Int)(L Y:List ax)(h0:0<=a)(hl:a.toNat<p.aa.nodes.length)(hL:¬(999900<L.length+Y.length))(hk:(ak p a).kind=15\/(ak p a).kind=16)
  (ht:ab prog 240 [.pt 0 0 0 0,.agg (eF (ak p a)),rI L.length] (bV p (L++[iI 1 a])) (fun r l=>r=.aP []/\l=bV p (L++[iI 1 a]++Y))) :
  ab prog 202 [.pt 0 0 0 0,rI a] (bV p L) (fun r l=>r=.aP []/\l=bV p (L++[iI 1 a]++Y)):=by
 have p':=oL p L a h0 hl;have h1:=iZ p L 1 a jB;generalize ak p a=nd at*;rcases hk with hk|hk
 ·refine aL func202 ntmps202 ?_;refine S ?_
  (have W:=hk;repeat' (first|refine aq fun K hK=>?_|refine au ?_|(refine hK _ _ ?_;clear hK K)|(refine ap ?_ ?_<;>intro hc<;>try exact jz)|refine al 5 ?_|refine cm (p') ?_|refine cm (h1) ?_|refine cm (ht) ?_|refine ar ?_|exact jI|(clear hK K)))
  (refine aZ [] ?_;try simp only[go_sem])
 ·refine aL func202 ntmps202 ?_;refine S ?_
  (have W:=hk;repeat' (first|refine aq fun K hK=>?_|refine au ?_|(refine hK _ _ ?_;clear hK K)|(refine ap ?_ ?_<;>intro hc<;>try exact jz)|refine al 5 ?_|refine cm (p') ?_|refine cm (h1) ?_|refine cm (ht) ?_|refine ar ?_|exact jI|(clear hK K)))
  (refine aZ [] ?_;try simp only[go_sem])
def Nn{a k:Int}(h:bX p.aa.nodes a=21):jO p n a k=cB p n a k:=by have h:(ak p a).kind=21:=h;rw[tq,jN,jN,if_pos h]
def NT(p:af)(n:Nat)(bl:Int->Int->List ax)(a from_:Int):rC p n bl a from_=(
  if(ak p a).kind=16 then bo p n (nth (ak p a).l 0) from_++[iI 17 (from_+(bo p n (nth (ak p a).l 0) from_).length+1+((bl (nth (ak p a).l 1) (from_+(bo p n (nth (ak p a).l 0) from_).length+1)).length+1))]++(bl (nth (ak p a).l 1) (from_+(bo p n (nth (ak p a).l 0) from_).length+1)++[iI 16 (from_-1)])
  else if(ak p a).l.length=3 then
   bo p n (nth (ak p a).l 0) from_++[iI 17 (from_+(bo p n (nth (ak p a).l 0) from_).length+1+((bl (nth (ak p a).l 1) (from_+(bo p n (nth (ak p a).l 0) from_).length+1)).length+1))]++(bl (nth (ak p a).l 1) (from_+(bo p n (nth (ak p a).l 0) from_).length+1)++[iI 16 (from_+(bo p n (nth (ak p a).l 0) from_).length+1+(bl (nth (ak p a).l 1) (from_+(bo p n (nth (ak p a).l 0) from_).length+1)).length+1+(bl (nth (ak p a).l 2) (from_+(bo p n (nth (ak p a).l 0) from_).length+1+(bl (nth (ak p a).l 1) (from_+(bo p n (nth (ak p a).l 0) from_).length+1)).length+1)).length)])++bl (nth (ak p a).l 2) (from_+(bo p n (nth (ak p a).l 0) from_).length+1+(bl (nth (ak p a).l 1) (from_+(bo p n (nth (ak p a).l 0) from_).length+1)).length+1)
  else bo p n (nth (ak p a).l 0) from_++[iI 17 (from_+(bo p n (nth (ak p a).l 0) from_).length+1+(bl (nth (ak p a).l 1) (from_+(bo p n (nth (ak p a).l 0) from_).length+1)).length)]++bl (nth (ak p a).l 1) (from_+(bo p n (nth (ak p a).l 0) from_).length+1)):=rfl
def xC(f:Int->Int->List ax)(k x:Int):bv f k [x] []=f x k:=by show[]++f x (k+((0:Nat):Int))=_;rw[Int.natCast_zero,Int.add_zero,List.nil_append]
def KY(f:Int->Int->List ax)(k x y:Int):bv f k [x,y] []=f x k++f y (k+(f x k).length):=by show bv f k [y] ([]++f x (k+((0:Nat):Int)))=_;rw[Int.natCast_zero,Int.add_zero,List.nil_append];rfl
def uf(L Y:List ax)(a b:ax):L++a::(Y++[b])=L++[a]++Y++[b]:=jE
def Jy(L Y:List ax)(a:ax):L++a::Y=L++[a]++Y:=jE
theorem wu{p:af}(hp:fq p):∀n,HU p n
 |0=>fun a L h0 hl hk hn hL=>by omega
 |n+1=>fun a L h0 hl hk hn hL=>by
  have hs:=wu hp n;have hx:=Dx hp n;have ht:=hp.ok.ok.aa;have hm:=ht.many;have hb:=(ht.shape a.toNat hl).2.1;have Uq:p.slots.length=p.aa.nodes.length:=hp.ok.ok.slots;have sh:=(ht.shape a.toNat hl).1;obtain⟨lo,Tb⟩:=(ht.shape a.toNat hl).2.2;have Tb:aK p.aa.nodes lo (ak p a).l a.toNat:=Tb;have Tc:lo+(ak p a).l.length<=a.toNat:=CW Tb;have Tv:fu (ak p a).kind:=hk;unfold fu at Tv;have l1:(L++[iI 1 a]).length=L.length+1:=jE;have Vc:∀x k,x∈(ak p a).l->fm (bX p.aa.nodes x)->(jO p n x k).length<=1200:=fun x k VP WS=>by have Xx:=hb x VP;obtain⟨lo',hc⟩:=(ht.shape x.toNat jB).2.2;have:=I9 ht n k lo' Xx.1 jB WS hc;omega
  have U5:∀Y,(∀x∈(ak p a).l,fm (bX p.aa.nodes x))->bv (jO p n) (L.length+1) (ak p a).l []=Y->Y.length<=2500->ab prog 200 [aM eI 1 (ak p a).l,.bd 241 [.pt 0 0 0 0]] (bV p (L++[iI 1 a])) (fun r l=>r=.aP []/\l=bV p (L++[iI 1 a]++Y)):=fun Y hr hY hYl=>by have:=AT p 241 jD (jO p n) (ak p a).l (L++[iI 1 a]) jB (1000000-3000*n) (by rw[l1,Int.natCast_add];show¬(_<L.length+1+(bv (jO p n) (L.length+1) (ak p a).l []).length);rw[hY];omega) (fun x VP M hM=>hx x M (hb x VP).1 (by have:=hb x VP;omega) (hr x VP) (by have:=hb x VP;omega) jB);rw[l1,Int.natCast_add]at this;rw[show bv (jO p n) ((L.length:Int)+((1:Nat):Int)) (ak p a).l []=Y from hY]at this;exact this
  rw[xS];by_cases e10:(ak p a).kind=10
  ·obtain⟨x,u',XN⟩:=sh.right (by have e:(nth p.aa.nodes a.toNat).kind=10:=e10;omega);have u':(ak p a).l=[x]:=u';have Vt:=Vc x (L.length+1) (by rw[u'];simp) XN;have h:=U5 (jO p n x (L.length+1)) (by rw[u'];intro y hy;simp only[List.mem_singleton]at hy;subst hy;exact XN) (by rw[u',xC]) jB;rw[jP,u',show nth [x] 0=x from rfl,uf];exact R8 a L _ h0 hl jB jB e10 h
  by_cases e11:(ak p a).kind=11
  ·obtain⟨x,u',XN⟩:=sh.right (by have e:(nth p.aa.nodes a.toNat).kind=11:=e11;omega);have u':(ak p a).l=[x]:=u';have Vt:=Vc x (L.length+1) (by rw[u'];simp) XN;have h:=U5 (jO p n x (L.length+1)) (by rw[u'];intro y hy;simp only[List.mem_singleton]at hy;subst hy;exact XN) (by rw[u',xC]) jB;rw[jP,u',show nth [x] 0=x from rfl,uf];exact RL a L _ h0 hl jB jB e11 h
  rw[jN];by_cases e12:(ak p a).kind=12
  ·obtain⟨x,y,u',TX,WV⟩:=sh.two (.inr e12);have u':(ak p a).l=[x,y]:=u';have Vt:=Vc x (L.length+1) (by rw[u'];simp) (.inl TX);have hy1:=Vc y (L.length+1+(jO p n x (L.length+1)).length) (by rw[u'];simp) (.inl WV);have h:=U5 (jO p n x (L.length+1)++jO p n y (L.length+1+(jO p n x (L.length+1)).length)) (by rw[u'];intro z hz;simp only[List.mem_cons,List.not_mem_nil,or_false]at hz;rcases hz with rfl|rfl<;>exact .inl (by assumption)) (by rw[u',KY]) (by rw[List.length_append];omega);rw[if_pos e12,u',show nth [x,y] 0=x from rfl,show nth [x,y] 1=y from rfl,<-ns TX,<-ns WV,uf];exact Kc a L _ h0 hl jB (by rw[List.length_append];omega) e12 h
  rw[if_neg e12];by_cases e13:(ak p a).kind=13
  ·obtain⟨x,u',hxC⟩:=sh.sX e13;have u':(ak p a).l=[x]:=u';have XN:fm (bX p.aa.nodes x):=.inr (.inr (.inr hxC));have Vt:=Vc x (L.length+1) (by rw[u'];simp) XN;have h:=U5 (jO p n x (L.length+1)) (by rw[u'];intro y hy;simp only[List.mem_singleton]at hy;subst hy;exact XN) (by rw[u',xC]) jB;rw[if_pos e13,u',show nth [x] 0=x from rfl,<-Nn hxC,uf];exact Og a L _ h0 hl jB jB e13 h
  rw[if_neg e13];by_cases e14:(ak p a).kind=14
  ·obtain⟨x,u',TX⟩:=sh.one (by have e:(nth p.aa.nodes a.toNat).kind=14:=e14;omega);have u':(ak p a).l=[x]:=u';have Vt:=Vc x (L.length+1) (by rw[u'];simp) (.inl TX);have h:=U5 (jO p n x (L.length+1)) (by rw[u'];intro y hy;simp only[List.mem_singleton]at hy;subst hy;exact .inl TX) (by rw[u',xC]) jB;rw[if_pos e14,u',show nth [x] 0=x from rfl,<-ns TX,uf];exact JZ a L _ h0 hl jB jB e14 h
  rw[if_neg e14];by_cases e17:(ak p a).kind=17
  ·rw[if_pos e17];rcases sh.ret e17 with u'|⟨x,u',TX⟩
   ·have u':(ak p a).l=[]:=u';have h:=U5 [] (by rw[u'];intro y hy;simp at hy) (by rw[u'];rfl) jE;rw[u',if_pos (show([]:TD).length=0 from rfl),show([iI 22 0]:List ax)=[]++[iI 22 0] from rfl,uf];exact Py a L _ h0 hl jB (by simp only[List.length_nil];omega) e17 u' h
   ·have u':(ak p a).l=[x]:=u';have Vt:=Vc x (L.length+1) (by rw[u'];simp) (.inl TX);have h:=U5 (jO p n x (L.length+1)) (by rw[u'];intro y hy;simp only[List.mem_singleton]at hy;subst hy;exact .inl TX) (by rw[u',xC]) jB;rw[u',if_neg (show¬([x]:TD).length=0 from jE),show nth [x] 0=x from rfl,<-ns TX,uf];exact MB a L _ h0 hl jB jB e17 x u' h
  rw[if_neg e17];have expL:∀x lo,aK p.aa.nodes lo (ak p x).l x.toNat->0<=x->x.toNat<p.aa.nodes.length->cQ (bX p.aa.nodes x)->∀k,(bo p n x k).length<=1200:=fun x lo c h0 h1 h2 k=>by have:=ma ht n x k lo h0 h1 h2 c;omega
  have tst:∀x b,x∈(ak p a).l->b∈(ak p a).l->cQ (bX p.aa.nodes x)->bX p.aa.nodes b=18->∃X B,bo p n x (L.length+1)=X/\X.length<=1200/\B.length<=1200/\bv (gf p n) (L.length+1+X.length+1) (ak p b).l []=B/\
    ab prog 241 [.pt 0 0 0 0,rI x] (bV p (L++[iI 1 a])) (fun r l=>r=.aP []/\l=bV p (L++[iI 1 a]++X))/\
    ab prog 159 [.pt 0 0 0 0,rI b] (bV p (L++[iI 1 a]++X++[iI 17 0])) (fun r l=>r=.aP []/\l=bV p (L++[iI 1 a]++X++[iI 17 0]++B)):=fun x b VP hbm TX VZ=>by
   have Xx:=hb x VP;have hbb:=hb b hbm;have hX:=Vc x (L.length+1) VP (.inl TX);rw[ns TX]at hX;have ex:=hx x (L++[iI 1 a]) Xx.1 jB (.inl TX) jB jB;rw[ns TX,l1,Int.natCast_add]at ex;refine⟨_,_,rfl,hX,zK ht n b _ hbb.1 jB VZ,rfl,ex,?_⟩;have eb:=CV hp hs b (L++[iI 1 a]++bo p n x (L.length+1)++[iI 17 0]) hbb.1 jB VZ jB (by simp only[List.length_append,List.length_singleton];omega);rw[show((L++[iI 1 a]++bo p n x (L.length+1)++[iI 17 0]).length:Int)=L.length+1+(bo p n x (L.length+1)).length+1 by simp only[List.length_append,List.length_singleton];omega]at eb;exact eb
  rw[Jy,NT];by_cases e16:(ak p a).kind=16
  ·obtain⟨x,b,u',TX,VZ⟩:=sh.dX e16;have u':(ak p a).l=[x,b]:=u';obtain⟨X,B,t1,t2,t3,t4,t5,t6⟩:=tst x b (by rw[u'];simp) (by rw[u'];simp) TX VZ;have hw:=SA (ak p a) x b (L++[iI 1 a]) X B L.length jB e16 u' t5 t6;rw[if_pos e16,u',show nth [x,b] 0=x from rfl,show nth [x,b] 1=b from rfl,t1,t4];rw[show((L.length:Int)+1+X.length+1+(B.length+1))=(((L++[iI 1 a]).length+X.length+1+(B.length+1):Nat):Int) by rw[l1];omega,show(L.length:Int)+1-1=L.length from jB];refine A4 a L _ h0 hl (by simp only[List.length_append,List.length_singleton];omega) (.inr e16) ?_;simp only[List.append_assoc]at hw ⊢;exact hw
  rw[if_neg e16];have e15:(ak p a).kind=15:=jB;obtain⟨x,b,TX,VZ,u'|⟨d,u',ZN⟩⟩:=sh.lC e15
  ·have u':(ak p a).l=[x,b]:=u';obtain⟨X,B,t1,t2,t3,t4,t5,t6⟩:=tst x b (by rw[u'];simp) (by rw[u'];simp) TX VZ;have hw:=NV (ak p a) x b (L++[iI 1 a]) X B L.length jB e16 u' t5 t6;rw[u',if_neg (show¬([x,b]:TD).length=3 from jE),show nth [x,b] 0=x from rfl,show nth [x,b] 1=b from rfl,t1,t4];rw[show((L.length:Int)+1+X.length+1+B.length)=(((L++[iI 1 a]).length+X.length+1+B.length:Nat):Int) by rw[l1];omega];refine A4 a L _ h0 hl (by simp only[List.length_append,List.length_singleton];omega) (.inl e15) ?_;simp only[List.append_assoc]at hw ⊢;exact hw
  ·have u':(ak p a).l=[x,b,d]:=u';obtain⟨X,B,t1,t2,t3,t4,t5,t6⟩:=tst x b (by rw[u'];simp) (by rw[u'];simp) TX VZ;have ZO:=hb d (by show d∈(ak p a).l;rw[u'];simp);have hD:=zK ht n d (L.length+1+X.length+1+B.length+1) ZO.1 jB ZN;have hsum:X.length+B.length<=1200:=by
    have Tb:=Tb;rw[u']at Tb;obtain⟨c1,c2,c3,c4,c5,c6⟩:=kD Tb;obtain⟨d1,d2,d3,d4,d5,d6⟩:=kD c6;have q1:=ma ht n x (L.length+1) lo c1 jB TX c5;have q2:=C7 ht n b (L.length+1+X.length+1) _ d1 jB VZ d5;rw[t1]at q1;rw[t4]at q2;omega
   have ed:=CV hp hs d (L++[iI 1 a]++X++[iI 17 ((L++[iI 1 a]).length+X.length+1+(B.length+1):Nat)]++B++[iI 16 0]) ZO.1 jB ZN jB (by simp only[List.length_append,List.length_singleton];omega);rw[show((L++[iI 1 a]++X++[iI 17 ((L++[iI 1 a]).length+X.length+1+(B.length+1):Nat)]++B++[iI 16 0]).length:Int)=L.length+1+X.length+1+B.length+1 by simp only[List.length_append,List.length_singleton];omega]at ed;rw[u',if_pos (show([x,b,d]:TD).length=3 from rfl),show nth [x,b,d] 0=x from rfl,show nth [x,b,d] 1=b from rfl,show nth [x,b,d] 2=d from rfl,t1,t4];generalize hDD:bv (gf p n) (L.length+1+X.length+1+B.length+1) (ak p d).l []=D at*;have hw:=RH (ak p a) x b d (L++[iI 1 a]) X B D L.length jB e16 u' t5 t6 ed;rw[show((L.length:Int)+1+X.length+1+(B.length+1))=(((L++[iI 1 a]).length+X.length+1+(B.length+1):Nat):Int) by rw[l1];omega,show((L.length:Int)+1+X.length+1+B.length+1+D.length)=(((L++[iI 1 a]).length+X.length+1+B.length+1+D.length:Nat):Int) by rw[l1];omega];refine A4 a L _ h0 hl (by simp only[List.length_append,List.length_singleton];omega) (.inl e15) ?_;simp only[List.append_assoc]at hw ⊢;exact hw
structure Fw(c c':Ck):Prop where
 fn:c'.fn=c.fn
 av:∀x∈c'.av,x∈c.av\/x=c.fn
def Fw.refl(c:Ck):Fw c c:=⟨rfl,fun _ h=>.inl h⟩
theorem Fw.trans{a b c:Ck}(h:Fw a b)(k:Fw b c):Fw a c:=⟨k.fn.trans h.fn,fun x hx=>by
 rcases k.av x hx with e|e
 ·exact h.av x e
 ·right;rw[e,h.fn]⟩
def vQ{c c':Ck}(h1:c'.fn=c.fn)(h2:c'.av=c.av):Fw c c':=⟨h1,fun x hx=>by rw[h2]at hx;exact .inl hx⟩
def Je{l:TD}{i:Nat}{x y:Int}(h:x∈l.set i y):x∈l\/x=y:=by
 rcases List.mem_or_eq_of_mem_set h with h|h
 ·exact .inl h
 ·exact .inr h
def pZ(c:Ck)(e a:Int):Fw c (c.aC e a):=by unfold Ck.aC;split<;>exact vQ rfl rfl
def oN(c:Ck)(b:Bool)(a:Int):Fw c (c.ao b a):=by unfold Ck.ao;split;exact .refl _;exact pZ _ _ _
def zg(c:Ck)(a:Int):Fw c (c.named a).1:=by unfold Ck.named;split;exact pZ _ _ _;exact vQ rfl rfl
def Lu(c:Ck)(a t:Int):Fw c (c.note a t):=⟨rfl,fun _ h=>Je h⟩
def Dk(c:Ck)(a:Int):Fw c (c.ai a):=⟨rfl,fun _ h=>Je h⟩
def uj{c x y:Ck}{q:Prop}[Decidable q](h:Fw c x)(k:Fw c y):Fw c (if q then x else y):=by split;exact h;exact k
theorem H9{ex:Ck->Int->Ck×Int}(hx:∀c a,Fw c (ex c a).1):∀(L:TD) (c:Ck) (ts:TD),Fw c (gC ex c L ts).1
 |[],c,ts=>by unfold gC;exact .refl c
 |a::L,c,ts=>by
  unfold gC;split
  ·exact(hx c a).trans (H9 hx L _ _)
  ·exact .refl c
theorem Hm(a:Int):∀(ts:TD) (ps:List bK) (c:Ck),Fw c (iC a c ts ps)
 |[],ps,c=>by rw[tI];exact .refl c
 |_::_,[],c=>by rw[ug];exact .refl c
 |x::ts,p::ps,c=>by
  unfold iC;split
  ·exact(oN _ _ _).trans (Hm a ts ps _)
  ·exact .refl c
variable{ex:Ck->Int->Ck×Int}
def Oi(hx:∀c a,Fw c (ex c a).1)(c:Ck)(a:Int):Fw c (iX ex c a).1:=by
 unfold iX;split
 ·exact pZ _ _ _
 ·simp only;exact((H9 hx _ c _).trans (uj (pZ _ _ _) (.refl _))).trans (Hm _ _ _ _)
def Q7(hx:∀c a,Fw c (ex c a).1)(c:Ck)(a:Int):Fw c (cv ex c a).1:=by
 unfold cv;simp only;split
 ·exact .refl c
 split
 ·exact .refl c
 split
 ·exact .refl c
 split
 ·exact zg _ _
 split
 ·exact Oi hx c a
 split
 ·exact((zg _ _).trans (hx _ _)).trans (oN _ _ _)
 split
 ·exact((hx _ _).trans (hx _ _)).trans (oN _ _ _)
 split
 ·exact(hx _ _).trans (oN _ _ _)
 split
 ·exact(hx _ _).trans (oN _ _ _)
 split
 ·exact(hx _ _).trans (oN _ _ _)
 ·exact(hx _ _).trans (oN _ _ _)
theorem qJ:∀(n:Nat) (c:Ck) (a:Int),Fw c (az n c a).1
 |0,c,a=>by unfold az;exact .refl c
 |n+1,c,a=>by
  unfold az;split
  ·exact .refl c
  ·exact(Q7 (qJ n) c a).trans (Lu _ _ _)
def SJ(hx:∀c a,Fw c (ex c a).1)(c:Ck)(a:Int):Fw c (oW ex c a):=by have hA:Fw c (iF ex c a):=(hx c _).trans (oN _ _ _);have hB:Fw (iF ex c a) (jr ex c a):=uj (pZ _ _ _) (.refl _);have hC:Fw (jr ex c a) (ee ex c a):=uj (pZ _ _ _) (.refl _);rw[uq];exact((hA.trans hB).trans hC).trans (vQ rfl rfl)
def SG(hx:∀c a,Fw c (ex c a).1)(c:Ck)(a:Int):Fw c (kH ex c a):=by
 unfold kH;simp only;split
 ·exact pZ _ _ _
 split
 ·exact(hx _ _).trans (oN _ _ _)
 ·exact .refl c
theorem Af{st:Ck->Int->Ck}(hs:∀c a,Fw c (st c a)):∀(L:TD) (c:Ck),Fw c (dK st c L)
 |[],c=>by unfold dK;exact .refl c
 |a::L,c=>by
  unfold dK;split
  ·exact(hs c a).trans (Af hs L _)
  ·exact .refl c
variable{st:Ck->Int->Ck}
def Ds(hs:∀c a,Fw c (st c a))(c:Ck)(a:Int):Fw c (fi st c a):=by unfold fi;simp only;exact((Dk c a).trans (Af hs _ _)).trans (vQ rfl rfl)
theorem Dh:∀(n:Nat) (c:Ck) (a:Int),Fw c (bP n c a)
 |0,c,a=>by unfold bP;exact .refl c
 |n+1,c,a=>by
  unfold bP;simp only;refine(Dk c a).trans ?_;split
  ·exact SJ (qJ n) _ _
  split
  ·exact((zg _ _).trans (qJ n _ _)).trans (oN _ _ _)
  split
  ·exact(((zg _ _).trans (qJ n _ _)).trans (qJ n _ _)).trans (oN _ _ _)
  split
  ·exact qJ n _ _
  split
  ·exact(qJ n _ _).trans (oN _ _ _)
  split
  ·exact SG (qJ n) _ _
  ·exact((qJ n _ _).trans (oN _ _ _)).trans (Af (fun c a=>Ds (Dh n) c a) _ _)
theorem HC(body:Int):∀(ps:List bK) (c:Ck) (i:Int),Fw c (fw body c ps i)
 |[],c,i=>by unfold fw;exact .refl c
 |p::ps,c,i=>by unfold fw;simp only;have h1:Fw c (if 0<=c.find p.name then c.aC 41 body else c):=uj (pZ c 41 body) (.refl c);generalize (if 0<=c.find p.name then c.aC 41 body else c)=d at*;refine h1.trans ?_;exact Fw.trans (b:={ d with vars:=d.vars++[⟨p.name,p.ty,i⟩],more:=d.more.drop 1,size:=d.size+1 }) (vQ rfl rfl) (HC body ps _ _)
def P3(c:Ck)(k:Nat):∀x∈(gH c k).av,x∈c.av\/x=(k:Int):=by
 have h:Fw { c with fn:=(k:Int),vars:=[],more:=[],size:=0 } (gH c k):=by unfold gH;simp only;exact((HC _ _ _ _).trans (uj (Ds (Dh _) _ _) (.refl _))).trans (vQ rfl rfl)
 exact fun x hx=>h.av x hx
theorem EH:∀(n i:Nat) (c:Ck),∀x∈(gv c i n).av,x∈c.av\/((i:Int)<=x/\x<(i:Int)+n)
 |0,i,c,x,hx=>by unfold gv at hx;exact .inl hx
 |n+1,i,c,x,hx=>by
  unfold gv at hx;split at hx
  ·rcases EH n (i+1) _ x hx with h|h
   ·rcases P3 c i x h with h|h
    ·exact .inl h
    ·right;omega
   ·right;omega
  ·exact .inl hx
theorem Dy(x:bh):∀(l:List bh) (c:Ck),Fw c (kM x c l)
 |[],c=>by unfold kM;exact .refl c
 |f::l,c=>by unfold kM;exact(uj (pZ _ _ _) (.refl _):Fw c (if f.name=x.name then c.aC 41 x.body else c)).trans (Dy x l _)
theorem Bl(av:List bh):∀(n i:Nat) (c:Ck) (m:Bool),Fw c (jZ av c m i n).1
 |0,i,c,m=>by unfold jZ;exact .refl c
 |n+1,i,c,m=>by unfold jZ;exact(Dy _ _ c).trans (Bl av n (i+1) _ _)
def NO(c:Ck):Fw c (iW c):=by unfold iW;simp only;exact uj (Bl _ _ _ _ _) ((Bl _ _ _ _ _).trans (pZ _ _ _))
def L5{t:aG}(ht:aQ t)(he:(ir t).2.2=0)(h1:0<t.av.length):∀x∈(ir t).1.fn,0<=x/\x<t.av.length:=fun x hx=>by
 unfold ir at he hx;split at he
 ·rename_i h;exact(h he).elim
 rename_i h;rw[if_neg h]at hx;have hx:x∈(gv (iW (jw t)) 0 t.av.length).av:=hx;rcases EH t.av.length 0 _ x hx with g|g
 ·rcases(NO (jw t)).av x g with g|g
  ·have g:x∈t.nodes.map fun _=>(0:Int):=g
   obtain⟨_,_,rfl⟩:=List.mem_map.1 g;omega
  ·have g:x=0:=g;omega
 ·omega
variable{s:TF}
def Km(he:(fY s).2.2=0):∀k,k<(fY s).1.aa.nodes.length->0<=nth (fY s).1.fn k/\nth (fY s).1.fn k<(fY s).1.aa.av.length:=by
 have hok:=HQ he;obtain⟨j,hj,_⟩:=(y0 he).names.main;unfold fY at he hok hj ⊢;split at he
 ·rename_i h;exact(h he).elim
 rename_i h;rw[if_neg h]at hok hj ⊢;have h:(gP s).2.2=0:=jB;simp only at he hok hj ⊢;split at he
 ·cases he
 rename_i h2;split at he
 ·rename_i h3;exact(h3 he).elim
 rename_i h3;rw[if_neg h2,if_neg h3]at hok hj ⊢;have ht:=(zS (uY h) jB).2;simp only at hok hj ⊢;rw[ht]at hj ⊢;exact fun k hk=>L5 (uY h) jB jB _ (fh (by rw[hok.fn,ht];exact hk))
structure Ns(c c':Ck):Prop where
 aa:c'.aa=c.aa
 slots:∀k,¬jL (nth c.aa.nodes k).kind->nth c'.slots k=nth c.slots k
def Ns.refl(c:Ck):Ns c c:=⟨rfl,fun _ _=>rfl⟩
theorem Ns.trans{a b c:Ck}(h:Ns a b)(k:Ns b c):Ns a c:=⟨k.aa.trans h.aa,fun j hj=>(k.slots j (by rw[h.aa];exact hj)).trans (h.slots j hj)⟩
def uM{c c':Ck}(h1:c'.aa=c.aa)(h2:c'.slots=c.slots):Ns c c':=⟨h1,fun _ _=>by rw[h2]⟩
def Ei(c:Ck)(a s:Int)(h:jL (c.node a).kind):Ns c (c.slot a s):=⟨rfl,fun k hk=>by
 show nth (c.slots.set a.toNat s) k=_;unfold nth;rw[List.getD_eq_getElem?_getD,List.getElem?_set,List.getD_eq_getElem?_getD];by_cases e:a.toNat=k
 ·subst e;exact(hk h).elim
 ·rw[if_neg e]⟩
def qi(c:Ck)(e a:Int):Ns c (c.aC e a):=by unfold Ck.aC;split<;>exact uM rfl rfl
def oI(c:Ck)(b:Bool)(a:Int):Ns c (c.ao b a):=by unfold Ck.ao;split;exact .refl _;exact qi _ _ _
def yS(c:Ck)(a:Int)(h:jL (c.node a).kind):Ns c (c.named a).1:=by unfold Ck.named;split;exact qi _ _ _;exact Ei c a _ h
def Mv(c:Ck)(a t:Int):Ns c (c.note a t):=⟨rfl,fun _ _=>rfl⟩
def Io(c:Ck)(a:Int):Ns c (c.ai a):=⟨rfl,fun _ _=>rfl⟩
def ui{c x y:Ck}{q:Prop}[Decidable q](h:Ns c x)(k:Ns c y):Ns c (if q then x else y):=by split;exact h;exact k
theorem Im{ex:Ck->Int->Ck×Int}(hx:∀c a,Ns c (ex c a).1):∀(L:TD) (c:Ck) (ts:TD),Ns c (gC ex c L ts).1
 |[],c,ts=>by unfold gC;exact .refl c
 |a::L,c,ts=>by
  unfold gC;split
  ·exact(hx c a).trans (Im hx L _ _)
  ·exact .refl c
theorem Hw(a:Int):∀(ts:TD) (ps:List bK) (c:Ck),Ns c (iC a c ts ps)
 |[],ps,c=>by rw[tI];exact .refl c
 |_::_,[],c=>by rw[ug];exact .refl c
 |x::ts,p::ps,c=>by
  unfold iC;split
  ·exact(oI _ _ _).trans (Hw a ts ps _)
  ·exact .refl c
def Le(hx:∀c a,Ns c (ex c a).1)(c:Ck)(a:Int):Ns c (iX ex c a).1:=by
 unfold iX;split
 ·exact qi _ _ _
 ·simp only;exact((Im hx _ c _).trans (ui (qi _ _ _) (.refl _))).trans (Hw _ _ _ _)
def Pd(hx:∀c a,Ns c (ex c a).1)(c:Ck)(a:Int):Ns c (cv ex c a).1:=by
 unfold cv;simp only;split
 ·exact .refl c
 split
 ·exact .refl c
 split
 ·exact .refl c
 split
 ·rename_i e;exact yS _ _ (.inl e)
 split
 ·exact Le hx c a
 split
 ·rename_i e;exact((yS _ _ (.inr (.inl e))).trans (hx _ _)).trans (oI _ _ _)
 split
 ·exact((hx _ _).trans (hx _ _)).trans (oI _ _ _)
 split
 ·exact(hx _ _).trans (oI _ _ _)
 split
 ·exact(hx _ _).trans (oI _ _ _)
 split
 ·exact(hx _ _).trans (oI _ _ _)
 ·exact(hx _ _).trans (oI _ _ _)
theorem rD:∀(n:Nat) (c:Ck) (a:Int),Ns c (az n c a).1
 |0,c,a=>by unfold az;exact .refl c
 |n+1,c,a=>by
  unfold az;split
  ·exact .refl c
  ·exact(Pd (rD n) c a).trans (Mv _ _ _)
def O2(hx:∀c a,Ns c (ex c a).1)(c:Ck)(a:Int)(hk:jL (c.node a).kind):Ns c (oW ex c a):=by have hA:Ns c (iF ex c a):=(hx c _).trans (oI _ _ _);have hB:Ns (iF ex c a) (jr ex c a):=ui (qi _ _ _) (.refl _);have hC:Ns (jr ex c a) (ee ex c a):=ui (qi _ _ _) (.refl _);rw[uq];have ZP:=(hA.trans hB).trans hC;exact ZP.trans ((Ei (ee ex c a) a _ (by unfold Ck.node;rw[ZP.aa];exact hk)).trans (uM rfl rfl))
def Qb(hx:∀c a,Ns c (ex c a).1)(c:Ck)(a:Int):Ns c (kH ex c a):=by
 unfold kH;simp only;split
 ·exact qi _ _ _
 split
 ·exact(hx _ _).trans (oI _ _ _)
 ·exact .refl c
theorem A9{st:Ck->Int->Ck}(hs:∀c a,Ns c (st c a)):∀(L:TD) (c:Ck),Ns c (dK st c L)
 |[],c=>by unfold dK;exact .refl c
 |a::L,c=>by
  unfold dK;split
  ·exact(hs c a).trans (A9 hs L _)
  ·exact .refl c
def GX(hs:∀c a,Ns c (st c a))(c:Ck)(a:Int):Ns c (fi st c a):=by unfold fi;simp only;exact((Io c a).trans (A9 hs _ _)).trans (uM rfl rfl)
theorem G0:∀(n:Nat) (c:Ck) (a:Int),Ns c (bP n c a)
 |0,c,a=>by unfold bP;exact .refl c
 |n+1,c,a=>by
  unfold bP;simp only;refine(Io c a).trans ?_;split
  ·rename_i e;exact O2 (rD n) _ _ (.inr (.inr (.inl e)))
  split
  ·rename_i e;exact((yS _ _ (.inr (.inr (.inr (.inl e))))).trans (rD n _ _)).trans (oI _ _ _)
  split
  ·rename_i e;exact(((yS _ _ (.inr (.inr (.inr (.inr e))))).trans (rD n _ _)).trans (rD n _ _)).trans (oI _ _ _)
  split
  ·exact rD n _ _
  split
  ·exact(rD n _ _).trans (oI _ _ _)
  split
  ·exact Qb (rD n) _ _
  ·exact((rD n _ _).trans (oI _ _ _)).trans (A9 (fun c a=>GX (G0 n) c a) _ _)
theorem Dq(body:Int):∀(ps:List bK) (c:Ck) (i:Int),Ns c (fw body c ps i)
 |[],c,i=>by unfold fw;exact .refl c
 |p::ps,c,i=>by unfold fw;simp only;have h1:Ns c (if 0<=c.find p.name then c.aC 41 body else c):=ui (qi c 41 body) (.refl c);generalize (if 0<=c.find p.name then c.aC 41 body else c)=d at*;refine h1.trans ?_;exact Ns.trans (b:={ d with vars:=d.vars++[⟨p.name,p.ty,i⟩],more:=d.more.drop 1,size:=d.size+1 }) (uM rfl rfl) (Dq body ps _ _)
def Ll(c:Ck)(k:Nat):Ns c (gH c k):=by
 have h:Ns { c with fn:=(k:Int),vars:=[],more:=[],size:=0 } (gH c k):=by unfold gH;simp only;exact((Dq _ _ _ _).trans (ui (GX (G0 _) _ _) (.refl _))).trans (uM rfl rfl)
 exact Ns.trans (b:={ c with fn:=(k:Int),vars:=[],more:=[],size:=0 }) (uM rfl rfl) h
theorem I1:∀(n i:Nat) (c:Ck),Ns c (gv c i n)
 |0,i,c=>by unfold gv;exact .refl c
 |n+1,i,c=>by
  unfold gv;split
  ·exact(Ll c i).trans (I1 n (i+1) _)
  ·exact .refl c
theorem IZ(x:bh):∀(l:List bh) (c:Ck),Ns c (kM x c l)
 |[],c=>by unfold kM;exact .refl c
 |f::l,c=>by unfold kM;exact(ui (qi _ _ _) (.refl _):Ns c (if f.name=x.name then c.aC 41 x.body else c)).trans (IZ x l _)
theorem CZ(av:List bh):∀(n i:Nat) (c:Ck) (m:Bool),Ns c (jZ av c m i n).1
 |0,i,c,m=>by unfold jZ;exact .refl c
 |n+1,i,c,m=>by unfold jZ;exact(IZ _ _ c).trans (CZ av n (i+1) _ _)
def K6(c:Ck):Ns c (iW c):=by unfold iW;simp only;exact ui (CZ _ _ _ _ _) ((CZ _ _ _ _ _).trans (qi _ _ _))
def JM{t:aG}(he:(ir t).2.2=0):∀k,k<t.nodes.length->¬jL (nth t.nodes k).kind->nth (ir t).1.slots k<=0:=fun k hk hn=>by
 unfold ir at he ⊢;split at he
 ·rename_i h;exact(h he).elim
 rename_i h;rw[if_neg h];have h1:=(K6 (jw t)).trans (I1 t.av.length 0 _);show nth (gv (iW (jw t)) 0 t.av.length).slots k<=0;rw[h1.slots k hn];show nth (t.nodes.map fun _=>(-1:Int)) k<=0;unfold nth;rw[List.getD_eq_getElem?_getD,List.getElem?_map,List.getElem?_eq_getElem hk];show(-1:Int)<=0;omega
def Na{t:List br}{lo hi:Nat}{L:TD}(h:aK t lo L hi):∀k,lo<=k->k<hi->∃j,j<L.length/\k<=(nth L j).toNat/\(if j=0 then lo else(nth L (j-1)).toNat+1)<=k:=by
 induction h with
 |nil=>intro k h1 h2;omega
 |@cons lo c hi L hc h1 h2 i1 i2=>
  intro k TQ Tl;by_cases e:k<=c
  ·exact⟨0,jE,by show k<=(c:Int).toNat;omega,by rw[if_pos rfl];exact TQ⟩
  ·obtain⟨j,g1,g2,g3⟩:=i2 k jB Tl;refine⟨j+1,by simp;omega,g2,?_⟩;rw[jN];by_cases e0:j=0
   ·subst e0;show(c:Int).toNat+1<=k;omega
   ·rw[if_neg e0]at g3;rw[show j+1-1=(j-1)+1 from jB];exact g3
def Sb(h:gk p):∀k,k<p.aa.nodes.length->jL (nth p.aa.nodes k).kind->0<=nth p.slots k:=fun k hk hs=>by
 obtain⟨j,g1,g2,g3⟩:=Na h.ok.aa.chain k (Nat.zero_le _) hk;have g1:j<p.aa.av.length:=by simpa using g1
 have e:∀i,i<p.aa.av.length->nth (p.aa.av.map (·.body)) i=(nth p.aa.av i).body:=fun i hi=>by unfold nth;rw[List.getD_eq_getElem?_getD,List.getElem?_map,List.getD_eq_getElem?_getD,List.getElem?_eq_getElem hi];rfl
 rw[e j g1]at g2;have hf:=h.av j g1;refine(hf.all k ?_ jB hs).1;unfold kS;split at g3
 ·rename_i e0;rw[if_pos e0];exact g3
 ·rename_i e0;rw[if_neg e0];rw[e (j-1) jB]at g3;exact g3
def QS(he:(fY s).2.2=0):∀k,k<(fY s).1.aa.nodes.length->¬jL (nth (fY s).1.aa.nodes k).kind->nth (fY s).1.slots k<=0:=by
 have hok:=HQ he;unfold fY at he hok ⊢;split at he
 ·rename_i h;exact(h he).elim
 rename_i h;rw[if_neg h]at hok ⊢;have h:(gP s).2.2=0:=jB;simp only at he hok ⊢;split at he
 ·cases he
 rename_i h2;split at he
 ·rename_i h3;exact(h3 he).elim
 rename_i h3;rw[if_neg h2,if_neg h3]at hok ⊢;have ht:=(zS (uY h) jB).2;simp only at hok ⊢;rw[ht];exact JM jB
attribute [local go_sem] iI
def Ob(hp:fq p):aB prog 110 [.agg (ci p)] (.agg (xt (cf p))):=by
 have ht:=hp.ok.ok.aa;have hm:=ht.many;have ham:=ht.av;have eV:cf p=eZ p p.aa.av.length:=by unfold cf eZ;rw[List.take_length]
 rw[eV];have U2:=B0 hp.ok;have Vk:=y5 p;rw[z7];refine bM func110 ntmps110 ?_;refine S ?_
 (repeat' (first|refine aq fun K hK=>?_|refine au ?_|(refine hK _ _ ?_;clear hK K)|(refine ap ?_ ?_<;>intro hc<;>try exact jz)|refine aV 2 ?_|refine al 3 ?_|refine al 0 ?_|refine ar ?_|exact jI|(clear hK K)))
 refine jq (dO.gg 1 0 6 219 4 rfl jC rfl rfl) ?_
 (refine S ?_;try exact jI)
 refine jq (dO.nil 5 4 3 (sz:=1) rfl jC (Or.inl rfl)) ?_
 (refine S ?_;try exact jI)
 have Tk:=hK;clear hK;refine eu (S:=Nat) [(4,1),(6,1),(13,17)] (fun k=>k<=p.aa.av.length) (fun k=>[(4,.rs 5 k 1 k),(13,rI k)])
  (fun k=>⟨[],[(2,.var 32 (kg p)),(3,.var 199 [.raw (.slice none 0 0),.raw (.slice none 0 0)]),(0,.var 267 (kg p++[.rs 1 (eZ p k).ins.length 4 (eZ p k).ins.length])),(1,.aF 219 4 ((eZ p k).ins.map dj)),(5,.aF 3 1 ((eZ p k).entry.map eI))]⟩)
  (fun k=>p.aa.av.length-k) 0 jB (eD rfl cH) ?_
 rintro k hk Kr Tg;have Wl:=U2 k hk;have hek:=Vk k hk;by_cases O':k<p.aa.av.length
 ·have hs:=yA p k O';have UI:=oV ht (k:=k) O';have UN:=UI.1;have Vl:=UI.2;have WT:=ht.body _ (fh O');have Zt:=zK ht (mw p) (nth p.aa.av k).body (eZ p k).ins.length jB jB WT;have hcb:=CV hp (wu hp (mw p)) (nth p.aa.av k).body (eZ p k).ins jB jB WT (by show _<=p.aa.nodes.length;omega) (by have:mw p<=300:=hm;omega);change ab _ _ _ _ (fun r l=>r=.aP []/\l=bV p ((eZ p k).ins++qk p (mw p) (nth p.aa.av k).body (eZ p k).ins.length))at hcb
  change (qk p (mw p) (nth p.aa.av k).body (eZ p k).ins.length).length<=1200 at Zt
  have Xa:=iZ p ((eZ p k).ins++qk p (mw p) (nth p.aa.av k).body (eZ p k).ins.length) 22 (nth p.aa.av k).ret (by rw[List.length_append];omega);have e1:(eZ p (k+1)).ins=(eZ p k).ins++qk p (mw p) (nth p.aa.av k).body (eZ p k).ins.length++[iI 22 (nth p.aa.av k).ret]:=by rw[hs];rfl
  have e2:(eZ p (k+1)).entry=(eZ p k).entry++[((eZ p k).ins.length:Int)]:=by rw[hs];rfl
  generalize qk p (mw p) (nth p.aa.av k).body (eZ p k).ins.length=B at*;generalize hC':eZ p (k+1)=C' at*;generalize eZ p k=C at*;generalize hF:nth p.aa.av k=F at*;refine S ?_
  (have W:=jA hF hek;repeat' (first|refine aq fun K hK=>?_|refine au ?_|(refine hK _ _ ?_;clear hK K)|(refine ap ?_ ?_<;>intro hc<;>try exact jz)|refine al 6 ?_|refine cm (hcb) ?_|refine cm (Xa) ?_|refine ar ?_|exact jI|(clear hK K)))
  refine Tg _ _ (pg [6] (k+1) jB (by show p.aa.av.length-(k+1)<p.aa.av.length-k;omega) rfl Sd (by rw[hC',e1,e2];simp only[kg,List.map_append,List.length_append,List.map_cons,List.map_nil,List.length_cons,List.length_nil];rfl) jh)
 ·have e:k=p.aa.av.length:=jB;subst e;generalize eZ p p.aa.av.length=C at*;refine S ?_
  (have W:=hek;repeat' (first|refine aq fun K hK=>?_|refine au ?_|(refine hK _ _ ?_;clear hK K)|(refine ap ?_ ?_<;>intro hc<;>try exact jz)|refine Tk _ _ ?_|refine ar ?_|exact jI|(clear hK K)))
  refine fC [.cell 2 199] ?_;exact bt.agg (ds:=[aM dj 4 C.ins,aM eI 1 C.entry]) (jA (cW.row (enc:=dj) C.ins rfl rfl jE) (jA (cW.row (enc:=eI) C.entry rfl rfl (by simp[hek])) trivial))
def GZ(he:(fY s).2.2=0):fq (fY s).1:=⟨y0 he,QS he,Sb (y0 he)⟩
def NA(f:bh):aB prog 162 [.agg (fX f)] (rB (decide (f.name=(⟨#[109,97,105,110]⟩:TF)))):=by
 refine bM func162 ntmps162 ?_
 (repeat' (first|refine aq fun K hK=>?_|refine au ?_|(refine hK _ _ ?_;clear hK K)|(refine ap ?_ ?_<;>intro hc<;>try exact jz)|refine aV 4 ?_|refine ar ?_|exact jI|(clear hK K)))
 (refine aZ [.tmp 2] ?_;try simp only[go_sem])
def JQ(L:List bh)(k:Nat)(hL:L.length<=1000)(hk:k<L.length)(Th:(nth L k).name=(⟨#[109,97,105,110]⟩:TF))(Vu:∀i,i<k->(nth L i).name≠(⟨#[109,97,105,110]⟩:TF)) :
  aB prog 161 [aM fX 5 L,.raw (.func (.func 162) #[] #[])] (rI k):=by
 refine bM func161 ntmps161 ?_
 (repeat' (first|refine aq fun K hK=>?_|refine au ?_|(refine hK _ _ ?_;clear hK K)|(refine ap ?_ ?_<;>intro hc<;>try exact jz)|refine ar ?_|exact jI|(clear hK K)))
 refine eu (S:=Nat) [(4,2),(8,11)] (fun i=>i<=k) (fun i=>[(8,rI i)]) (fun i=>⟨[],[]⟩) (fun i=>k-i) 0 jB (eD rfl cH) ?_;rintro i hi Kr Tg;have VL:=NA (nth L i);by_cases e:i=k
 ·subst e;rw[decide_eq_true Th]at VL;refine S ?_
  (repeat' (first|refine aq fun K hK=>?_|refine au ?_|(refine hK _ _ ?_;clear hK K)|(refine ap ?_ ?_<;>intro hc<;>try exact jz)|refine cp (VL) ?_|refine ar ?_|exact jI|(clear hK K)))
  (refine aZ [.tmp 4] ?_;try simp only[go_sem])
 ·rw[decide_eq_false (Vu i jB)]at VL;refine S ?_
  (repeat' (first|refine aq fun K hK=>?_|refine au ?_|(refine hK _ _ ?_;clear hK K)|(refine ap ?_ ?_<;>intro hc<;>try exact jz)|refine cp (VL) ?_|refine ar ?_|exact jI|(clear hK K)))
  refine Tg _ _ (eJ (i+1) jB jJ rfl cH)
def SQ(m:Nat)(hL:p.aa.av.length<=1000)(hk:m<p.aa.av.length)(Th:(nth p.aa.av m).name=(⟨#[109,97,105,110]⟩:TF))(Vu:∀i,i<m->(nth p.aa.av i).name≠(⟨#[109,97,105,110]⟩:TF)):aB prog 113 [.agg (ci p)] (rI m):=by
 have VO:=JQ p.aa.av m hL hk Th Vu;rw[z7];refine bM func113 ntmps113 ?_;refine S ?_
 (repeat' (first|refine aq fun K hK=>?_|refine au ?_|(refine hK _ _ ?_;clear hK K)|(refine ap ?_ ?_<;>intro hc<;>try exact jz)|refine aV 2 ?_|refine cp (VO) ?_|refine ar ?_|exact jI|(clear hK K)))
 (refine aZ [.tmp 2] ?_;try simp only[go_sem])
end Go.Proofs.YtjpcgmjaipfgdaaGreatDoor