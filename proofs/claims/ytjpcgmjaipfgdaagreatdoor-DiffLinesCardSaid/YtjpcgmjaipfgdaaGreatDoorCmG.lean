/- Lemmas. No conditions. -/
import Derived.Test.YtjpcgmjaipfgdaaGreatDoorViS
set_option linter.all false
set_option maxHeartbeats 4000000
set_option maxRecDepth 10000
namespace Go.Gd
open Go
def kM(h:UT)(k:Nat):Nat:=(h.take k).flatten.length
def lO(h:UT):UU:=(List.range h.length).map fun k=>((kM h (k+1):Nat):Int)
def wU(h:UT):(lO h).length=h.length:=by simp[lO]
variable{h:UT}{k:Nat}
def uu(hk:k<h.length):kM h (k+1)=kM h k+(nth h k).length:=by unfold kM;rw[List.take_succ,List.getElem?_eq_getElem hk,List.flatten_append,List.length_append,ee hk];simp
def vD(h:UT)(k:Nat):kM h k<=h.flatten.length:=by
 unfold kM;have:h.flatten=(h.take k).flatten++(h.drop k).flatten:=by rw[<-List.flatten_append,List.take_append_drop]
 rw[this,List.length_append];omega
def Ix(hk:k<h.length):nth (lO h) k=(kM h (k+1):Nat):=by rw[ee (by rw[wU];exact hk)];simp[lO]
def Th{i:Nat}(hk:k<h.length)(hi:i<(nth h k).length):nth h.flatten (kM h k+i)=nth (nth h k) i:=by
 have e:h.flatten=(h.take k).flatten++(nth h k++(h.drop (k+1)).flatten):=by rw[ee hk,<-List.flatten_cons,List.getElem_cons_drop,<-List.flatten_append,List.take_append_drop]
 rw[e];unfold kM;unfold nth at hi ⊢;rw[List.getD_eq_getElem?_getD,List.getElem?_append_right jB,Nat.add_sub_cancel_left,List.getElem?_append_left hi,<-List.getD_eq_getElem?_getD]
def QM{i:Nat}(n:Int)(hk:k<h.length)(hi:i<(nth h k).length):(h.set k ((nth h k).set i n)).flatten=h.flatten.set (kM h k+i) n:=by
 have e:h.flatten=(h.take k).flatten++(nth h k++(h.drop (k+1)).flatten):=by rw[ee hk,<-List.flatten_cons,List.getElem_cons_drop,<-List.flatten_append,List.take_append_drop]
 have e2:h.set k ((nth h k).set i n)=h.take k++((nth h k).set i n::h.drop (k+1)):=by rw[List.set_eq_take_append_cons_drop,if_pos hk]
 rw[e2,List.flatten_append,List.flatten_cons,e];unfold kM;rw[List.set_append_right _ _ jB,Nat.add_sub_cancel_left,List.set_append_left _ _ hi]
def RM(l:UU)(hl:l.length=(nth h k).length)(hk:k<h.length):lO (h.set k l)=lO h:=by
 unfold lO;rw[List.length_set];apply List.map_congr_left;intro j _;congr 1
 unfold kM;rw[List.take_set,List.length_flatten,List.length_flatten,List.map_set];congr 1
 apply List.ext_getElem jE;intro i h1 h2;rw[List.getElem_set];split
 ·rename_i e;subst e;rw[List.getElem_map,List.getElem_take,hl,ee hk]
 ·rfl
def gU(h:UT):UR:=[(2,.var 269 [.rs 3 h.flatten.length 1 h.flatten.length,.rs 4 h.length 1 h.length]),(3,.aD 3 1 (h.flatten.map eI)),(4,.aD 3 1 ((lO h).map eI))]
attribute [go_sem] gU
def L0(h:UT)(k:Nat):(h++[List.replicate k 0]).flatten=h.flatten++List.replicate k 0:=jE
def PJ(h:UT)(k:Nat):lO (h++[List.replicate k 0])=lO h++[((h.flatten.length+k:Nat):Int)]:=by
 unfold lO;rw[List.length_append,List.length_singleton,List.range_succ,List.map_append,List.map_singleton];congr 1
 ·apply List.map_congr_left;intro j hj;have hj:j<h.length:=List.mem_range.1 hj;congr 1
  unfold kM;rw[List.take_append_of_le_length jB]
 ·congr 2
  unfold kM;rw[List.take_of_length_le jE];simp
def NZ(k:Nat):(List.replicate k (0:Int)).map eI=List.replicate k [AV.raw (.int .i64 0)]:=by simp[eI]
def kD(p:ah):US:=[aO eF 5 p.aa.nodes,aO fW 5 p.aa.ak,aO eI 1 p.types,aO eI 1 p.slots,aO eI 1 p.fn,aO eI 1 p.size]
def Dy(p:ah):dj p=kD p:=rfl
def bU(p:ah)(L:List ax):UR:=[(0,.var 267 (kD p++[.rs 1 L.length 4 L.length])),(1,.aD 219 4 (L.map df))]
attribute [go_sem] bU kD
def Uy(f:Int->Int->List ax)(k:Int)(L:UU)(i:Nat):(bv f k (L.take i) []).length<=(bv f k L []).length:=by have e:=Cm f (L.take i) (L.drop i) k [];rw[List.take_append_drop]at e;rw[e,wF f (L.drop i)];simp
def TC(f:Int->Int->List ax)(k:Int)(L:UU)(i:Nat)(h:i<L.length):bv f k (L.take (i+1)) []=bv f k (L.take i) []++f (nth L i) (k+(bv f k (L.take i) []).length):=by rw[show L.take (i+1)=L.take i++[nth L i] by rw[List.take_succ,List.getElem?_eq_getElem h,ee h];rfl,Cm];rfl
end Go.Gd
namespace Go.Proofs.YtjpcgmjaipfgdaaGreatDoor
open Go Go.Gd Tryz
def CJ(h:UT)(a:Int)(hl:h.length<=1000)(ha:a<1\/(h.length:Int)<a):ab prog 175 [.pt 2 0 0 0,rI a] (gU h) (fun r l=>r=.raw (.slice none 0 0)/\l=gU h):=by
 have Xp:=wU h;by_cases h1:a<1
 ·refine aK func175 ntmps175 ?_;refine S ?_
  (repeat' (first|refine au fun K hK=>?_|refine aq ?_|(refine hK _ _ ?_;clear hK K)|(refine ar ?_ ?_<;>intro hc<;>try exact jz)|refine av ?_|exact jI|(clear hK K)))
  (refine bL [.tmp 4] ?_ ?_<;>(try simp only[go_sem]))
 ·refine aK func175 ntmps175 ?_;refine S ?_
  (repeat' (first|refine au fun K hK=>?_|refine aq ?_|(refine hK _ _ ?_;clear hK K)|(refine ar ?_ ?_<;>intro hc<;>try exact jz)|refine av ?_|exact jI|(clear hK K)))
  (refine bL [.tmp 4] ?_ ?_<;>(try simp only[go_sem]))
def xj(h:UT)(k:Nat)(a:Int)(ha:a=(k:Int)+1)(hl:h.length<=1000)(hf:h.flatten.length<=1000)(hk:k<h.length):ab prog 175 [.pt 2 0 0 0,rI a] (gU h) (fun r l=>r=.rv 3 h.flatten.length 1 (kM h k) (nth h k).length/\l=gU h):=by
 have Xp:=wU h;have e1:nth (lO h) (a-1).toNat=(kM h k+(nth h k).length:Nat):=by rw[show(a-1).toNat=k from jB,Ix hk,uu hk]
 have e2:=uu hk;have e3:=vD h (k+1);generalize (nth h k).length=c at*;by_cases h1:k=0
 ·have e0:kM h k=0:=by subst h1;rfl
  rw[e0]at e1 e2;rw[e0];refine aK func175 ntmps175 ?_;refine S ?_
  (have W:=jA Xp e1;repeat' (first|refine au fun K hK=>?_|refine aq ?_|(refine hK _ _ ?_;clear hK K)|(refine ar ?_ ?_<;>intro hc<;>try exact jz)|refine av ?_|exact jI|(clear hK K)))
  (refine bL [.tmp 4] ?_ ?_<;>(try simp only[go_sem]))
  rw[Nat.sub_zero]
 ·have e4:nth (lO h) (a-2).toNat=(kM h k:Nat):=by
   have e4:=Ix (h:=h) (k:=k-1) jB;rw[show k-1+1=k from jB]at e4;rw[show(a-2).toNat=k-1 from jB];exact e4
  generalize kM h k=o at*;refine aK func175 ntmps175 ?_;refine S ?_
  (have W:=jA Xp (jA e1 (e4));repeat' (first|refine au fun K hK=>?_|refine aq ?_|(refine hK _ _ ?_;clear hK K)|(refine ar ?_ ?_<;>intro hc<;>try exact jz)|refine av ?_|exact jI|(clear hK K)))
  (refine bL [.tmp 4] ?_ ?_<;>(try simp only[go_sem]))
  rw[Nat.add_sub_cancel_left]
def Tp(h:UT)(a:Int)(hl:h.length<=1000)(hf:h.flatten.length<=1000):ab prog 212 [.pt 2 0 0 0,rI a] (gU h) (fun r l=>r=rI (MV.bc h a).length/\l=gU h):=by
 unfold MV.bc;by_cases e:a<1\/(h.length:Int)<a
 ·have VC:=CJ h a hl e;rw[if_pos e];refine aK func212 ntmps212 ?_;refine S ?_
  (repeat' (first|refine au fun K hK=>?_|refine aq ?_|(refine hK _ _ ?_;clear hK K)|(refine ar ?_ ?_<;>intro hc<;>try exact jz)|refine cm (VC) ?_|refine av ?_|exact jI|(clear hK K)))
  (refine bL [.tmp 4] ?_ ?_<;>(try simp only[go_sem]))
 ·have VC:=xj h (a-1).toNat a jB hl hf jB;rw[if_neg e];refine aK func212 ntmps212 ?_;refine S ?_
  (repeat' (first|refine au fun K hK=>?_|refine aq ?_|(refine hK _ _ ?_;clear hK K)|(refine ar ?_ ?_<;>intro hc<;>try exact jz)|refine cm (VC) ?_|refine av ?_|exact jI|(clear hK K)))
  (refine bL [.tmp 4] ?_ ?_<;>(try simp only[go_sem]))
def Ps(h:UT)(a i:Int)(hl:h.length<=1000)(hf:h.flatten.length<=1000):ab prog 213 [.pt 2 0 0 0,rI a,rI i] (gU h) (fun r l=>r=.aY [rI (if i<0\/((MV.bc h a).length:Int)<=i then 0 else nth (MV.bc h a) i.toNat),rI (if i<0\/((MV.bc h a).length:Int)<=i then 2 else 0)]/\l=gU h):=by
 by_cases e:a<1\/(h.length:Int)<a
 ·have VC:=CJ h a hl e;have e2:MV.bc h a=[]:=by unfold MV.bc;rw[if_pos e]
  have e3:i<0\/(([]:UU).length:Int)<=i:=by simp only[List.length_nil];omega
  rw[e2,if_pos e3,if_pos e3];by_cases h0:i<0
  ·refine aK func213 ntmps213 ?_;refine S ?_
   (repeat' (first|refine au fun K hK=>?_|refine aq ?_|(refine hK _ _ ?_;clear hK K)|(refine ar ?_ ?_<;>intro hc<;>try exact jz)|refine cm (VC) ?_|refine av ?_|exact jI|(clear hK K)))
   (refine bL [.tmp 6,.tmp 7] ?_ ?_<;>(try simp only[go_sem]))
  ·refine aK func213 ntmps213 ?_;refine S ?_
   (repeat' (first|refine au fun K hK=>?_|refine aq ?_|(refine hK _ _ ?_;clear hK K)|(refine ar ?_ ?_<;>intro hc<;>try exact jz)|refine cm (VC) ?_|refine av ?_|exact jI|(clear hK K)))
   (refine bL [.tmp 6,.tmp 7] ?_ ?_<;>(try simp only[go_sem]))
 ·have VC:=xj h (a-1).toNat a jB hl hf jB;have e2:MV.bc h a=nth h (a-1).toNat:=by unfold MV.bc;rw[if_neg e]
  rw[e2];have hk:(a-1).toNat<h.length:=jB;generalize (a-1).toNat=k at*;have Y5:=uu hk;have Vj:=vD h (k+1);by_cases e3:i<0\/((nth h k).length:Int)<=i
  ·rw[if_pos e3,if_pos e3];by_cases h0:i<0
   ·refine aK func213 ntmps213 ?_;refine S ?_
    (repeat' (first|refine au fun K hK=>?_|refine aq ?_|(refine hK _ _ ?_;clear hK K)|(refine ar ?_ ?_<;>intro hc<;>try exact jz)|refine cm (VC) ?_|refine av ?_|exact jI|(clear hK K)))
    (refine bL [.tmp 6,.tmp 7] ?_ ?_<;>(try simp only[go_sem]))
   ·refine aK func213 ntmps213 ?_;refine S ?_
    (repeat' (first|refine au fun K hK=>?_|refine aq ?_|(refine hK _ _ ?_;clear hK K)|(refine ar ?_ ?_<;>intro hc<;>try exact jz)|refine cm (VC) ?_|refine av ?_|exact jI|(clear hK K)))
    (refine bL [.tmp 6,.tmp 7] ?_ ?_<;>(try simp only[go_sem]))
  ·rw[if_neg e3,if_neg e3];have hn:=Th (i:=i.toNat) hk jB;refine aK func213 ntmps213 ?_;refine S ?_
   (have W:=hn;repeat' (first|refine au fun K hK=>?_|refine aq ?_|(refine hK _ _ ?_;clear hK K)|(refine ar ?_ ?_<;>intro hc<;>try exact jz)|refine cm (VC) ?_|refine av ?_|exact jI|(clear hK K)))
   (refine bL [.tmp 6,.tmp 7] ?_ ?_<;>(try simp only[go_sem]))
def Uq(h:UT)(a i n:Int)(hl:h.length<=1000)(hf:h.flatten.length<=1000)(hi:¬(i<0\/((MV.bc h a).length:Int)<=i)):ab prog 214 [.pt 2 0 0 0,rI a,rI i,rI n] (gU h) (fun r l=>r=rI 0/\l=gU (h.set (a-1).toNat ((nth h (a-1).toNat).set i.toNat n))):=by
 have e:¬(a<1\/(h.length:Int)<a):=fun e=>hi (by unfold MV.bc;rw[if_pos e];simp only[List.length_nil];omega)
 have e2:MV.bc h a=nth h (a-1).toNat:=by unfold MV.bc;rw[if_neg e]
 rw[e2]at hi;have VC:=xj h (a-1).toNat a jB hl hf jB;have hk:(a-1).toNat<h.length:=jB;generalize (a-1).toNat=k at*;have Y5:=uu hk;have Vj:=vD h (k+1);have hn:=QM n hk (i:=i.toNat) jB;have hes:=RM (h:=h) (k:=k) ((nth h k).set i.toNat n) (by rw[List.length_set]) hk;have Wm:(h.flatten.set (kM h k+i.toNat) n).length=h.flatten.length:=List.length_set;unfold gU;rw[hn,hes];simp only[List.length_set,List.map_set];refine aK func214 ntmps214 ?_;refine S ?_
 (repeat' (first|refine au fun K hK=>?_|refine aq ?_|(refine hK _ _ ?_;clear hK K)|(refine ar ?_ ?_<;>intro hc<;>try exact jz)|refine cm (VC) ?_|refine av ?_|exact jI|(clear hK K)))
 (refine bL [.tmp 8] ?_ ?_<;>(try simp only[go_sem]))
def PN(h:UT)(a i n:Int)(hl:h.length<=1000)(hf:h.flatten.length<=1000)(hi:i<0\/((MV.bc h a).length:Int)<=i):ab prog 214 [.pt 2 0 0 0,rI a,rI i,rI n] (gU h) (fun r l=>r=rI 2/\l=gU h):=by
 by_cases e:a<1\/(h.length:Int)<a
 ·have VC:=CJ h a hl e;by_cases h0:i<0
  ·refine aK func214 ntmps214 ?_;refine S ?_
   (repeat' (first|refine au fun K hK=>?_|refine aq ?_|(refine hK _ _ ?_;clear hK K)|(refine ar ?_ ?_<;>intro hc<;>try exact jz)|refine cm (VC) ?_|refine av ?_|exact jI|(clear hK K)))
   (refine bL [.tmp 8] ?_ ?_<;>(try simp only[go_sem]))
  ·refine aK func214 ntmps214 ?_;refine S ?_
   (repeat' (first|refine au fun K hK=>?_|refine aq ?_|(refine hK _ _ ?_;clear hK K)|(refine ar ?_ ?_<;>intro hc<;>try exact jz)|refine cm (VC) ?_|refine av ?_|exact jI|(clear hK K)))
   (refine bL [.tmp 8] ?_ ?_<;>(try simp only[go_sem]))
 ·have VC:=xj h (a-1).toNat a jB hl hf jB;have e2:MV.bc h a=nth h (a-1).toNat:=by unfold MV.bc;rw[if_neg e]
  rw[e2]at hi;have hk:(a-1).toNat<h.length:=jB;generalize (a-1).toNat=k at*;have Y5:=uu hk;have Vj:=vD h (k+1);by_cases h0:i<0
  ·refine aK func214 ntmps214 ?_;refine S ?_
   (repeat' (first|refine au fun K hK=>?_|refine aq ?_|(refine hK _ _ ?_;clear hK K)|(refine ar ?_ ?_<;>intro hc<;>try exact jz)|refine cm (VC) ?_|refine av ?_|exact jI|(clear hK K)))
   (refine bL [.tmp 8] ?_ ?_<;>(try simp only[go_sem]))
  ·refine aK func214 ntmps214 ?_;refine S ?_
   (repeat' (first|refine au fun K hK=>?_|refine aq ?_|(refine hK _ _ ?_;clear hK K)|(refine ar ?_ ?_<;>intro hc<;>try exact jz)|refine cm (VC) ?_|refine av ?_|exact jI|(clear hK K)))
   (refine bL [.tmp 8] ?_ ?_<;>(try simp only[go_sem]))
def OY(h:UT)(n:Int)(hn:n<0\/16<n)(hl:h.length<=40)(hf:h.flatten.length<=40):ab prog 216 [.pt 2 0 0 0,rI n] (gU h) (fun r l=>r=.aY [rI 0,rI 7]/\l=gU h):=by
 have Xp:=wU h;refine aK func216 ntmps216 ?_
 (refine S ?_;try exact jI)
 by_cases h0:n<0
 ·(repeat' (first|refine au fun K hK=>?_|refine aq ?_|(refine hK _ _ ?_;clear hK K)|(refine ar ?_ ?_<;>intro hc<;>try exact jz)|refine av ?_|exact jI|(clear hK K)))
  (refine bL [.tmp 4,.tmp 5] ?_ ?_<;>(try simp only[go_sem]))
 ·(repeat' (first|refine au fun K hK=>?_|refine aq ?_|(refine hK _ _ ?_;clear hK K)|(refine ar ?_ ?_<;>intro hc<;>try exact jz)|refine av ?_|exact jI|(clear hK K)))
  (refine bL [.tmp 4,.tmp 5] ?_ ?_<;>(try simp only[go_sem]))
def Lp(h:UT)(n:Int)(hn:0<=n/\n<=16)(hc:40<(h.length:Int)+h.flatten.length+n+1)(hl:h.length<=40)(hf:h.flatten.length<=40):ab prog 216 [.pt 2 0 0 0,rI n] (gU h) (fun r l=>r=.aY [rI 0,rI 4]/\l=gU h):=by
 have Xp:=wU h;refine aK func216 ntmps216 ?_;refine S ?_
 (repeat' (first|refine au fun K hK=>?_|refine aq ?_|(with_reducible refine gR 3 ?_);refine dE 3 (bf 0 16) mixed ?_|(refine hK _ _ ?_;clear hK K)|(refine ar ?_ ?_<;>intro hc<;>try exact jz)|refine av ?_|exact jI|(clear hK K)))
 (refine bL [.tmp 4,.tmp 5] ?_ ?_<;>(try simp only[go_sem]))
def OH(h:UT)(k:Nat)(hn:k<=16)(hc:h.length+h.flatten.length+k+1<=40):ab prog 216 [.pt 2 0 0 0,rI k] (gU h) (fun r l=>r=.aY [rI (h.length+1:Nat),rI 0]/\l=gU (h++[List.replicate k 0])):=by
 have Xp:=wU h;unfold gU;rw[L0,PJ,List.map_append,NZ];refine aK func216 ntmps216 ?_;refine S ?_
 (repeat' (first|refine au fun K hK=>?_|refine aq ?_|(with_reducible refine gR 3 ?_);refine dE 3 (bf 0 16) mixed ?_|(with_reducible refine gR 6 ?_);refine dE 6 (bf 0 15) mixed ?_|(refine hK _ _ ?_;clear hK K)|(refine ar ?_ ?_<;>intro hc<;>try exact jz)|(refine RJ (e:=3) (z0:=.int .i64 0) (css:=h.flatten.map eI) jG ⟨.i64,jG⟩ jG jG rfl (by simp only[go_sem];rfl) (by rw[List.length_map]) (by rw[List.length_map]) (by simp only[go_sem,room,List.length_map];omega) ?_;simp only[List.length_map];try refine S ?_)|refine av ?_|exact jI|(clear hK K)))
 (refine bL [.tmp 4,.tmp 5] ?_ ?_<;>(try simp only[go_sem]))
 simp[eI]
def o5(p:ah)(L:List ax)(a:Int)(h0:0<=a)(h1:a.toNat<p.aa.nodes.length):ab prog 201 [.pt 0 0 0 0,rI a] (bU p L) (fun r l=>r=.agg (eF (ap p a))/\l=bU p L):=by
 unfold ap;refine aK func201 ntmps201 ?_;refine S ?_
 (repeat' (first|refine au fun K hK=>?_|refine aq ?_|(refine hK _ _ ?_;clear hK K)|(refine ar ?_ ?_<;>intro hc<;>try exact jz)|refine al 5 ?_|refine av ?_|exact jI|(clear hK K)))
 (refine bu [.cell 4 116] ?_;try simp only[go_sem])
def ji(p:ah)(L:List ax)(op a:Int)(hL:L.length<=1000000):ab prog 160 [.pt 0 0 0 0,rI op,rI a] (bU p L) (fun r l=>r=rI L.length/\l=bU p (L++[⟨op,a,0,sE⟩])):=by
 refine aK func160 ntmps160 ?_;refine S ?_
 (repeat' (first|refine au fun K hK=>?_|refine aq ?_|(refine hK _ _ ?_;clear hK K)|(refine ar ?_ ?_<;>intro hc<;>try exact jz)|refine av ?_|exact jI|(clear hK K)))
 (refine bu [.tmp 6] ?_;try simp only[go_sem])
 rw[show((L.length+1:Nat):Int)-1=(L.length:Int) from jB]
def BV(p:ah)(L:List ax)(k:Nat)(hk:k<L.length)(hL:L.length<=1000000):ab prog 258 [.pt 0 0 0 0,rI k] (bU p L) (fun r l=>r=.aY []/\l=bU p (L.set k { nth L k with a:=L.length })):=by
 refine aK func258 ntmps258 ?_;refine S ?_
 (repeat' (first|refine au fun K hK=>?_|refine aq ?_|(with_reducible refine gR 0 ?_);refine dE 0 (bf 0 13) mixed ?_|(refine hK _ _ ?_;clear hK K)|(refine ar ?_ ?_<;>intro hc<;>try exact jz)|refine av ?_|exact jI|(clear hK K)))
 (refine bL [] ?_ ?_<;>(try simp only[go_sem]))
def zo(p:ah)(a:Int):List ax:=if(ap p a).kind=1 then[iI 2 (ap p a).n]else if(ap p a).kind=2 then[iI 3 (ap p a).n]else if(ap p a).kind=3 then[⟨4,0,0,(ap p a).name⟩]else if(ap p a).kind=4 then[⟨5,nth p.slots a.toNat,nth p.types a.toNat,sE⟩]else if(ap p a).kind=19 then[iI 14 0]else[]
def Ts(p:ah)(L:List ax)(a:Int)(h0:0<=a)(h2:a.toNat<p.slots.length)(h3:a.toNat<p.types.length)(hL:L.length<=1000000) :
  ab prog 261 [.pt 0 0 0 0,.agg (eF (ap p a)),rI a] (bU p L) (fun r l=>r=.aY []/\l=bU p (L++zo p a)):=by
 unfold zo;have Wh:=ji p L 2 (ap p a).n hL;have Yv:=ji p L 3 (ap p a).n hL;have hp3:=ji p L 14 0 hL;generalize ap p a=nd at*;by_cases k1:nd.kind=1
 ·rw[if_pos k1];refine aK func261 ntmps261 ?_;refine S ?_
  (have W:=k1;repeat' (first|refine au fun K hK=>?_|refine aq ?_|(refine hK _ _ ?_;clear hK K)|(refine ar ?_ ?_<;>intro hc<;>try exact jz)|refine bx 5 ?_|refine cm (Wh) ?_|refine av ?_|exact jI|(clear hK K)))
  (refine bu [] ?_;try simp only[go_sem])
 rw[if_neg k1];have n1:=eq_false k1;by_cases k2:nd.kind=2
 ·rw[if_pos k2];refine aK func261 ntmps261 ?_;refine S ?_
  (have W:=k2;repeat' (first|refine au fun K hK=>?_|refine aq ?_|(refine hK _ _ ?_;clear hK K)|(refine ar ?_ ?_<;>intro hc<;>try exact jz)|refine bx 5 ?_|refine cm (Yv) ?_|refine av ?_|exact jI|(clear hK K)))
  (refine bu [] ?_;try simp only[go_sem])
 rw[if_neg k2];have n2:=eq_false k2;by_cases k3:nd.kind=3
 ·rw[if_pos k3];refine aK func261 ntmps261 ?_;refine S ?_
  (have W:=k3;repeat' (first|refine au fun K hK=>?_|refine aq ?_|(with_reducible refine gR 7 ?_);refine dE 7 (bf 0 13) mixed ?_|(refine hK _ _ ?_;clear hK K)|(refine ar ?_ ?_<;>intro hc<;>try exact jz)|refine bx 5 ?_|refine av ?_|exact jI|(clear hK K)))
  (refine bu [] ?_;try simp only[go_sem])
 rw[if_neg k3];have n3:=eq_false k3;by_cases k4:nd.kind=4
 ·rw[if_pos k4];refine aK func261 ntmps261 ?_;refine S ?_
  (have W:=k4;repeat' (first|refine au fun K hK=>?_|refine aq ?_|(with_reducible refine gR 9 ?_);refine dE 9 (bf 0 27) mixed ?_|(refine hK _ _ ?_;clear hK K)|(refine ar ?_ ?_<;>intro hc<;>try exact jz)|refine bx 5 ?_|refine av ?_|exact jI|(clear hK K)))
  (refine bu [] ?_;try simp only[go_sem])
 rw[if_neg k4];have n4:=eq_false k4;by_cases k5:nd.kind=19
 ·rw[if_pos k5];refine aK func261 ntmps261 ?_;refine S ?_
  (have W:=k5;repeat' (first|refine au fun K hK=>?_|refine aq ?_|(refine hK _ _ ?_;clear hK K)|(refine ar ?_ ?_<;>intro hc<;>try exact jz)|refine bx 5 ?_|refine cm (hp3) ?_|refine av ?_|exact jI|(clear hK K)))
  (refine bu [] ?_;try simp only[go_sem])
 rw[if_neg k5,List.append_nil];have n5:=eq_false k5;refine aK func261 ntmps261 ?_;refine S ?_
 (have W:=jA n1 (jA n2 (jA n3 (jA n4 (n5))));repeat' (first|refine au fun K hK=>?_|refine aq ?_|(refine hK _ _ ?_;clear hK K)|(refine ar ?_ ?_<;>intro hc<;>try exact jz)|refine bx 5 ?_|refine av ?_|exact jI|(clear hK K)))
 (refine bu [] ?_;try simp only[go_sem])
attribute [local go_sem] iI
theorem Cd{p:ah}(ht:aM p.aa):∀(n m:Nat) (a k:Int),0<=a->a.toNat<p.aa.nodes.length->cF (bT p.aa.nodes a)->a.toNat<n->a.toNat<m->bg p n a k=bg p m a k
 |0,m,a,k,_,_,_,hn,_=>by omega
 |n+1,0,a,k,_,_,_,_,hm=>jB
 |n+1,m+1,a,k,h0,hl,hk,hn,hm=>by
  have sh:=(ht.shape a.toNat hl).1;have hb:=(ht.shape a.toNat hl).2.1;have Vn:cF (ap p a).kind:=hk;unfold cF at Vn;have aC:∀x k,x∈(ap p a).l->cF (bT p.aa.nodes x)->bg p n x k=bg p m x k:=fun x k hx Vq=>by have:=hb x hx;exact Cd ht n m x k this.1 jB Vq jB jB
  rw[mB,mB];have VH:(ap p a).kind=1\/(ap p a).kind=2\/(ap p a).kind=3\/(ap p a).kind=4\/((ap p a).kind=5\/(ap p a).kind=6\/(ap p a).kind=7\/(ap p a).kind=8)\/(ap p a).kind=9:=jB;rcases VH with e|e|e|e|e|e
  ·rw[if_pos e,if_pos e]
  ·rw[jN,if_pos e,jN,if_pos e]
  ·rw[jN,jN,if_pos e,jN,jN,if_pos e]
  ·rw[jN,jN,jN,if_pos e,jN,jN,jN,if_pos e]
  ·obtain⟨x,u',hx⟩:=sh.one (by have e:(nth p.aa.nodes a.toNat).kind=5\/(nth p.aa.nodes a.toNat).kind=6\/(nth p.aa.nodes a.toNat).kind=7\/(nth p.aa.nodes a.toNat).kind=8:=e;omega);have u':(ap p a).l=[x]:=u';have Wd:nth (ap p a).l 0=x:=by rw[u'];rfl
   have e1:=aC x k (by rw[u'];simp) hx;rw[Wd,e1];rcases e with e|e|e|e<;>simp only[e,Int.reduceEq,↓reduceIte]
  ·obtain⟨x,y,u',hx,hy⟩:=sh.two (.inl e);have u':(ap p a).l=[x,y]:=u';have Wd:nth (ap p a).l 0=x:=by rw[u'];rfl
   have YV:nth (ap p a).l 1=y:=by rw[u'];rfl
   have e1:=fun k=>aC x k (by rw[u'];simp) hx
   have e2:=fun k=>aC y k (by rw[u'];simp) hy
   rw[Wd,YV];simp only[e,e1,e2,Int.reduceEq,↓reduceIte]
structure je(p:ah):Prop where
 ok:gF p
 neg:∀k,k<p.aa.nodes.length->¬ju (nth p.aa.nodes k).kind->nth p.slots k<=0
 pos:∀k,k<p.aa.nodes.length->ju (nth p.aa.nodes k).kind->0<=nth p.slots k
def BC(p:ah)(n:Nat):Prop:=∀(a:Int) (L:List ax),0<=a->a.toNat<p.aa.nodes.length->fk (bT p.aa.nodes a)->a.toNat<n->¬(1000000<L.length+3000*n)->ab prog 241 [.pt 0 0 0 0,rI a] (bU p L) (fun r l=>r=.aY []/\l=bU p (L++jS p n a L.length))
variable{p:ah}{n:Nat}
def nP{a k:Int}(h:cF (bT p.aa.nodes a)):jS p n a k=bg p n a k:=by have h:cF (ap p a).kind:=h;unfold cF at h;rw[uP,jN,jN,jN]
def MT(hp:je p)(hx:BC p n)(a:Int)(L:List ax)(h0:0<=a)(hl:a.toNat<p.aa.nodes.length)(hk:(ap p a).kind=9)(hn:a.toNat<n+1)(hL:¬(1000000<L.length+3000*(n+1))):ab prog 259 [.pt 0 0 0 0,.agg (eF (ap p a))] (bU p L) (fun r l=>r=.aY []/\l=bU p (L++bg p (n+1) a L.length)):=by
 have ht:=hp.ok.ok.aa;have hb:=(ht.shape a.toNat hl).2.1;obtain⟨x,y,u',Vw,Yw⟩:=(ht.shape a.toNat hl).1.two (.inl hk);have u':(ap p a).l=[x,y]:=u';have Wd:nth (ap p a).l 0=x:=by rw[u'];rfl
 have YV:nth (ap p a).l 1=y:=by rw[u'];rfl
 have bx:=hb x (by show x∈(ap p a).l;rw[u'];simp);have by_:=hb y (by show y∈(ap p a).l;rw[u'];simp);have J':=fun(z:Int) (k:Int) (lo:Nat)=>@mS p ht n z k lo
 obtain⟨lo,T'⟩:=(ht.shape a.toNat hl).2.2;have T':aI p.aa.nodes lo (ap p a).l a.toNat:=T';rw[u']at T';obtain⟨c1,c2,c3,c4,c5,c6⟩:=kV T';obtain⟨d1,d2,d3,d4,d5⟩:=kQ c6;have lx:=fun k=>J' x k lo c1 jB Vw c5
 have ly:=fun k=>J' y k _ d1 jB Yw d5
 have hm:=ht.many;have ex:=hx x L bx.1 jB (.inl Vw) jB jB;rw[nP Vw]at ex;have ey:=fun(M:List ax) (hM:M.length<=L.length+2900)=>hx y M by_.1 jB (.inl Yw) jB jB
 have hL:¬(997000<L.length):=jB;clear hx;rename_i hL0;clear hL0;simp only[nP Yw]at ey;have e9:bg p (n+1) a L.length=(let x:=bg p n x L.length;if lM (ap p a).name=7 then x++bg p n y (L.length+x.length)++[⟨7,0,0,(ap p a).name⟩]else let y:=bg p n y (L.length+x.length+1);x++[iI (lM (ap p a).name) (L.length+x.length+1+y.length)]++y):=by rw[mB];simp only[hk,Wd,YV,Int.reduceEq,↓reduceIte]
 rw[e9];clear e9;generalize hX:bg p n x (L.length:Int)=X at*;have lX:X.length<=1300:=by have:=lx L.length;rw[hX]at this;omega
 have pt:=fun op=>ji p (L++X) op 0 (by simp only[List.length_append];omega)
 have ey1:=ey (L++X) (by simp only[List.length_append];omega);generalize ap p a=nd at*;by_cases k1:nd.name=(⟨#[38,38]⟩:UX)
 ·rw[k1];have hs:lM (⟨#[38,38]⟩:UX)=18:=by unfold lM;rw[if_pos rfl]
  simp only[hs,Int.reduceEq,↓reduceIte];rw[show(L.length:Int)+X.length+1=((L++X++[iI 18 0]).length:Nat) by simp;omega];have ey2:=ey (L++X++[iI 18 0]) (by simp only[List.length_append,List.length_singleton];omega);generalize hY:bg p n y ((L++X++[iI 18 0]).length:Int)=Y at*;have lY:Y.length<=1300:=by have:=ly (L++X++[iI 18 0]).length;rw[hY]at this;omega
  have hh:=BV p (L++X++[iI 18 0]++Y) (L++X).length (by simp only[List.length_append,List.length_singleton];omega) (by simp only[List.length_append,List.length_singleton];omega);rw[show nth (L++X++[iI 18 0]++Y) (L++X).length=iI 18 0 by rw[List.append_assoc];simp[nth]]at hh;have e8:(L++X++[iI 18 0]++Y).set (L++X).length ⟨18,((L++X++[iI 18 0]++Y).length:Nat),0,sE⟩=L++(X++[iI 18 (((L++X++[iI 18 0]).length:Nat)+Y.length)]++Y):=by rw[List.append_assoc,List.set_append_right _ _ jl,Nat.sub_self];simp[iI];omega
  have e8:bU p ((L++X++[iI 18 0]++Y).set (L++X).length { iI 18 0 with a:=((L++X++[iI 18 0]++Y).length:Nat) })=bU p (L++(X++[iI 18 (((L++X++[iI 18 0]).length:Nat)+Y.length)]++Y)):=by rw[<-e8];rfl
  rw[e8,show(L++X).length=L.length+X.length from List.length_append]at hh;clear e8;have YJ:=pt 18;refine aK func259 ntmps259 ?_
  (refine S ?_;try exact jI)
  have d1:(((⟨#[124,124]⟩:UX):UX)=(⟨#[38,38]⟩:UX))=False:=eq_false jC;have k1':(nd.name=(⟨#[38,38]⟩:UX))=True:=eq_true k1
  (have W:=jA k1' (jA u' (d1));repeat' (first|refine au fun K hK=>?_|refine aq ?_|(refine hK _ _ ?_;clear hK K)|(refine ar ?_ ?_<;>intro hc<;>try exact jz)|refine cm (ex) ?_|refine nX 6 ?_|refine tH [] sd ?_|refine tH [(⟨#[38,38]⟩:UX)] sd ?_|refine jb (n:=nd.name) (vs:=[rI 18,rI 19]) [(⟨#[38,38]⟩:UX),(⟨#[124,124]⟩:UX)] (.int .i64 0) (.aY [rI 18,rB true]) sd jG (by unfold jR;rw[if_pos rfl];simp only[iU,k1,↓reduceIte]) ?_|refine cm (YJ) ?_|refine cm (ey2) ?_|refine cm (hh) ?_|refine av ?_|exact jI|(clear hK K)))
  (refine bu [] ?_;try simp only[go_sem])
 by_cases k2:nd.name=(⟨#[124,124]⟩:UX)
 ·rw[k2];have hs:lM (⟨#[124,124]⟩:UX)=19:=by unfold lM;rw[if_neg jC,if_pos rfl]
  simp only[hs,Int.reduceEq,↓reduceIte];rw[show(L.length:Int)+X.length+1=((L++X++[iI 19 0]).length:Nat) by simp;omega];have ey2:=ey (L++X++[iI 19 0]) (by simp only[List.length_append,List.length_singleton];omega);generalize hY:bg p n y ((L++X++[iI 19 0]).length:Int)=Y at*;have lY:Y.length<=1300:=by have:=ly (L++X++[iI 19 0]).length;rw[hY]at this;omega
  have hh:=BV p (L++X++[iI 19 0]++Y) (L++X).length (by simp only[List.length_append,List.length_singleton];omega) (by simp only[List.length_append,List.length_singleton];omega);rw[show nth (L++X++[iI 19 0]++Y) (L++X).length=iI 19 0 by rw[List.append_assoc];simp[nth]]at hh;have e8:(L++X++[iI 19 0]++Y).set (L++X).length ⟨19,((L++X++[iI 19 0]++Y).length:Nat),0,sE⟩=L++(X++[iI 19 (((L++X++[iI 19 0]).length:Nat)+Y.length)]++Y):=by rw[List.append_assoc,List.set_append_right _ _ jl,Nat.sub_self];simp[iI];omega
  have e8:bU p ((L++X++[iI 19 0]++Y).set (L++X).length { iI 19 0 with a:=((L++X++[iI 19 0]++Y).length:Nat) })=bU p (L++(X++[iI 19 (((L++X++[iI 19 0]).length:Nat)+Y.length)]++Y)):=by rw[<-e8];rfl
  rw[e8,show(L++X).length=L.length+X.length from List.length_append]at hh;clear e8;have YJ:=pt 19;refine aK func259 ntmps259 ?_
  (refine S ?_;try exact jI)
  have d1:(((⟨#[124,124]⟩:UX):UX)=(⟨#[38,38]⟩:UX))=False:=eq_false jC;have k2':(nd.name=(⟨#[124,124]⟩:UX))=True:=eq_true k2
  (have W:=jA k2' (jA u' (d1));repeat' (first|refine au fun K hK=>?_|refine aq ?_|(refine hK _ _ ?_;clear hK K)|(refine ar ?_ ?_<;>intro hc<;>try exact jz)|refine cm (ex) ?_|refine nX 6 ?_|refine tH [] sd ?_|refine tH [(⟨#[38,38]⟩:UX)] sd ?_|refine jb (n:=nd.name) (vs:=[rI 18,rI 19]) [(⟨#[38,38]⟩:UX),(⟨#[124,124]⟩:UX)] (.int .i64 0) (.aY [rI 19,rB true]) sd jG (by unfold jR;rw[if_pos rfl];simp only[iU,k2,d1,↓reduceIte]) ?_|refine cm (YJ) ?_|refine cm (ey2) ?_|refine cm (hh) ?_|refine av ?_|exact jI|(clear hK K)))
  (refine bu [] ?_;try simp only[go_sem])
 have n1:=eq_false k1;have n2:=eq_false k2;have hs:lM nd.name=7:=by unfold lM;rw[if_neg k1,if_neg k2]
 simp only[hs,↓reduceIte];rw[show(L.length:Int)+X.length=((L++X).length:Nat) from jE];generalize hY:bg p n y ((L++X).length:Int)=Y at*;have lY:Y.length<=1300:=by have:=ly (L++X).length;rw[hY]at this;omega
 simp only[<-List.append_assoc];refine aK func259 ntmps259 ?_
 (refine S ?_;try exact jI)
 have d1:(((⟨#[124,124]⟩:UX):UX)=(⟨#[38,38]⟩:UX))=False:=eq_false jC
 (have W:=jA n1 (jA n2 (jA u' (d1)));repeat' (first|refine au fun K hK=>?_|refine aq ?_|(with_reducible refine gR 6 ?_);refine dE 6 (bf 0 13) mixed ?_|(refine hK _ _ ?_;clear hK K)|(refine ar ?_ ?_<;>intro hc<;>try exact jz)|refine cm (ex) ?_|refine nX 6 ?_|refine tH [] sd ?_|refine tH [(⟨#[38,38]⟩:UX)] sd ?_|refine jb (n:=nd.name) (vs:=[rI 18,rI 19]) [(⟨#[38,38]⟩:UX),(⟨#[124,124]⟩:UX)] (.int .i64 0) (.aY [rI 0,rB false]) sd jG (by unfold jR;rw[if_pos rfl];simp only[iU,k1,k2,↓reduceIte]) ?_|refine cm (ey1) ?_|refine av ?_|exact jI|(clear hK K)))
 (refine bu [] ?_;try simp only[go_sem])
def AQ(p:ah)(f:FuncId)(hf:aW prog f=true)(g:Int->Int->List ax)(l:UU)(L:List ax)(hl:l.length<=1000)(B:Nat)(hB:¬(B<L.length+(bv g L.length l []).length))
  (hc:∀x∈l,∀M:List ax,¬(B<M.length)->ab prog f [.pt 0 0 0 0,rI x] (bU p M) (fun r l=>r=.aY []/\l=bU p (M++g x M.length))) :
  ab prog 200 [aO eI 1 l,.bd f [.pt 0 0 0 0]] (bU p L) (fun r l'=>r=.aY []/\l'=bU p (L++bv g L.length l [])):=by
 refine aK func200 ntmps200 ?_;generalize hE:bU p (L++bv g L.length l [])=E;refine S ?_
 (repeat' (first|refine au fun K hK=>?_|refine aq ?_|(refine hK _ _ ?_;clear hK K)|(refine ar ?_ ?_<;>intro hc<;>try exact jz)|refine av ?_|exact jI|(clear hK K)))
 refine dw (S:=Nat) [(5,1),(8,8)] (fun k=>k<=l.length) (fun k=>[(8,rI k)]) (fun k=>⟨[0,1],bU p (L++bv g L.length (l.take k) [])⟩) (fun k=>l.length-k) 0 jB (dx (by show _=Hp.mk _ (bU p (L++[]));rw[List.append_nil];rfl) bS) ?_;rintro k hk Kr U8;have Vj:=Uy g L.length l k;by_cases I':k<l.length
 ·have Yf:=hc (nth l k) (cV I') (L++bv g L.length (l.take k) []) (by rw[List.length_append];omega);have hs:=TC g L.length l k I';rw[List.append_assoc,show((L++bv g L.length (l.take k) []).length:Int)=L.length+(bv g L.length (l.take k) []).length by rw[List.length_append];rfl,<-hs]at Yf;generalize hX:bv g L.length (l.take k) []=X at*;generalize hY:bv g L.length (l.take (k+1)) []=Y at*;refine S ?_
  (have W:=hf;repeat' (first|refine au fun K hK=>?_|refine aq ?_|(refine hK _ _ ?_;clear hK K)|(refine ar ?_ ?_<;>intro hc<;>try exact jz)|refine bm Yf ?_|refine av ?_|exact jI|(clear hK K)))
  refine U8 _ _ (dO (k+1) jB jJ (by rw[hY];simp only[bU,kD,List.length_append,List.map_append,List.cons_append,List.nil_append]) bS)
 ·have e:k=l.length:=jB;subst e;rw[List.take_length,hE];refine S ?_
  (repeat' (first|refine au fun K hK=>?_|refine aq ?_|(refine hK _ _ ?_;clear hK K)|(refine ar ?_ ?_<;>intro hc<;>try exact jz)|refine av ?_|exact jI|(clear hK K)))
  (refine bL [] ?_ ?_<;>(try simp only[go_sem]))
def Rf(n:bk)(f:aV):ab prog 273 [.agg (fW f),.pt 4 0 0 0] [(4,.var 116 (eF n))] (fun r l=>r=rB (decide (f.name=n.name))/\l=[(4,.var 116 (eF n))]):=by
 refine aK func273 ntmps273 ?_
 (repeat' (first|refine au fun K hK=>?_|refine aq ?_|(refine hK _ _ ?_;clear hK K)|(refine ar ?_ ?_<;>intro hc<;>try exact jz)|refine bx 5 ?_|refine av ?_|exact jI|(clear hK K)))
 (refine bu [.tmp 3] ?_;try simp only[go_sem])
def Ua(n:bk)(L:List aV)(k:Nat)(hL:L.length<=1000)(hk:k<L.length)(Vh:(nth L k).name=n.name)(WU:∀i,i<k->(nth L i).name≠n.name) :
  ab prog 161 [aO fW 5 L,.eT 273 [.pt 4 0 0 0]] [(4,.var 116 (eF n))] (fun r l=>r=rI k/\l=[(4,.var 116 (eF n))]):=by
 refine aK func161 ntmps161 ?_
 (repeat' (first|refine au fun K hK=>?_|refine aq ?_|(refine hK _ _ ?_;clear hK K)|(refine ar ?_ ?_<;>intro hc<;>try exact jz)|refine av ?_|exact jI|(clear hK K)))
 refine dw (S:=Nat) [(4,2),(8,11)] (fun i=>i<=k) (fun i=>[(8,rI i)]) (fun i=>⟨[4],[(4,.var 116 (eF n))]⟩) (fun i=>k-i) 0 jB (dx rfl bS) ?_;rintro i hi Kr U8;have Xl:=Rf n (nth L i);by_cases e:i=k
 ·subst e;rw[decide_eq_true Vh]at Xl;refine S ?_
  (repeat' (first|refine au fun K hK=>?_|refine aq ?_|(refine hK _ _ ?_;clear hK K)|(refine ar ?_ ?_<;>intro hc<;>try exact jz)|refine cl Xl ?_|refine av ?_|exact jI|(clear hK K)))
  (refine bu [.tmp 4] ?_;try simp only[go_sem])
 ·rw[decide_eq_false (WU i jB)]at Xl;refine S ?_
  (repeat' (first|refine au fun K hK=>?_|refine aq ?_|(refine hK _ _ ?_;clear hK K)|(refine ar ?_ ?_<;>intro hc<;>try exact jz)|refine cl Xl ?_|refine av ?_|exact jI|(clear hK K)))
  refine U8 _ _ (dO (i+1) jB jJ rfl bS)
def Ph(hp:je p)(hx:BC p n)(a:Int)(L:List ax)(h0:0<=a)(hl:a.toNat<p.aa.nodes.length)(hk:(ap p a).kind=21)(hn:a.toNat<n+1)(hL:¬(1000000<L.length+3000*(n+1))):ab prog 260 [.pt 0 0 0 0,.agg (eF (ap p a))] (bU p L) (fun r l=>r=.aY []/\l=bU p (L++cz p n a L.length)):=by
 have ht:=hp.ok.ok.aa;have hbe:=ht.ak;have hm:=ht.many;have hb:=(ht.shape a.toNat hl).2.1;have VD:=(ht.shape a.toNat hl).1.call hk;obtain⟨lo,T'⟩:=(ht.shape a.toNat hl).2.2;have J':=AK ht n (L.length:Int) lo hl hk T';obtain⟨k,hc⟩:=callee hp.ok hl hk;have Yx:=Ua (ap p a) p.aa.ak k jB hc.lt hc.name (fun i hi=>by have:=hp.ok.names.one i k hi hc.lt;rwa [hc.name]at this);have hlc:(cz p n a L.length).length=(bv (bg p n) (L.length:Int) (ap p a).l []).length+1:=by unfold cz;simp
 have WH:=AQ p 241 jD (bg p n) (ap p a).l L (by have:=hc.CF;omega) (1000000-3000*n) jB (fun x Xr M hM=>by have Y6:=hb x Xr;have Vq:=VD x Xr;have:=hx x M Y6.1 jB (.inl Vq) jB jB;rwa [nP Vq]at this)
 have VC:AJ p a=k:=hc.last;unfold cz;rw[VC];have hL:¬(997000<L.length):=jB;rename_i hL0;clear hx hL0;have hbg:=hc.CF;generalize ap p a=nd at*;generalize hX:bv (bg p n) (L.length:Int) nd.l []=X at*;simp only[<-List.append_assoc];refine aK func260 ntmps260 ?_;refine S ?_
 (repeat' (first|refine au fun K hK=>?_|refine aq ?_|(with_reducible refine gR 3 ?_);refine dE 3 (bf 0 15) mixed ?_|(refine hK _ _ ?_;clear hK K)|(refine ar ?_ ?_<;>intro hc<;>try exact jz)|refine cL 4 ?_|refine cm (WH) ?_|refine cm (Yx) ?_|refine av ?_|exact jI|(clear hK K)))
 (refine bu [] ?_;try simp only[go_sem])
attribute [local go_sem] iI
def SZ(a x:Int)(L X:List ax)(op:Int)(h0:0<=a)(hl:a.toNat<p.aa.nodes.length)(hs:a.toNat<p.slots.length)(u':(ap p a).l=[x])(hL:¬(1000000<(L++X).length))
  (hm:jR (ap p a).kind [6,7,8,20,5] [rI 10,rI 8,rI 9,rI 13,rI 11] (.raw (.int .i64 0)) true=.aY [rI op,rB true])
  (ex:ab prog 241 [.pt 0 0 0 0,rI x] (bU p L) (fun r l=>r=.aY []/\l=bU p (L++X))) :
  ab prog 241 [.pt 0 0 0 0,rI a] (bU p L) (fun r l=>r=.aY []/\l=bU p (L++X++[iI op (if nth p.slots a.toNat<0 then 0 else nth p.slots a.toNat)])):=by
 have p':=o5 p L a h0 hl;have YJ:=fun v=>ji p (L++X) op v jB
 generalize ap p a=nd at*;refine aK func241 ntmps241 ?_;refine S ?_
 (have W:=u';repeat' (first|refine au fun K hK=>?_|refine aq ?_|(refine hK _ _ ?_;clear hK K)|(refine ar ?_ ?_<;>intro hc<;>try exact jz)|refine al 5 ?_|refine cm (p') ?_|refine nX 6 ?_|refine gl [] iF ?_|refine gl [6] iF ?_|refine gl [6,7] iF ?_|refine gl [6,7,8] iF ?_|refine gl [6,7,8,20] iF ?_|refine pw (n:=nd.kind) (vs:=[rI 10,rI 8,rI 9,rI 13,rI 11]) [6,7,8,20,5] (.int .i64 0) (.aY [rI op,rB true]) iF jG hm ?_|refine cm (ex) ?_|refine cm (YJ _) ?_|refine av ?_|exact jI|(clear hK K)))
 (refine bu [] ?_;try simp only[go_sem])
def Le(a:Int)(L X:List ax)(h0:0<=a)(hl:a.toNat<p.aa.nodes.length)
  (hm:jR (ap p a).kind [6,7,8,20,5] [rI 10,rI 8,rI 9,rI 13,rI 11] (.raw (.int .i64 0)) true=.aY [rI 0,rB false]) (hk:(ap p a).kind=9)
  (ex:ab prog 259 [.pt 0 0 0 0,.agg (eF (ap p a))] (bU p L) (fun r l=>r=.aY []/\l=bU p (L++X))) :
  ab prog 241 [.pt 0 0 0 0,rI a] (bU p L) (fun r l=>r=.aY []/\l=bU p (L++X)):=by
 have p':=o5 p L a h0 hl;generalize ap p a=nd at*;rw[hk]at hm;refine aK func241 ntmps241 ?_;refine S ?_
 (have W:=hk;repeat' (first|refine au fun K hK=>?_|refine aq ?_|(refine hK _ _ ?_;clear hK K)|(refine ar ?_ ?_<;>intro hc<;>try exact jz)|refine al 5 ?_|refine cm (p') ?_|refine nX 6 ?_|refine gl [] iF ?_|refine gl [6] iF ?_|refine gl [6,7] iF ?_|refine gl [6,7,8] iF ?_|refine gl [6,7,8,20] iF ?_|refine pw (n:=9) (vs:=[rI 10,rI 8,rI 9,rI 13,rI 11]) [6,7,8,20,5] (.int .i64 0) (.aY [rI 0,rB false]) iF jG hm ?_|refine cm (ex) ?_|refine av ?_|exact jI|(clear hK K)))
 (refine bu [] ?_;try simp only[go_sem])
def Me(a:Int)(L X:List ax)(h0:0<=a)(hl:a.toNat<p.aa.nodes.length)
  (hm:jR (ap p a).kind [6,7,8,20,5] [rI 10,rI 8,rI 9,rI 13,rI 11] (.raw (.int .i64 0)) true=.aY [rI 0,rB false]) (hk:(ap p a).kind=21)
  (ex:ab prog 260 [.pt 0 0 0 0,.agg (eF (ap p a))] (bU p L) (fun r l=>r=.aY []/\l=bU p (L++X))) :
  ab prog 241 [.pt 0 0 0 0,rI a] (bU p L) (fun r l=>r=.aY []/\l=bU p (L++X)):=by
 have p':=o5 p L a h0 hl;generalize ap p a=nd at*;rw[hk]at hm;refine aK func241 ntmps241 ?_;refine S ?_
 (have W:=hk;repeat' (first|refine au fun K hK=>?_|refine aq ?_|(refine hK _ _ ?_;clear hK K)|(refine ar ?_ ?_<;>intro hc<;>try exact jz)|refine al 5 ?_|refine cm (p') ?_|refine nX 6 ?_|refine gl [] iF ?_|refine gl [6] iF ?_|refine gl [6,7] iF ?_|refine gl [6,7,8] iF ?_|refine gl [6,7,8,20] iF ?_|refine pw (n:=21) (vs:=[rI 10,rI 8,rI 9,rI 13,rI 11]) [6,7,8,20,5] (.int .i64 0) (.aY [rI 0,rB false]) iF jG hm ?_|refine cm (ex) ?_|refine av ?_|exact jI|(clear hK K)))
 (refine bu [] ?_;try simp only[go_sem])
def PK(a:Int)(L X:List ax)(h0:0<=a)(hl:a.toNat<p.aa.nodes.length)
  (hm:jR (ap p a).kind [6,7,8,20,5] [rI 10,rI 8,rI 9,rI 13,rI 11] (.raw (.int .i64 0)) true=.aY [rI 0,rB false]) (hk:(ap p a).kind≠9) (Va:(ap p a).kind≠21)
  (ex:ab prog 261 [.pt 0 0 0 0,.agg (eF (ap p a)),rI a] (bU p L) (fun r l=>r=.aY []/\l=bU p (L++X))) :
  ab prog 241 [.pt 0 0 0 0,rI a] (bU p L) (fun r l=>r=.aY []/\l=bU p (L++X)):=by
 have p':=o5 p L a h0 hl;generalize ap p a=nd at*;have n1:=eq_false hk;have n2:=eq_false Va;refine aK func241 ntmps241 ?_;refine S ?_
 (have W:=jA n1 n2;repeat' (first|refine au fun K hK=>?_|refine aq ?_|(refine hK _ _ ?_;clear hK K)|(refine ar ?_ ?_<;>intro hc<;>try exact jz)|refine al 5 ?_|refine cm (p') ?_|refine nX 6 ?_|refine gl [] iF ?_|refine gl [6] iF ?_|refine gl [6,7] iF ?_|refine gl [6,7,8] iF ?_|refine gl [6,7,8,20] iF ?_|refine pw (n:=nd.kind) (vs:=[rI 10,rI 8,rI 9,rI 13,rI 11]) [6,7,8,20,5] (.int .i64 0) (.aY [rI 0,rB false]) iF jG hm ?_|refine cm (ex) ?_|refine av ?_|exact jI|(clear hK K)))
 (refine bu [] ?_;try simp only[go_sem])
def Qf(ht:aM p.aa)(n m:Nat)(a k:Int)(hl:a.toNat<p.aa.nodes.length)(hk:(ap p a).kind=21)(hn:a.toNat<=n)(hm:a.toNat<=m):cz p n a k=cz p m a k:=by
 have hb:=(ht.shape a.toNat hl).2.1;have VD:=(ht.shape a.toNat hl).1.call hk;unfold cz;rw[IY (ap p a).l k [] fun x hx j=>by have Y6:=hb x hx;exact Cd ht n m x j Y6.1 jB (VD x hx) jB jB]
theorem GY{p:ah}(hp:je p):∀n,BC p n
 |0=>fun a L h0 hl hk hn hL=>by omega
 |n+1=>fun a L h0 hl hk hn hL=>by
  have hx:=GY hp n;have ht:=hp.ok.ok.aa;have hm:=ht.many;have hb:=(ht.shape a.toNat hl).2.1;have VX:p.slots.length=p.aa.nodes.length:=hp.ok.ok.slots;have XB:p.types.length=p.aa.nodes.length:=hp.ok.ok.types;have sh:=(ht.shape a.toNat hl).1;have Vn:fk (ap p a).kind:=hk;unfold fk cF at Vn;have aC:∀x k,x∈(ap p a).l->cF (bT p.aa.nodes x)->bg p (n+1) x k=bg p n x k:=fun x k hx Vq=>by have:=hb x hx;exact Cd ht (n+1) n x k this.1 jB Vq jB jB
  by_cases e21:(ap p a).kind=21
  ·have h1:=Ph hp hx a L h0 hl e21 hn jB;rw[show jS p (n+1) a L.length=cz p n a L.length by rw[uP,jN,jN,if_pos e21];exact Qf ht _ _ a _ hl e21 jB jB];exact Me a L _ h0 hl (by rw[e21];rfl) e21 h1
  by_cases e9:(ap p a).kind=9
  ·have h1:=MT hp hx a L h0 hl e9 hn jB;rw[nP (show cF _ by unfold cF;show 1<=(ap p a).kind/\(ap p a).kind<=9;omega)];exact Le a L _ h0 hl (by rw[e9];rfl) e9 h1
  have XC:∀op k,(ap p a).kind=k->(k=5\/k=6\/k=7\/k=8\/k=20)->jR k [6,7,8,20,5] [rI 10,rI 8,rI 9,rI 13,rI 11] (.raw (.int .i64 0)) true=.aY [rI op,rB true]->∃x X,(ap p a).l=[x]/\bg p n x L.length=X/\bg p (n+1) x L.length=X/\
    ab prog 241 [.pt 0 0 0 0,rI a] (bU p L) (fun r l=>r=.aY []/\l=bU p (L++(X++[iI op (if nth p.slots a.toNat<0 then 0 else nth p.slots a.toNat)]))):=fun op k e hk5 hm5=>by
   obtain⟨x,u',Vw⟩:=sh.one (by have e:(nth p.aa.nodes a.toNat).kind=k:=e;omega);have u':(ap p a).l=[x]:=u';have Y6:=hb x (by show x∈(ap p a).l;rw[u'];simp);obtain⟨lo,T'⟩:=(ht.shape a.toNat hl).2.2;have T':aI p.aa.nodes lo (ap p a).l a.toNat:=T';rw[u']at T';obtain⟨d1,d2,d3,d4,d5⟩:=kQ T';have lx:=mS ht n x L.length lo d1 jB Vw d5;have ex:=hx x L Y6.1 jB (.inl Vw) jB jB;rw[nP Vw]at ex;refine⟨x,bg p n x L.length,u',rfl,aC x _ (by rw[u'];simp) Vw,?_⟩;rw[<-List.append_assoc];exact SZ a x L _ op h0 hl jB u' (by rw[List.length_append];omega) (by rw[e];exact hm5) ex
  have neg:(ap p a).kind=6\/(ap p a).kind=7\/(ap p a).kind=8\/(ap p a).kind=20->(if nth p.slots a.toNat<0 then 0 else nth p.slots a.toNat)=0:=fun e=>by have:=hp.neg a.toNat hl (by unfold ju;have e:(nth p.aa.nodes a.toNat).kind=6\/(nth p.aa.nodes a.toNat).kind=7\/(nth p.aa.nodes a.toNat).kind=8\/(nth p.aa.nodes a.toNat).kind=20:=e;omega);split<;>omega
  by_cases e5:(ap p a).kind=5
  ·obtain⟨x,X,h1,h2,Zx,h3⟩:=XC 11 5 e5 jB rfl;have hps:=hp.pos a.toNat hl (by unfold ju;have e:(nth p.aa.nodes a.toNat).kind=5:=e5;omega);rw[jN]at h3;rw[nP (show cF _ by unfold cF;show 1<=(ap p a).kind/\(ap p a).kind<=9;omega),mB];simp only[e5,h1,Int.reduceEq,↓reduceIte];rw[show nth [x] 0=x from rfl,h2];exact h3
  by_cases e6:(ap p a).kind=6
  ·obtain⟨x,X,h1,h2,Zx,h3⟩:=XC 10 6 e6 jB rfl;rw[neg jB]at h3;rw[nP (show cF _ by unfold cF;show 1<=(ap p a).kind/\(ap p a).kind<=9;omega),mB];simp only[e6,h1,Int.reduceEq,↓reduceIte];rw[show nth [x] 0=x from rfl,h2];exact h3
  by_cases e7:(ap p a).kind=7
  ·obtain⟨x,X,h1,h2,Zx,h3⟩:=XC 8 7 e7 jB rfl;rw[neg jB]at h3;rw[nP (show cF _ by unfold cF;show 1<=(ap p a).kind/\(ap p a).kind<=9;omega),mB];simp only[e7,h1,Int.reduceEq,↓reduceIte];rw[show nth [x] 0=x from rfl,h2];exact h3
  by_cases e8:(ap p a).kind=8
  ·obtain⟨x,X,h1,h2,Zx,h3⟩:=XC 9 8 e8 jB rfl;rw[neg jB]at h3;rw[nP (show cF _ by unfold cF;show 1<=(ap p a).kind/\(ap p a).kind<=9;omega),mB];simp only[e8,h1,Int.reduceEq,↓reduceIte];rw[show nth [x] 0=x from rfl,h2];exact h3
  by_cases e20:(ap p a).kind=20
  ·obtain⟨x,X,h1,h2,Zx,h3⟩:=XC 13 20 e20 jB rfl;rw[neg jB]at h3;rw[uP];simp only[e20,h1,Int.reduceEq,↓reduceIte];rw[show nth [x] 0=x from rfl,Zx];exact h3
  have hlf:=Ts p L a h0 jB jB jB;rw[show jS p (n+1) a L.length=zo p a by unfold zo;have VH:(ap p a).kind=1\/(ap p a).kind=2\/(ap p a).kind=3\/(ap p a).kind=4\/(ap p a).kind=19:=jB;rcases VH with e|e|e|e|e<;>(rw[uP,mB p n a];simp only[e,Int.reduceEq,↓reduceIte])]
  exact PK a L _ h0 hl (by have VH:(ap p a).kind=1\/(ap p a).kind=2\/(ap p a).kind=3\/(ap p a).kind=4\/(ap p a).kind=19:=jB;rcases VH with e|e|e|e|e<;>(rw[e];rfl)) e9 e21 hlf
attribute [local go_sem] iI
def J0(p:ah)(n:Nat):Prop:=∀(a:Int) (L:List ax),0<=a->a.toNat<p.aa.nodes.length->fu (bT p.aa.nodes a)->a.toNat<n->¬(1000000<L.length+3000*n)->ab prog 202 [.pt 0 0 0 0,rI a] (bU p L) (fun r l=>r=.aY []/\l=bU p (L++gj p n a L.length))
def GX(ht:aM p.aa)(n:Nat)(b:Int)(k:Int)(lo:Nat)(b0:0<=b)(b1:b.toNat<p.aa.nodes.length)(b2:bT p.aa.nodes b=18)(b3:aI p.aa.nodes lo (ap p b).l b.toNat):(bv (gj p n) k (ap p b).l []).length+4*lo<=4*b.toNat:=
 xv (f:=gj p n) (ap p b).l k lo b.toNat b3 fun x hx k lo Yf=>by have hb:=(ht.shape b.toNat b1).2.1 x hx;exact Bp ht n x k lo hb.1 jB ((ht.shape b.toNat b1).1.block b2 x hx) Yf
def Ay(ht:aM p.aa)(n:Nat)(b:Int)(k:Int)(b0:0<=b)(b1:b.toNat<p.aa.nodes.length)(b2:bT p.aa.nodes b=18):(bv (gj p n) k (ap p b).l []).length<=1200:=by obtain⟨lo,b3⟩:=(ht.shape b.toNat b1).2.2;have hm:=ht.many;have:=GX ht n b k lo b0 b1 b2 b3;omega
def C8(hp:je p)(hs:J0 p n)(b:Int)(L:List ax)(h0:0<=b)(hl:b.toNat<p.aa.nodes.length)(hk:bT p.aa.nodes b=18)(hn:b.toNat<=n)(hL:¬(998700<L.length+3000*n)) :
  ab prog 159 [.pt 0 0 0 0,rI b] (bU p L) (fun r l=>r=.aY []/\l=bU p (L++bv (gj p n) L.length (ap p b).l [])):=by
 have ht:=hp.ok.ok.aa;have hm:=ht.many;have hb:=(ht.shape b.toNat hl).2.1;have VD:=(ht.shape b.toNat hl).1.block hk;have J':=Ay ht n b L.length h0 hl hk;obtain⟨lo,T'⟩:=(ht.shape b.toNat hl).2.2;have U9:lo+(ap p b).l.length<=b.toNat:=Db T';have p':=o5 p L b h0 hl;have WH:=AQ p 202 jD (gj p n) (ap p b).l L jB (1000000-3000*n) jB (fun x Xr M hM=>by have Y6:=hb x Xr;exact hs x M Y6.1 jB (VD x Xr) jB jB)
 clear hs;generalize ap p b=nd at*;generalize hX:bv (gj p n) L.length nd.l []=X at*;refine aK func159 ntmps159 ?_;refine S ?_
 (repeat' (first|refine au fun K hK=>?_|refine aq ?_|(refine hK _ _ ?_;clear hK K)|(refine ar ?_ ?_<;>intro hc<;>try exact jz)|refine cm (p') ?_|refine cm (WH) ?_|refine av ?_|exact jI|(clear hK K)))
 (refine bu [] ?_;try simp only[go_sem])
def Qn(L X Y:List ax)(op v:Int)(k:Nat)(hk:k=L.length+X.length):(L++X++[iI op 0]++Y).set k { iI op 0 with a:=v }=L++X++[iI op v]++Y:=by subst hk;rw[List.append_assoc (L++X),List.set_append_right _ _ jE];simp[iI]
def TP(L X Y:List ax)(x:ax)(k:Nat)(hk:k=L.length+X.length):nth (L++X++[x]++Y) k=x:=by subst hk;rw[List.append_assoc (L++X)];simp[nth]
def yI(p:ah)(L X Y:List ax)(op:Int)(k:Nat)(hk:k=L.length+X.length)(hL:¬(1000000<L.length+X.length+1+Y.length)) :
  ab prog 258 [.pt 0 0 0 0,rI k] (bU p (L++X++[iI op 0]++Y)) (fun r l=>r=.aY []/\l=bU p (L++X++[iI op (L.length+X.length+1+Y.length:Nat)]++Y)):=by
 have h:=BV p (L++X++[iI op 0]++Y) k (by simp only[List.length_append,List.length_singleton];omega) (by simp only[List.length_append,List.length_singleton];omega);rw[TP L X Y _ k hk,Qn L X Y op _ k hk]at h;rwa [show(L++X++[iI op 0]++Y).length=L.length+X.length+1+Y.length by simp only[List.length_append,List.length_singleton]]at h
def Pv(nd:bk)(x b:Int)(L X B:List ax)(mark:Int)(hL:¬(999700<L.length+X.length+B.length))(hk:nd.kind=16)(u':nd.l=[x,b])
  (ex:ab prog 241 [.pt 0 0 0 0,rI x] (bU p L) (fun r l=>r=.aY []/\l=bU p (L++X)))
  (eb:ab prog 159 [.pt 0 0 0 0,rI b] (bU p (L++X++[iI 17 0])) (fun r l=>r=.aY []/\l=bU p (L++X++[iI 17 0]++B))) :
  ab prog 240 [.pt 0 0 0 0,.agg (eF nd),rI mark] (bU p L) (fun r l=>r=.aY []/\l=bU p (L++X++[iI 17 (L.length+X.length+1+(B.length+1):Nat)]++(B++[iI 16 mark]))):=by
 have h1:=ji p (L++X) 17 0 (by simp only[List.length_append];omega);have h2:=ji p (L++X++[iI 17 0]++B) 16 mark (by simp only[List.length_append,List.length_singleton];omega);have h3:=yI p L X (B++[iI 16 mark]) 17 (L.length+X.length) rfl (by simp only[List.length_append,List.length_singleton];omega);rw[show(B++[iI 16 mark]).length=B.length+1 from jE]at h3;simp only[<-List.append_assoc]at h3 ⊢;refine aK func240 ntmps240 ?_;refine S ?_
 (have W:=jA hk u';repeat' (first|refine au fun K hK=>?_|refine aq ?_|(refine hK _ _ ?_;clear hK K)|(refine ar ?_ ?_<;>intro hc<;>try exact jz)|refine bx 5 ?_|refine cm (ex) ?_|refine cm (h1) ?_|refine cm (eb) ?_|refine cm (h2) ?_|refine cm (h3) ?_|refine av ?_|exact jI|(clear hK K)))
 (refine bu [] ?_;try simp only[go_sem])
def MX(nd:bk)(x b:Int)(L X B:List ax)(mark:Int)(hL:¬(999700<L.length+X.length+B.length))(hk:nd.kind≠16)(u':nd.l=[x,b])
  (ex:ab prog 241 [.pt 0 0 0 0,rI x] (bU p L) (fun r l=>r=.aY []/\l=bU p (L++X)))
  (eb:ab prog 159 [.pt 0 0 0 0,rI b] (bU p (L++X++[iI 17 0])) (fun r l=>r=.aY []/\l=bU p (L++X++[iI 17 0]++B))) :
  ab prog 240 [.pt 0 0 0 0,.agg (eF nd),rI mark] (bU p L) (fun r l=>r=.aY []/\l=bU p (L++X++[iI 17 (L.length+X.length+1+B.length:Nat)]++B)):=by
 have h1:=ji p (L++X) 17 0 (by simp only[List.length_append];omega);have h3:=yI p L X B 17 (L.length+X.length) rfl jB;have n1:=eq_false hk;refine aK func240 ntmps240 ?_;refine S ?_
 (have W:=jA n1 u';repeat' (first|refine au fun K hK=>?_|refine aq ?_|(refine hK _ _ ?_;clear hK K)|(refine ar ?_ ?_<;>intro hc<;>try exact jz)|refine bx 5 ?_|refine cm (ex) ?_|refine cm (h1) ?_|refine cm (eb) ?_|refine cm (h3) ?_|refine av ?_|exact jI|(clear hK K)))
 (refine bu [] ?_;try simp only[go_sem])
def O0(nd:bk)(x b d:Int)(L X B D:List ax)(mark:Int)(hL:¬(999700<L.length+X.length+B.length+D.length))(hk:nd.kind≠16)(u':nd.l=[x,b,d])
  (ex:ab prog 241 [.pt 0 0 0 0,rI x] (bU p L) (fun r l=>r=.aY []/\l=bU p (L++X)))
  (eb:ab prog 159 [.pt 0 0 0 0,rI b] (bU p (L++X++[iI 17 0])) (fun r l=>r=.aY []/\l=bU p (L++X++[iI 17 0]++B)))
  (ed:ab prog 159 [.pt 0 0 0 0,rI d] (bU p (L++X++[iI 17 (L.length+X.length+1+(B.length+1):Nat)]++B++[iI 16 0])) (fun r l=>r=.aY []/\l=bU p (L++X++[iI 17 (L.length+X.length+1+(B.length+1):Nat)]++B++[iI 16 0]++D))) :
  ab prog 240 [.pt 0 0 0 0,.agg (eF nd),rI mark] (bU p L) (fun r l=>r=.aY []/\l=bU p (L++X++[iI 17 (L.length+X.length+1+(B.length+1):Nat)]++(B++[iI 16 (L.length+X.length+1+B.length+1+D.length:Nat)])++D)):=by
 have h1:=ji p (L++X) 17 0 (by simp only[List.length_append];omega);have h2:=ji p (L++X++[iI 17 0]++B) 16 0 (by simp only[List.length_append,List.length_singleton];omega);have h3:=yI p L X (B++[iI 16 0]) 17 (L.length+X.length) rfl (by simp only[List.length_append,List.length_singleton];omega);rw[show(B++[iI 16 0]).length=B.length+1 from jE]at h3;have h4:=yI p (L++X++[iI 17 (L.length+X.length+1+(B.length+1):Nat)]) B D 16 (L.length+X.length+1+B.length) (by simp only[List.length_append,List.length_singleton]) (by simp only[List.length_append,List.length_singleton];omega);rw[show(L++X++[iI 17 (L.length+X.length+1+(B.length+1):Nat)]).length=L.length+X.length+1 by simp only[List.length_append,List.length_singleton]]at h4;simp only[<-List.append_assoc]at h3 h4 ⊢;have n1:=eq_false hk;refine aK func240 ntmps240 ?_;refine S ?_
 (have W:=jA n1 u';repeat' (first|refine au fun K hK=>?_|refine aq ?_|(refine hK _ _ ?_;clear hK K)|(refine ar ?_ ?_<;>intro hc<;>try exact jz)|refine bx 5 ?_|refine cm (ex) ?_|refine cm (h1) ?_|refine cm (eb) ?_|refine cm (h2) ?_|refine cm (h3) ?_|refine cm (ed) ?_|refine cm (h4) ?_|refine av ?_|exact jI|(clear hK K)))
 (refine bu [] ?_;try simp only[go_sem])
attribute [local go_sem] iI
def Nn(a:Int)(L Y:List ax)(h0:0<=a)(hl:a.toNat<p.aa.nodes.length)(hs:a.toNat<p.slots.length)(hL:¬(999900<L.length+Y.length))(hk:(ap p a).kind=10)
  (WH:ab prog 200 [aO eI 1 (ap p a).l,.bd 241 [.pt 0 0 0 0]] (bU p (L++[iI 1 a])) (fun r l=>r=.aY []/\l=bU p (L++[iI 1 a]++Y))) :
  ab prog 202 [.pt 0 0 0 0,rI a] (bU p L) (fun r l=>r=.aY []/\l=bU p (L++[iI 1 a]++Y++[iI 6 (nth p.slots a.toNat)])):=by
 have p':=o5 p L a h0 hl;have h1:=ji p L 1 a jB;have h2:=ji p (L++[iI 1 a]++Y) 6 (nth p.slots a.toNat) (by simp only[List.length_append,List.length_singleton];omega);generalize ap p a=nd at*;refine aK func202 ntmps202 ?_;refine S ?_
 (have W:=hk;repeat' (first|refine au fun K hK=>?_|refine aq ?_|(refine hK _ _ ?_;clear hK K)|(refine ar ?_ ?_<;>intro hc<;>try exact jz)|refine al 5 ?_|refine cm (p') ?_|refine cm (h1) ?_|refine cm (WH) ?_|refine cm (h2) ?_|refine av ?_|exact jI|(clear hK K)))
 (refine bu [] ?_;try simp only[go_sem])
def S2(a:Int)(L Y:List ax)(h0:0<=a)(hl:a.toNat<p.aa.nodes.length)(hs:a.toNat<p.slots.length)(hL:¬(999900<L.length+Y.length))(hk:(ap p a).kind=11)
  (WH:ab prog 200 [aO eI 1 (ap p a).l,.bd 241 [.pt 0 0 0 0]] (bU p (L++[iI 1 a])) (fun r l=>r=.aY []/\l=bU p (L++[iI 1 a]++Y))) :
  ab prog 202 [.pt 0 0 0 0,rI a] (bU p L) (fun r l=>r=.aY []/\l=bU p (L++[iI 1 a]++Y++[iI 6 (nth p.slots a.toNat)])):=by
 have p':=o5 p L a h0 hl;have h1:=ji p L 1 a jB;have h2:=ji p (L++[iI 1 a]++Y) 6 (nth p.slots a.toNat) (by simp only[List.length_append,List.length_singleton];omega);generalize ap p a=nd at*;refine aK func202 ntmps202 ?_;refine S ?_
 (have W:=hk;repeat' (first|refine au fun K hK=>?_|refine aq ?_|(refine hK _ _ ?_;clear hK K)|(refine ar ?_ ?_<;>intro hc<;>try exact jz)|refine al 5 ?_|refine cm (p') ?_|refine cm (h1) ?_|refine cm (WH) ?_|refine cm (h2) ?_|refine av ?_|exact jI|(clear hK K)))
 (refine bu [] ?_;try simp only[go_sem])
def Tu(a:Int)(L Y:List ax)(h0:0<=a)(hl:a.toNat<p.aa.nodes.length)(hs:a.toNat<p.slots.length)(hL:¬(999900<L.length+Y.length))(hk:(ap p a).kind=12)
  (WH:ab prog 200 [aO eI 1 (ap p a).l,.bd 241 [.pt 0 0 0 0]] (bU p (L++[iI 1 a])) (fun r l=>r=.aY []/\l=bU p (L++[iI 1 a]++Y))) :
  ab prog 202 [.pt 0 0 0 0,rI a] (bU p L) (fun r l=>r=.aY []/\l=bU p (L++[iI 1 a]++Y++[iI 12 (nth p.slots a.toNat)])):=by
 have p':=o5 p L a h0 hl;have h1:=ji p L 1 a jB;have h2:=ji p (L++[iI 1 a]++Y) 12 (nth p.slots a.toNat) (by simp only[List.length_append,List.length_singleton];omega);generalize ap p a=nd at*;refine aK func202 ntmps202 ?_;refine S ?_
 (have W:=hk;repeat' (first|refine au fun K hK=>?_|refine aq ?_|(refine hK _ _ ?_;clear hK K)|(refine ar ?_ ?_<;>intro hc<;>try exact jz)|refine al 5 ?_|refine cm (p') ?_|refine cm (h1) ?_|refine cm (WH) ?_|refine cm (h2) ?_|refine av ?_|exact jI|(clear hK K)))
 (refine bu [] ?_;try simp only[go_sem])
def QX(a:Int)(L Y:List ax)(h0:0<=a)(hl:a.toNat<p.aa.nodes.length)(hs:a.toNat<p.slots.length)(hL:¬(999900<L.length+Y.length))(hk:(ap p a).kind=13)
  (WH:ab prog 200 [aO eI 1 (ap p a).l,.bd 241 [.pt 0 0 0 0]] (bU p (L++[iI 1 a])) (fun r l=>r=.aY []/\l=bU p (L++[iI 1 a]++Y))) :
  ab prog 202 [.pt 0 0 0 0,rI a] (bU p L) (fun r l=>r=.aY []/\l=bU p (L++[iI 1 a]++Y++[iI 23 (0)])):=by
 have p':=o5 p L a h0 hl;have h1:=ji p L 1 a jB;have h2:=ji p (L++[iI 1 a]++Y) 23 (0) (by simp only[List.length_append,List.length_singleton];omega);generalize ap p a=nd at*;refine aK func202 ntmps202 ?_;refine S ?_
 (have W:=hk;repeat' (first|refine au fun K hK=>?_|refine aq ?_|(refine hK _ _ ?_;clear hK K)|(refine ar ?_ ?_<;>intro hc<;>try exact jz)|refine al 5 ?_|refine cm (p') ?_|refine cm (h1) ?_|refine cm (WH) ?_|refine cm (h2) ?_|refine av ?_|exact jI|(clear hK K)))
 (refine bu [] ?_;try simp only[go_sem])
def TE(a:Int)(L Y:List ax)(h0:0<=a)(hl:a.toNat<p.aa.nodes.length)(hs:a.toNat<p.slots.length)(hL:¬(999900<L.length+Y.length))(hk:(ap p a).kind=14)
  (WH:ab prog 200 [aO eI 1 (ap p a).l,.bd 241 [.pt 0 0 0 0]] (bU p (L++[iI 1 a])) (fun r l=>r=.aY []/\l=bU p (L++[iI 1 a]++Y))) :
  ab prog 202 [.pt 0 0 0 0,rI a] (bU p L) (fun r l=>r=.aY []/\l=bU p (L++[iI 1 a]++Y++[iI 15 (0)])):=by
 have p':=o5 p L a h0 hl;have h1:=ji p L 1 a jB;have h2:=ji p (L++[iI 1 a]++Y) 15 (0) (by simp only[List.length_append,List.length_singleton];omega);generalize ap p a=nd at*;refine aK func202 ntmps202 ?_;refine S ?_
 (have W:=hk;repeat' (first|refine au fun K hK=>?_|refine aq ?_|(refine hK _ _ ?_;clear hK K)|(refine ar ?_ ?_<;>intro hc<;>try exact jz)|refine al 5 ?_|refine cm (p') ?_|refine cm (h1) ?_|refine cm (WH) ?_|refine cm (h2) ?_|refine av ?_|exact jI|(clear hK K)))
 (refine bu [] ?_;try simp only[go_sem])
def Of(a:Int)(L Y:List ax)(h0:0<=a)(hl:a.toNat<p.aa.nodes.length)(hs:a.toNat<p.slots.length)(hL:¬(999900<L.length+Y.length))(hk:(ap p a).kind=17)(W0:(ap p a).l=[])
  (WH:ab prog 200 [aO eI 1 (ap p a).l,.bd 241 [.pt 0 0 0 0]] (bU p (L++[iI 1 a])) (fun r l=>r=.aY []/\l=bU p (L++[iI 1 a]++Y))) :
  ab prog 202 [.pt 0 0 0 0,rI a] (bU p L) (fun r l=>r=.aY []/\l=bU p (L++[iI 1 a]++Y++[iI 22 (0)])):=by
 have p':=o5 p L a h0 hl;have h1:=ji p L 1 a jB;have h2:=ji p (L++[iI 1 a]++Y) 22 (0) (by simp only[List.length_append,List.length_singleton];omega);generalize ap p a=nd at*;rw[W0]at WH;refine aK func202 ntmps202 ?_;refine S ?_
 (have W:=jA hk W0;repeat' (first|refine au fun K hK=>?_|refine aq ?_|(refine hK _ _ ?_;clear hK K)|(refine ar ?_ ?_<;>intro hc<;>try exact jz)|refine al 5 ?_|refine cm (p') ?_|refine cm (h1) ?_|refine cm (WH) ?_|refine cm (h2) ?_|refine av ?_|exact jI|(clear hK K)))
 (refine bu [] ?_;try simp only[go_sem])
def P5(a:Int)(L Y:List ax)(h0:0<=a)(hl:a.toNat<p.aa.nodes.length)(hs:a.toNat<p.slots.length)(hL:¬(999900<L.length+Y.length))(hk:(ap p a).kind=17)(x:Int)(W0:(ap p a).l=[x])
  (WH:ab prog 200 [aO eI 1 (ap p a).l,.bd 241 [.pt 0 0 0 0]] (bU p (L++[iI 1 a])) (fun r l=>r=.aY []/\l=bU p (L++[iI 1 a]++Y))) :
  ab prog 202 [.pt 0 0 0 0,rI a] (bU p L) (fun r l=>r=.aY []/\l=bU p (L++[iI 1 a]++Y++[iI 21 (0)])):=by
 have p':=o5 p L a h0 hl;have h1:=ji p L 1 a jB;have h2:=ji p (L++[iI 1 a]++Y) 21 (0) (by simp only[List.length_append,List.length_singleton];omega);generalize ap p a=nd at*;rw[W0]at WH;refine aK func202 ntmps202 ?_;refine S ?_
 (have W:=jA hk W0;repeat' (first|refine au fun K hK=>?_|refine aq ?_|(refine hK _ _ ?_;clear hK K)|(refine ar ?_ ?_<;>intro hc<;>try exact jz)|refine al 5 ?_|refine cm (p') ?_|refine cm (h1) ?_|refine cm (WH) ?_|refine cm (h2) ?_|refine av ?_|exact jI|(clear hK K)))
 (refine bu [] ?_;try simp only[go_sem])
def Dd(a:Int)(L Y:List ax)(h0:0<=a)(hl:a.toNat<p.aa.nodes.length)(hL:¬(999900<L.length+Y.length))(hk:(ap p a).kind=15\/(ap p a).kind=16)
  (ht:ab prog 240 [.pt 0 0 0 0,.agg (eF (ap p a)),rI L.length] (bU p (L++[iI 1 a])) (fun r l=>r=.aY []/\l=bU p (L++[iI 1 a]++Y))) :
  ab prog 202 [.pt 0 0 0 0,rI a] (bU p L) (fun r l=>r=.aY []/\l=bU p (L++[iI 1 a]++Y)):=by
 have p':=o5 p L a h0 hl;have h1:=ji p L 1 a jB;generalize ap p a=nd at*;rcases hk with hk|hk
 ·refine aK func202 ntmps202 ?_;refine S ?_
  (have W:=hk;repeat' (first|refine au fun K hK=>?_|refine aq ?_|(refine hK _ _ ?_;clear hK K)|(refine ar ?_ ?_<;>intro hc<;>try exact jz)|refine al 5 ?_|refine cm (p') ?_|refine cm (h1) ?_|refine cm (ht) ?_|refine av ?_|exact jI|(clear hK K)))
  (refine bu [] ?_;try simp only[go_sem])
 ·refine aK func202 ntmps202 ?_;refine S ?_
  (have W:=hk;repeat' (first|refine au fun K hK=>?_|refine aq ?_|(refine hK _ _ ?_;clear hK K)|(refine ar ?_ ?_<;>intro hc<;>try exact jz)|refine al 5 ?_|refine cm (p') ?_|refine cm (h1) ?_|refine cm (ht) ?_|refine av ?_|exact jI|(clear hK K)))
  (refine bu [] ?_;try simp only[go_sem])
def MW{a k:Int}(h:bT p.aa.nodes a=21):jS p n a k=cz p n a k:=by have h:(ap p a).kind=21:=h;rw[uP,jN,jN,if_pos h]
def L5(p:ah)(n:Nat)(bl:Int->Int->List ax)(a from_:Int):sn p n bl a from_=(
  if(ap p a).kind=16 then bg p n (nth (ap p a).l 0) from_++[iI 17 (from_+(bg p n (nth (ap p a).l 0) from_).length+1+((bl (nth (ap p a).l 1) (from_+(bg p n (nth (ap p a).l 0) from_).length+1)).length+1))]++(bl (nth (ap p a).l 1) (from_+(bg p n (nth (ap p a).l 0) from_).length+1)++[iI 16 (from_-1)])
  else if(ap p a).l.length=3 then
   bg p n (nth (ap p a).l 0) from_++[iI 17 (from_+(bg p n (nth (ap p a).l 0) from_).length+1+((bl (nth (ap p a).l 1) (from_+(bg p n (nth (ap p a).l 0) from_).length+1)).length+1))]++(bl (nth (ap p a).l 1) (from_+(bg p n (nth (ap p a).l 0) from_).length+1)++[iI 16 (from_+(bg p n (nth (ap p a).l 0) from_).length+1+(bl (nth (ap p a).l 1) (from_+(bg p n (nth (ap p a).l 0) from_).length+1)).length+1+(bl (nth (ap p a).l 2) (from_+(bg p n (nth (ap p a).l 0) from_).length+1+(bl (nth (ap p a).l 1) (from_+(bg p n (nth (ap p a).l 0) from_).length+1)).length+1)).length)])++bl (nth (ap p a).l 2) (from_+(bg p n (nth (ap p a).l 0) from_).length+1+(bl (nth (ap p a).l 1) (from_+(bg p n (nth (ap p a).l 0) from_).length+1)).length+1)
  else bg p n (nth (ap p a).l 0) from_++[iI 17 (from_+(bg p n (nth (ap p a).l 0) from_).length+1+(bl (nth (ap p a).l 1) (from_+(bg p n (nth (ap p a).l 0) from_).length+1)).length)]++bl (nth (ap p a).l 1) (from_+(bg p n (nth (ap p a).l 0) from_).length+1)):=rfl
def yg(f:Int->Int->List ax)(k x:Int):bv f k [x] []=f x k:=by show[]++f x (k+((0:Nat):Int))=_;rw[Int.natCast_zero,Int.add_zero,List.nil_append]
def Rh(f:Int->Int->List ax)(k x y:Int):bv f k [x,y] []=f x k++f y (k+(f x k).length):=by show bv f k [y] ([]++f x (k+((0:Nat):Int)))=_;rw[Int.natCast_zero,Int.add_zero,List.nil_append];rfl
def uN(L Y:List ax)(a b:ax):L++a::(Y++[b])=L++[a]++Y++[b]:=jE
def Rt(L Y:List ax)(a:ax):L++a::Y=L++[a]++Y:=jE
theorem xU{p:ah}(hp:je p):∀n,J0 p n
 |0=>fun a L h0 hl hk hn hL=>by omega
 |n+1=>fun a L h0 hl hk hn hL=>by
  have hs:=xU hp n;have hx:=GY hp n;have ht:=hp.ok.ok.aa;have hm:=ht.many;have hb:=(ht.shape a.toNat hl).2.1;have VX:p.slots.length=p.aa.nodes.length:=hp.ok.ok.slots;have sh:=(ht.shape a.toNat hl).1;obtain⟨lo,T'⟩:=(ht.shape a.toNat hl).2.2;have T':aI p.aa.nodes lo (ap p a).l a.toNat:=T';have U9:lo+(ap p a).l.length<=a.toNat:=Db T';have Vn:fu (ap p a).kind:=hk;unfold fu at Vn;have l1:(L++[iI 1 a]).length=L.length+1:=jE;have W4:∀x k,x∈(ap p a).l->fk (bT p.aa.nodes x)->(jS p n x k).length<=1200:=fun x k Xr Yt=>by have Y6:=hb x Xr;obtain⟨lo',hc⟩:=(ht.shape x.toNat jB).2.2;have:=EV ht n k lo' Y6.1 jB Yt hc;omega
  have WH:∀Y,(∀x∈(ap p a).l,fk (bT p.aa.nodes x))->bv (jS p n) (L.length+1) (ap p a).l []=Y->Y.length<=2500->ab prog 200 [aO eI 1 (ap p a).l,.bd 241 [.pt 0 0 0 0]] (bU p (L++[iI 1 a])) (fun r l=>r=.aY []/\l=bU p (L++[iI 1 a]++Y)):=fun Y hr hY hYl=>by have:=AQ p 241 jD (jS p n) (ap p a).l (L++[iI 1 a]) jB (1000000-3000*n) (by rw[l1,Int.natCast_add];show¬(_<L.length+1+(bv (jS p n) (L.length+1) (ap p a).l []).length);rw[hY];omega) (fun x Xr M hM=>hx x M (hb x Xr).1 (by have:=hb x Xr;omega) (hr x Xr) (by have:=hb x Xr;omega) jB);rw[l1,Int.natCast_add]at this;rw[show bv (jS p n) ((L.length:Int)+((1:Nat):Int)) (ap p a).l []=Y from hY]at this;exact this
  rw[zw];by_cases e10:(ap p a).kind=10
  ·obtain⟨x,u',Zi⟩:=sh.right (by have e:(nth p.aa.nodes a.toNat).kind=10:=e10;omega);have u':(ap p a).l=[x]:=u';have WS:=W4 x (L.length+1) (by rw[u'];simp) Zi;have h:=WH (jS p n x (L.length+1)) (by rw[u'];intro y hy;simp only[List.mem_singleton]at hy;subst hy;exact Zi) (by rw[u',yg]) jB;rw[jP,u',show nth [x] 0=x from rfl,uN];exact Nn a L _ h0 hl jB jB e10 h
  by_cases e11:(ap p a).kind=11
  ·obtain⟨x,u',Zi⟩:=sh.right (by have e:(nth p.aa.nodes a.toNat).kind=11:=e11;omega);have u':(ap p a).l=[x]:=u';have WS:=W4 x (L.length+1) (by rw[u'];simp) Zi;have h:=WH (jS p n x (L.length+1)) (by rw[u'];intro y hy;simp only[List.mem_singleton]at hy;subst hy;exact Zi) (by rw[u',yg]) jB;rw[jP,u',show nth [x] 0=x from rfl,uN];exact S2 a L _ h0 hl jB jB e11 h
  rw[jN];by_cases e12:(ap p a).kind=12
  ·obtain⟨x,y,u',Vw,Yw⟩:=sh.two (.inr e12);have u':(ap p a).l=[x,y]:=u';have WS:=W4 x (L.length+1) (by rw[u'];simp) (.inl Vw);have hy1:=W4 y (L.length+1+(jS p n x (L.length+1)).length) (by rw[u'];simp) (.inl Yw);have h:=WH (jS p n x (L.length+1)++jS p n y (L.length+1+(jS p n x (L.length+1)).length)) (by rw[u'];intro z hz;simp only[List.mem_cons,List.not_mem_nil,or_false]at hz;rcases hz with rfl|rfl<;>exact .inl (by assumption)) (by rw[u',Rh]) (by rw[List.length_append];omega);rw[if_pos e12,u',show nth [x,y] 0=x from rfl,show nth [x,y] 1=y from rfl,<-nP Vw,<-nP Yw,uN];exact Tu a L _ h0 hl jB (by rw[List.length_append];omega) e12 h
  rw[if_neg e12];by_cases e13:(ap p a).kind=13
  ·obtain⟨x,u',hxC⟩:=sh.tS e13;have u':(ap p a).l=[x]:=u';have Zi:fk (bT p.aa.nodes x):=.inr (.inr (.inr hxC));have WS:=W4 x (L.length+1) (by rw[u'];simp) Zi;have h:=WH (jS p n x (L.length+1)) (by rw[u'];intro y hy;simp only[List.mem_singleton]at hy;subst hy;exact Zi) (by rw[u',yg]) jB;rw[if_pos e13,u',show nth [x] 0=x from rfl,<-MW hxC,uN];exact QX a L _ h0 hl jB jB e13 h
  rw[if_neg e13];by_cases e14:(ap p a).kind=14
  ·obtain⟨x,u',Vw⟩:=sh.one (by have e:(nth p.aa.nodes a.toNat).kind=14:=e14;omega);have u':(ap p a).l=[x]:=u';have WS:=W4 x (L.length+1) (by rw[u'];simp) (.inl Vw);have h:=WH (jS p n x (L.length+1)) (by rw[u'];intro y hy;simp only[List.mem_singleton]at hy;subst hy;exact .inl Vw) (by rw[u',yg]) jB;rw[if_pos e14,u',show nth [x] 0=x from rfl,<-nP Vw,uN];exact TE a L _ h0 hl jB jB e14 h
  rw[if_neg e14];by_cases e17:(ap p a).kind=17
  ·rw[if_pos e17];rcases sh.ret e17 with u'|⟨x,u',Vw⟩
   ·have u':(ap p a).l=[]:=u';have h:=WH [] (by rw[u'];intro y hy;simp at hy) (by rw[u'];rfl) jE;rw[u',if_pos (show([]:UU).length=0 from rfl),show([iI 22 0]:List ax)=[]++[iI 22 0] from rfl,uN];exact Of a L _ h0 hl jB (by simp only[List.length_nil];omega) e17 u' h
   ·have u':(ap p a).l=[x]:=u';have WS:=W4 x (L.length+1) (by rw[u'];simp) (.inl Vw);have h:=WH (jS p n x (L.length+1)) (by rw[u'];intro y hy;simp only[List.mem_singleton]at hy;subst hy;exact .inl Vw) (by rw[u',yg]) jB;rw[u',if_neg (show¬([x]:UU).length=0 from jE),show nth [x] 0=x from rfl,<-nP Vw,uN];exact P5 a L _ h0 hl jB jB e17 x u' h
  rw[if_neg e17];have expL:∀x lo,aI p.aa.nodes lo (ap p x).l x.toNat->0<=x->x.toNat<p.aa.nodes.length->cF (bT p.aa.nodes x)->∀k,(bg p n x k).length<=1200:=fun x lo c h0 h1 h2 k=>by have:=mS ht n x k lo h0 h1 h2 c;omega
  have tst:∀x b,x∈(ap p a).l->b∈(ap p a).l->cF (bT p.aa.nodes x)->bT p.aa.nodes b=18->∃X B,bg p n x (L.length+1)=X/\X.length<=1200/\B.length<=1200/\bv (gj p n) (L.length+1+X.length+1) (ap p b).l []=B/\
    ab prog 241 [.pt 0 0 0 0,rI x] (bU p (L++[iI 1 a])) (fun r l=>r=.aY []/\l=bU p (L++[iI 1 a]++X))/\
    ab prog 159 [.pt 0 0 0 0,rI b] (bU p (L++[iI 1 a]++X++[iI 17 0])) (fun r l=>r=.aY []/\l=bU p (L++[iI 1 a]++X++[iI 17 0]++B)):=fun x b Xr hbm Vw XD=>by
   have Y6:=hb x Xr;have hbb:=hb b hbm;have hX:=W4 x (L.length+1) Xr (.inl Vw);rw[nP Vw]at hX;have ex:=hx x (L++[iI 1 a]) Y6.1 jB (.inl Vw) jB jB;rw[nP Vw,l1,Int.natCast_add]at ex;refine⟨_,_,rfl,hX,Ay ht n b _ hbb.1 jB XD,rfl,ex,?_⟩;have eb:=C8 hp hs b (L++[iI 1 a]++bg p n x (L.length+1)++[iI 17 0]) hbb.1 jB XD jB (by simp only[List.length_append,List.length_singleton];omega);rw[show((L++[iI 1 a]++bg p n x (L.length+1)++[iI 17 0]).length:Int)=L.length+1+(bg p n x (L.length+1)).length+1 by simp only[List.length_append,List.length_singleton];omega]at eb;exact eb
  rw[Rt,L5];by_cases e16:(ap p a).kind=16
  ·obtain⟨x,b,u',Vw,XD⟩:=sh.dP e16;have u':(ap p a).l=[x,b]:=u';obtain⟨X,B,t1,t2,t3,t4,t5,t6⟩:=tst x b (by rw[u'];simp) (by rw[u'];simp) Vw XD;have hw:=Pv (ap p a) x b (L++[iI 1 a]) X B L.length jB e16 u' t5 t6;rw[if_pos e16,u',show nth [x,b] 0=x from rfl,show nth [x,b] 1=b from rfl,t1,t4];rw[show((L.length:Int)+1+X.length+1+(B.length+1))=(((L++[iI 1 a]).length+X.length+1+(B.length+1):Nat):Int) by rw[l1];omega,show(L.length:Int)+1-1=L.length from jB];refine Dd a L _ h0 hl (by simp only[List.length_append,List.length_singleton];omega) (.inr e16) ?_;simp only[List.append_assoc]at hw ⊢;exact hw
  rw[if_neg e16];have e15:(ap p a).kind=15:=jB;obtain⟨x,b,Vw,XD,u'|⟨d,u',haO⟩⟩:=sh.lC e15
  ·have u':(ap p a).l=[x,b]:=u';obtain⟨X,B,t1,t2,t3,t4,t5,t6⟩:=tst x b (by rw[u'];simp) (by rw[u'];simp) Vw XD;have hw:=MX (ap p a) x b (L++[iI 1 a]) X B L.length jB e16 u' t5 t6;rw[u',if_neg (show¬([x,b]:UU).length=3 from jE),show nth [x,b] 0=x from rfl,show nth [x,b] 1=b from rfl,t1,t4];rw[show((L.length:Int)+1+X.length+1+B.length)=(((L++[iI 1 a]).length+X.length+1+B.length:Nat):Int) by rw[l1];omega];refine Dd a L _ h0 hl (by simp only[List.length_append,List.length_singleton];omega) (.inl e15) ?_;simp only[List.append_assoc]at hw ⊢;exact hw
  ·have u':(ap p a).l=[x,b,d]:=u';obtain⟨X,B,t1,t2,t3,t4,t5,t6⟩:=tst x b (by rw[u'];simp) (by rw[u'];simp) Vw XD;have Zj:=hb d (by show d∈(ap p a).l;rw[u'];simp);have hD:=Ay ht n d (L.length+1+X.length+1+B.length+1) Zj.1 jB haO;have hsum:X.length+B.length<=1200:=by
    have T':=T';rw[u']at T';obtain⟨c1,c2,c3,c4,c5,c6⟩:=kV T';obtain⟨d1,d2,d3,d4,d5,d6⟩:=kV c6;have q1:=mS ht n x (L.length+1) lo c1 jB Vw c5;have q2:=GX ht n b (L.length+1+X.length+1) _ d1 jB XD d5;rw[t1]at q1;rw[t4]at q2;omega
   have ed:=C8 hp hs d (L++[iI 1 a]++X++[iI 17 ((L++[iI 1 a]).length+X.length+1+(B.length+1):Nat)]++B++[iI 16 0]) Zj.1 jB haO jB (by simp only[List.length_append,List.length_singleton];omega);rw[show((L++[iI 1 a]++X++[iI 17 ((L++[iI 1 a]).length+X.length+1+(B.length+1):Nat)]++B++[iI 16 0]).length:Int)=L.length+1+X.length+1+B.length+1 by simp only[List.length_append,List.length_singleton];omega]at ed;rw[u',if_pos (show([x,b,d]:UU).length=3 from rfl),show nth [x,b,d] 0=x from rfl,show nth [x,b,d] 1=b from rfl,show nth [x,b,d] 2=d from rfl,t1,t4];generalize hDD:bv (gj p n) (L.length+1+X.length+1+B.length+1) (ap p d).l []=D at*;have hw:=O0 (ap p a) x b d (L++[iI 1 a]) X B D L.length jB e16 u' t5 t6 ed;rw[show((L.length:Int)+1+X.length+1+(B.length+1))=(((L++[iI 1 a]).length+X.length+1+(B.length+1):Nat):Int) by rw[l1];omega,show((L.length:Int)+1+X.length+1+B.length+1+D.length)=(((L++[iI 1 a]).length+X.length+1+B.length+1+D.length:Nat):Int) by rw[l1];omega];refine Dd a L _ h0 hl (by simp only[List.length_append,List.length_singleton];omega) (.inl e15) ?_;simp only[List.append_assoc]at hw ⊢;exact hw
structure Fw(c c':Ck):Prop where
 fn:c'.fn=c.fn
 ak:∀x∈c'.ak,x∈c.ak\/x=c.fn
def Fw.refl(c:Ck):Fw c c:=⟨rfl,fun _ h=>.inl h⟩
theorem Fw.trans{a b c:Ck}(h:Fw a b)(k:Fw b c):Fw a c:=⟨k.fn.trans h.fn,fun x hx=>by
 rcases k.ak x hx with e|e
 ·exact h.ak x e
 ·right;rw[e,h.fn]⟩
def vw{c c':Ck}(h1:c'.fn=c.fn)(h2:c'.ak=c.ak):Fw c c':=⟨h1,fun x hx=>by rw[h2]at hx;exact .inl hx⟩
def JU{l:UU}{i:Nat}{x y:Int}(h:x∈l.set i y):x∈l\/x=y:=by
 rcases List.mem_or_eq_of_mem_set h with h|h
 ·exact .inl h
 ·exact .inr h
def qF(c:Ck)(e a:Int):Fw c (c.aA e a):=by unfold Ck.aA;split<;>exact vw rfl rfl
def oN(c:Ck)(b:Bool)(a:Int):Fw c (c.ao b a):=by unfold Ck.ao;split;exact .refl _;exact qF _ _ _
def zu(c:Ck)(a:Int):Fw c (c.named a).1:=by unfold Ck.named;split;exact qF _ _ _;exact vw rfl rfl
def S6(c:Ck)(a t:Int):Fw c (c.note a t):=⟨rfl,fun _ h=>JU h⟩
def DS(c:Ck)(a:Int):Fw c (c.af a):=⟨rfl,fun _ h=>JU h⟩
def uj{c x y:Ck}{q:Prop}[Decidable q](h:Fw c x)(k:Fw c y):Fw c (if q then x else y):=by split;exact h;exact k
theorem Gu{ex:Ck->Int->Ck×Int}(hx:∀c a,Fw c (ex c a).1):∀(L:UU) (c:Ck) (ts:UU),Fw c (gK ex c L ts).1
 |[],c,ts=>by unfold gK;exact .refl c
 |a::L,c,ts=>by
  unfold gK;split
  ·exact(hx c a).trans (Gu hx L _ _)
  ·exact .refl c
theorem FK(a:Int):∀(ts:UU) (ps:List bp) (c:Ck),Fw c (iO a c ts ps)
 |[],ps,c=>by rw[uG];exact .refl c
 |_::_,[],c=>by rw[uF];exact .refl c
 |x::ts,p::ps,c=>by
  unfold iO;split
  ·exact(oN _ _ _).trans (FK a ts ps _)
  ·exact .refl c
variable{ex:Ck->Int->Ck×Int}
def Qc(hx:∀c a,Fw c (ex c a).1)(c:Ck)(a:Int):Fw c (jr ex c a).1:=by
 unfold jr;split
 ·exact qF _ _ _
 ·simp only;exact((Gu hx _ c _).trans (uj (qF _ _ _) (.refl _))).trans (FK _ _ _ _)
def Ub(hx:∀c a,Fw c (ex c a).1)(c:Ck)(a:Int):Fw c (cf ex c a).1:=by
 unfold cf;simp only;split
 ·exact .refl c
 split
 ·exact .refl c
 split
 ·exact .refl c
 split
 ·exact zu _ _
 split
 ·exact Qc hx c a
 split
 ·exact((zu _ _).trans (hx _ _)).trans (oN _ _ _)
 split
 ·exact((hx _ _).trans (hx _ _)).trans (oN _ _ _)
 split
 ·exact(hx _ _).trans (oN _ _ _)
 split
 ·exact(hx _ _).trans (oN _ _ _)
 split
 ·exact(hx _ _).trans (oN _ _ _)
 ·exact(hx _ _).trans (oN _ _ _)
theorem rl:∀(n:Nat) (c:Ck) (a:Int),Fw c (ay n c a).1
 |0,c,a=>by unfold ay;exact .refl c
 |n+1,c,a=>by
  unfold ay;split
  ·exact .refl c
  ·exact(Ub (rl n) c a).trans (S6 _ _ _)
def UH(hx:∀c a,Fw c (ex c a).1)(c:Ck)(a:Int):Fw c (oz ex c a):=by have hA:Fw c (iK ex c a):=(hx c _).trans (oN _ _ _);have hB:Fw (iK ex c a) (jn ex c a):=uj (qF _ _ _) (.refl _);have hC:Fw (jn ex c a) (dX ex c a):=uj (qF _ _ _) (.refl _);rw[sW];exact((hA.trans hB).trans hC).trans (vw rfl rfl)
def Q0(hx:∀c a,Fw c (ex c a).1)(c:Ck)(a:Int):Fw c (j5 ex c a):=by
 unfold j5;simp only;split
 ·exact qF _ _ _
 split
 ·exact(hx _ _).trans (oN _ _ _)
 ·exact .refl c
theorem Cy{st:Ck->Int->Ck}(hs:∀c a,Fw c (st c a)):∀(L:UU) (c:Ck),Fw c (dh st c L)
 |[],c=>by unfold dh;exact .refl c
 |a::L,c=>by
  unfold dh;split
  ·exact(hs c a).trans (Cy hs L _)
  ·exact .refl c
variable{st:Ck->Int->Ck}
def JY(hs:∀c a,Fw c (st c a))(c:Ck)(a:Int):Fw c (eH st c a):=by unfold eH;simp only;exact((DS c a).trans (Cy hs _ _)).trans (vw rfl rfl)
theorem Hj:∀(n:Nat) (c:Ck) (a:Int),Fw c (bF n c a)
 |0,c,a=>by unfold bF;exact .refl c
 |n+1,c,a=>by
  unfold bF;simp only;refine(DS c a).trans ?_;split
  ·exact UH (rl n) _ _
  split
  ·exact((zu _ _).trans (rl n _ _)).trans (oN _ _ _)
  split
  ·exact(((zu _ _).trans (rl n _ _)).trans (rl n _ _)).trans (oN _ _ _)
  split
  ·exact rl n _ _
  split
  ·exact(rl n _ _).trans (oN _ _ _)
  split
  ·exact Q0 (rl n) _ _
  ·exact((rl n _ _).trans (oN _ _ _)).trans (Cy (fun c a=>JY (Hj n) c a) _ _)
theorem Ee(body:Int):∀(ps:List bp) (c:Ck) (i:Int),Fw c (eD body c ps i)
 |[],c,i=>by unfold eD;exact .refl c
 |p::ps,c,i=>by unfold eD;simp only;have h1:Fw c (if 0<=c.find p.name then c.aA 41 body else c):=uj (qF c 41 body) (.refl c);generalize (if 0<=c.find p.name then c.aA 41 body else c)=d at*;refine h1.trans ?_;exact Fw.trans (b:={ d with vars:=d.vars++[⟨p.name,p.ty,i⟩],more:=d.more.drop 1,size:=d.size+1 }) (vw rfl rfl) (Ee body ps _ _)
def Qy(c:Ck)(k:Nat):∀x∈(gf c k).ak,x∈c.ak\/x=(k:Int):=by
 have h:Fw { c with fn:=(k:Int),vars:=[],more:=[],size:=0 } (gf c k):=by unfold gf;simp only;exact((Ee _ _ _ _).trans (uj (JY (Hj _) _ _) (.refl _))).trans (vw rfl rfl)
 exact fun x hx=>h.ak x hx
theorem Jm:∀(n i:Nat) (c:Ck),∀x∈(fS c i n).ak,x∈c.ak\/((i:Int)<=x/\x<(i:Int)+n)
 |0,i,c,x,hx=>by unfold fS at hx;exact .inl hx
 |n+1,i,c,x,hx=>by
  unfold fS at hx;split at hx
  ·rcases Jm n (i+1) _ x hx with h|h
   ·rcases Qy c i x h with h|h
    ·exact .inl h
    ·right;omega
   ·right;omega
  ·exact .inl hx
theorem HE(x:aV):∀(l:List aV) (c:Ck),Fw c (kY x c l)
 |[],c=>by unfold kY;exact .refl c
 |f::l,c=>by unfold kY;exact(uj (qF _ _ _) (.refl _):Fw c (if f.name=x.name then c.aA 41 x.body else c)).trans (HE x l _)
theorem BO(ak:List aV):∀(n i:Nat) (c:Ck) (m:Bool),Fw c (j9 ak c m i n).1
 |0,i,c,m=>by unfold j9;exact .refl c
 |n+1,i,c,m=>by unfold j9;exact(HE _ _ c).trans (BO ak n (i+1) _ _)
def KZ(c:Ck):Fw c (iV c):=by unfold iV;simp only;exact uj (BO _ _ _ _ _) ((BO _ _ _ _ _).trans (qF _ _ _))
def Uv{t:aB}(ht:aM t)(he:(gm t).2.2=0)(h1:0<t.ak.length):∀x∈(gm t).1.fn,0<=x/\x<t.ak.length:=fun x hx=>by
 unfold gm at he hx;split at he
 ·rename_i h;exact(h he).elim
 rename_i h;rw[if_neg h]at hx;have hx:x∈(fS (iV (jM t)) 0 t.ak.length).ak:=hx;rcases Jm t.ak.length 0 _ x hx with g|g
 ·rcases(KZ (jM t)).ak x g with g|g
  ·have g:x∈t.nodes.map fun _=>(0:Int):=g
   obtain⟨_,_,rfl⟩:=List.mem_map.1 g;omega
  ·have g:x=0:=g;omega
 ·omega
variable{s:UX}
def Qp(he:(fI s).2.2=0):∀k,k<(fI s).1.aa.nodes.length->0<=nth (fI s).1.fn k/\nth (fI s).1.fn k<(fI s).1.aa.ak.length:=by
 have hok:=GB he;obtain⟨j,hj,_⟩:=(y9 he).names.main;unfold fI at he hok hj ⊢;split at he
 ·rename_i h;exact(h he).elim
 rename_i h;rw[if_neg h]at hok hj ⊢;have h:(gu s).2.2=0:=jB;simp only at he hok hj ⊢;split at he
 ·cases he
 rename_i h2;split at he
 ·rename_i h3;exact(h3 he).elim
 rename_i h3;rw[if_neg h2,if_neg h3]at hok hj ⊢;have ht:=(Am (tp h) jB).2;simp only at hok hj ⊢;rw[ht]at hj ⊢;exact fun k hk=>Uv (tp h) jB jB _ (cV (by rw[hok.fn,ht];exact hk))
structure Ns(c c':Ck):Prop where
 aa:c'.aa=c.aa
 slots:∀k,¬ju (nth c.aa.nodes k).kind->nth c'.slots k=nth c.slots k
def Ns.refl(c:Ck):Ns c c:=⟨rfl,fun _ _=>rfl⟩
theorem Ns.trans{a b c:Ck}(h:Ns a b)(k:Ns b c):Ns a c:=⟨k.aa.trans h.aa,fun j hj=>(k.slots j (by rw[h.aa];exact hj)).trans (h.slots j hj)⟩
def wx{c c':Ck}(h1:c'.aa=c.aa)(h2:c'.slots=c.slots):Ns c c':=⟨h1,fun _ _=>by rw[h2]⟩
def Ge(c:Ck)(a s:Int)(h:ju (c.node a).kind):Ns c (c.slot a s):=⟨rfl,fun k hk=>by
 show nth (c.slots.set a.toNat s) k=_;unfold nth;rw[List.getD_eq_getElem?_getD,List.getElem?_set,List.getD_eq_getElem?_getD];by_cases e:a.toNat=k
 ·subst e;exact(hk h).elim
 ·rw[if_neg e]⟩
def qT(c:Ck)(e a:Int):Ns c (c.aA e a):=by unfold Ck.aA;split<;>exact wx rfl rfl
def oK(c:Ck)(b:Bool)(a:Int):Ns c (c.ao b a):=by unfold Ck.ao;split;exact .refl _;exact qT _ _ _
def zx(c:Ck)(a:Int)(h:ju (c.node a).kind):Ns c (c.named a).1:=by unfold Ck.named;split;exact qT _ _ _;exact Ge c a _ h
def Re(c:Ck)(a t:Int):Ns c (c.note a t):=⟨rfl,fun _ _=>rfl⟩
def Er(c:Ck)(a:Int):Ns c (c.af a):=⟨rfl,fun _ _=>rfl⟩
def vf{c x y:Ck}{q:Prop}[Decidable q](h:Ns c x)(k:Ns c y):Ns c (if q then x else y):=by split;exact h;exact k
theorem ID{ex:Ck->Int->Ck×Int}(hx:∀c a,Ns c (ex c a).1):∀(L:UU) (c:Ck) (ts:UU),Ns c (gK ex c L ts).1
 |[],c,ts=>by unfold gK;exact .refl c
 |a::L,c,ts=>by
  unfold gK;split
  ·exact(hx c a).trans (ID hx L _ _)
  ·exact .refl c
theorem HB(a:Int):∀(ts:UU) (ps:List bp) (c:Ck),Ns c (iO a c ts ps)
 |[],ps,c=>by rw[uG];exact .refl c
 |_::_,[],c=>by rw[uF];exact .refl c
 |x::ts,p::ps,c=>by
  unfold iO;split
  ·exact(oK _ _ _).trans (HB a ts ps _)
  ·exact .refl c
def PM(hx:∀c a,Ns c (ex c a).1)(c:Ck)(a:Int):Ns c (jr ex c a).1:=by
 unfold jr;split
 ·exact qT _ _ _
 ·simp only;exact((ID hx _ c _).trans (vf (qT _ _ _) (.refl _))).trans (HB _ _ _ _)
def NI(hx:∀c a,Ns c (ex c a).1)(c:Ck)(a:Int):Ns c (cf ex c a).1:=by
 unfold cf;simp only;split
 ·exact .refl c
 split
 ·exact .refl c
 split
 ·exact .refl c
 split
 ·rename_i e;exact zx _ _ (.inl e)
 split
 ·exact PM hx c a
 split
 ·rename_i e;exact((zx _ _ (.inr (.inl e))).trans (hx _ _)).trans (oK _ _ _)
 split
 ·exact((hx _ _).trans (hx _ _)).trans (oK _ _ _)
 split
 ·exact(hx _ _).trans (oK _ _ _)
 split
 ·exact(hx _ _).trans (oK _ _ _)
 split
 ·exact(hx _ _).trans (oK _ _ _)
 ·exact(hx _ _).trans (oK _ _ _)
theorem rO:∀(n:Nat) (c:Ck) (a:Int),Ns c (ay n c a).1
 |0,c,a=>by unfold ay;exact .refl c
 |n+1,c,a=>by
  unfold ay;split
  ·exact .refl c
  ·exact(NI (rO n) c a).trans (Re _ _ _)
def QP(hx:∀c a,Ns c (ex c a).1)(c:Ck)(a:Int)(hk:ju (c.node a).kind):Ns c (oz ex c a):=by have hA:Ns c (iK ex c a):=(hx c _).trans (oK _ _ _);have hB:Ns (iK ex c a) (jn ex c a):=vf (qT _ _ _) (.refl _);have hC:Ns (jn ex c a) (dX ex c a):=vf (qT _ _ _) (.refl _);rw[sW];have haP:=(hA.trans hB).trans hC;exact haP.trans ((Ge (dX ex c a) a _ (by unfold Ck.node;rw[haP.aa];exact hk)).trans (wx rfl rfl))
def QA(hx:∀c a,Ns c (ex c a).1)(c:Ck)(a:Int):Ns c (j5 ex c a):=by
 unfold j5;simp only;split
 ·exact qT _ _ _
 split
 ·exact(hx _ _).trans (oK _ _ _)
 ·exact .refl c
theorem C9{st:Ck->Int->Ck}(hs:∀c a,Ns c (st c a)):∀(L:UU) (c:Ck),Ns c (dh st c L)
 |[],c=>by unfold dh;exact .refl c
 |a::L,c=>by
  unfold dh;split
  ·exact(hs c a).trans (C9 hs L _)
  ·exact .refl c
def E3(hs:∀c a,Ns c (st c a))(c:Ck)(a:Int):Ns c (eH st c a):=by unfold eH;simp only;exact((Er c a).trans (C9 hs _ _)).trans (wx rfl rfl)
theorem Gk:∀(n:Nat) (c:Ck) (a:Int),Ns c (bF n c a)
 |0,c,a=>by unfold bF;exact .refl c
 |n+1,c,a=>by
  unfold bF;simp only;refine(Er c a).trans ?_;split
  ·rename_i e;exact QP (rO n) _ _ (.inr (.inr (.inl e)))
  split
  ·rename_i e;exact((zx _ _ (.inr (.inr (.inr (.inl e))))).trans (rO n _ _)).trans (oK _ _ _)
  split
  ·rename_i e;exact(((zx _ _ (.inr (.inr (.inr (.inr e))))).trans (rO n _ _)).trans (rO n _ _)).trans (oK _ _ _)
  split
  ·exact rO n _ _
  split
  ·exact(rO n _ _).trans (oK _ _ _)
  split
  ·exact QA (rO n) _ _
  ·exact((rO n _ _).trans (oK _ _ _)).trans (C9 (fun c a=>E3 (Gk n) c a) _ _)
theorem Eg(body:Int):∀(ps:List bp) (c:Ck) (i:Int),Ns c (eD body c ps i)
 |[],c,i=>by unfold eD;exact .refl c
 |p::ps,c,i=>by unfold eD;simp only;have h1:Ns c (if 0<=c.find p.name then c.aA 41 body else c):=vf (qT c 41 body) (.refl c);generalize (if 0<=c.find p.name then c.aA 41 body else c)=d at*;refine h1.trans ?_;exact Ns.trans (b:={ d with vars:=d.vars++[⟨p.name,p.ty,i⟩],more:=d.more.drop 1,size:=d.size+1 }) (wx rfl rfl) (Eg body ps _ _)
def QN(c:Ck)(k:Nat):Ns c (gf c k):=by
 have h:Ns { c with fn:=(k:Int),vars:=[],more:=[],size:=0 } (gf c k):=by unfold gf;simp only;exact((Eg _ _ _ _).trans (vf (E3 (Gk _) _ _) (.refl _))).trans (wx rfl rfl)
 exact Ns.trans (b:={ c with fn:=(k:Int),vars:=[],more:=[],size:=0 }) (wx rfl rfl) h
theorem EA:∀(n i:Nat) (c:Ck),Ns c (fS c i n)
 |0,i,c=>by unfold fS;exact .refl c
 |n+1,i,c=>by
  unfold fS;split
  ·exact(QN c i).trans (EA n (i+1) _)
  ·exact .refl c
theorem F6(x:aV):∀(l:List aV) (c:Ck),Ns c (kY x c l)
 |[],c=>by unfold kY;exact .refl c
 |f::l,c=>by unfold kY;exact(vf (qT _ _ _) (.refl _):Ns c (if f.name=x.name then c.aA 41 x.body else c)).trans (F6 x l _)
theorem Dx(ak:List aV):∀(n i:Nat) (c:Ck) (m:Bool),Ns c (j9 ak c m i n).1
 |0,i,c,m=>by unfold j9;exact .refl c
 |n+1,i,c,m=>by unfold j9;exact(F6 _ _ c).trans (Dx ak n (i+1) _ _)
def LI(c:Ck):Ns c (iV c):=by unfold iV;simp only;exact vf (Dx _ _ _ _ _) ((Dx _ _ _ _ _).trans (qT _ _ _))
def Tf{t:aB}(he:(gm t).2.2=0):∀k,k<t.nodes.length->¬ju (nth t.nodes k).kind->nth (gm t).1.slots k<=0:=fun k hk hn=>by
 unfold gm at he ⊢;split at he
 ·rename_i h;exact(h he).elim
 rename_i h;rw[if_neg h];have h1:=(LI (jM t)).trans (EA t.ak.length 0 _);show nth (fS (iV (jM t)) 0 t.ak.length).slots k<=0;rw[h1.slots k hn];show nth (t.nodes.map fun _=>(-1:Int)) k<=0;unfold nth;rw[List.getD_eq_getElem?_getD,List.getElem?_map,List.getElem?_eq_getElem hk];show(-1:Int)<=0;omega
def Rm{t:List bk}{lo hi:Nat}{L:UU}(h:aI t lo L hi):∀k,lo<=k->k<hi->∃j,j<L.length/\k<=(nth L j).toNat/\(if j=0 then lo else(nth L (j-1)).toNat+1)<=k:=by
 induction h with
 |nil=>intro k h1 h2;omega
 |@cons lo c hi L hc h1 h2 i1 i2=>
  intro k Vs Va;by_cases e:k<=c
  ·exact⟨0,jE,by show k<=(c:Int).toNat;omega,by rw[if_pos rfl];exact Vs⟩
  ·obtain⟨j,g1,g2,g3⟩:=i2 k jB Va;refine⟨j+1,by simp;omega,g2,?_⟩;rw[jN];by_cases e0:j=0
   ·subst e0;show(c:Int).toNat+1<=k;omega
   ·rw[if_neg e0]at g3;rw[show j+1-1=(j-1)+1 from jB];exact g3
def O7(h:gF p):∀k,k<p.aa.nodes.length->ju (nth p.aa.nodes k).kind->0<=nth p.slots k:=fun k hk hs=>by
 obtain⟨j,g1,g2,g3⟩:=Rm h.ok.aa.chain k (Nat.zero_le _) hk;have g1:j<p.aa.ak.length:=by simpa using g1
 have e:∀i,i<p.aa.ak.length->nth (p.aa.ak.map (·.body)) i=(nth p.aa.ak i).body:=fun i hi=>by unfold nth;rw[List.getD_eq_getElem?_getD,List.getElem?_map,List.getD_eq_getElem?_getD,List.getElem?_eq_getElem hi];rfl
 rw[e j g1]at g2;have hf:=h.ak j g1;refine(hf.all k ?_ jB hs).1;unfold kW;split at g3
 ·rename_i e0;rw[if_pos e0];exact g3
 ·rename_i e0;rw[if_neg e0];rw[e (j-1) jB]at g3;exact g3
def OP(he:(fI s).2.2=0):∀k,k<(fI s).1.aa.nodes.length->¬ju (nth (fI s).1.aa.nodes k).kind->nth (fI s).1.slots k<=0:=by
 have hok:=GB he;unfold fI at he hok ⊢;split at he
 ·rename_i h;exact(h he).elim
 rename_i h;rw[if_neg h]at hok ⊢;have h:(gu s).2.2=0:=jB;simp only at he hok ⊢;split at he
 ·cases he
 rename_i h2;split at he
 ·rename_i h3;exact(h3 he).elim
 rename_i h3;rw[if_neg h2,if_neg h3]at hok ⊢;have ht:=(Am (tp h) jB).2;simp only at hok ⊢;rw[ht];exact Tf jB
attribute [local go_sem] iI
def PF(hp:je p):aL prog 110 [.agg (dj p)] (.agg (xD (dp p))):=by
 have ht:=hp.ok.ok.aa;have hm:=ht.many;have hbe:=ht.ak;have eV:dp p=eW p p.aa.ak.length:=by unfold dp eW;rw[List.take_length]
 rw[eV];have WD:=Di hp.ok;have Xp:=zG p;rw[Dy];refine dG func110 ntmps110 ?_;refine S ?_
 (repeat' (first|refine au fun K hK=>?_|refine aq ?_|(refine hK _ _ ?_;clear hK K)|(refine ar ?_ ?_<;>intro hc<;>try exact jz)|refine cL 2 ?_|refine al 3 ?_|refine al 0 ?_|refine av ?_|exact jI|(clear hK K)))
 refine iQ (dM.fz 1 0 6 219 4 rfl jC rfl rfl) ?_
 (refine S ?_;try exact jI)
 refine iQ (dM.nil 5 4 3 (sz:=1) rfl jC (Or.inl rfl)) ?_
 (refine S ?_;try exact jI)
 have U6:=hK;clear hK;refine dw (S:=Nat) [(4,1),(6,1),(13,17)] (fun k=>k<=p.aa.ak.length) (fun k=>[(4,.rs 5 k 1 k),(13,rI k)])
  (fun k=>⟨[],[(2,.var 32 (kD p)),(3,.var 199 [.raw (.slice none 0 0),.raw (.slice none 0 0)]),(0,.var 267 (kD p++[.rs 1 (eW p k).ins.length 4 (eW p k).ins.length])),(1,.aD 219 4 ((eW p k).ins.map df)),(5,.aD 3 1 ((eW p k).entry.map eI))]⟩)
  (fun k=>p.aa.ak.length-k) 0 jB (dx rfl bS) ?_
 rintro k hk Kr U8;have X2:=WD k hk;have hek:=Xp k hk;by_cases I':k<p.aa.ak.length
 ·have hs:=zq p k I';have Wa:=ou ht (k:=k) I';have WG:=Wa.1;have WQ:=Wa.2;have Yu:=ht.body _ (cV I');have hbl:=Ay ht (ns p) (nth p.aa.ak k).body (eW p k).ins.length jB jB Yu;have hcb:=C8 hp (xU hp (ns p)) (nth p.aa.ak k).body (eW p k).ins jB jB Yu (by show _<=p.aa.nodes.length;omega) (by have:ns p<=300:=hm;omega);change ab _ _ _ _ (fun r l=>r=.aY []/\l=bU p ((eW p k).ins++qS p (ns p) (nth p.aa.ak k).body (eW p k).ins.length))at hcb
  change (qS p (ns p) (nth p.aa.ak k).body (eW p k).ins.length).length<=1200 at hbl
  have YJ:=ji p ((eW p k).ins++qS p (ns p) (nth p.aa.ak k).body (eW p k).ins.length) 22 (nth p.aa.ak k).ret (by rw[List.length_append];omega);have e1:(eW p (k+1)).ins=(eW p k).ins++qS p (ns p) (nth p.aa.ak k).body (eW p k).ins.length++[iI 22 (nth p.aa.ak k).ret]:=by rw[hs];rfl
  have e2:(eW p (k+1)).entry=(eW p k).entry++[((eW p k).ins.length:Int)]:=by rw[hs];rfl
  generalize qS p (ns p) (nth p.aa.ak k).body (eW p k).ins.length=B at*;generalize hC':eW p (k+1)=C' at*;generalize eW p k=C at*;generalize hF:nth p.aa.ak k=F at*;refine S ?_
  (have W:=jA hF hek;repeat' (first|refine au fun K hK=>?_|refine aq ?_|(refine hK _ _ ?_;clear hK K)|(refine ar ?_ ?_<;>intro hc<;>try exact jz)|refine al 6 ?_|refine cm (hcb) ?_|refine cm (YJ) ?_|refine av ?_|exact jI|(clear hK K)))
  refine U8 _ _ (lc [6] (k+1) jB (by show p.aa.ak.length-(k+1)<p.aa.ak.length-k;omega) rfl Sd (by rw[hC',e1,e2];simp only[kD,List.map_append,List.length_append,List.map_cons,List.map_nil,List.length_cons,List.length_nil];rfl) ie)
 ·have e:k=p.aa.ak.length:=jB;subst e;generalize eW p p.aa.ak.length=C at*;refine S ?_
  (have W:=hek;repeat' (first|refine au fun K hK=>?_|refine aq ?_|(refine hK _ _ ?_;clear hK K)|(refine ar ?_ ?_<;>intro hc<;>try exact jz)|refine U6 _ _ ?_|refine av ?_|exact jI|(clear hK K)))
  refine iM [.cell 2 199] ?_;exact cn.agg (ds:=[aO df 4 C.ins,aO eI 1 C.entry]) (jA (dn.row (enc:=df) C.ins rfl rfl jE) (jA (dn.row (enc:=eI) C.entry rfl rfl (by simp[hek])) trivial))
def QI(he:(fI s).2.2=0):je (fI s).1:=⟨y9 he,OP he,O7 (y9 he)⟩
def QK(f:aV):aL prog 162 [.agg (fW f)] (rB (decide (f.name=(⟨#[109,97,105,110]⟩:UX)))):=by
 refine dG func162 ntmps162 ?_
 (repeat' (first|refine au fun K hK=>?_|refine aq ?_|(refine hK _ _ ?_;clear hK K)|(refine ar ?_ ?_<;>intro hc<;>try exact jz)|refine cL 4 ?_|refine av ?_|exact jI|(clear hK K)))
 (refine bu [.tmp 2] ?_;try simp only[go_sem])
def KV(L:List aV)(k:Nat)(hL:L.length<=1000)(hk:k<L.length)(Vh:(nth L k).name=(⟨#[109,97,105,110]⟩:UX))(WU:∀i,i<k->(nth L i).name≠(⟨#[109,97,105,110]⟩:UX)) :
  aL prog 161 [aO fW 5 L,.raw (.func (.func 162) #[] #[])] (rI k):=by
 refine dG func161 ntmps161 ?_
 (repeat' (first|refine au fun K hK=>?_|refine aq ?_|(refine hK _ _ ?_;clear hK K)|(refine ar ?_ ?_<;>intro hc<;>try exact jz)|refine av ?_|exact jI|(clear hK K)))
 refine dw (S:=Nat) [(4,2),(8,11)] (fun i=>i<=k) (fun i=>[(8,rI i)]) (fun i=>⟨[],[]⟩) (fun i=>k-i) 0 jB (dx rfl bS) ?_;rintro i hi Kr U8;have Xl:=QK (nth L i);by_cases e:i=k
 ·subst e;rw[decide_eq_true Vh]at Xl;refine S ?_
  (repeat' (first|refine au fun K hK=>?_|refine aq ?_|(refine hK _ _ ?_;clear hK K)|(refine ar ?_ ?_<;>intro hc<;>try exact jz)|refine cp (Xl) ?_|refine av ?_|exact jI|(clear hK K)))
  (refine bu [.tmp 4] ?_;try simp only[go_sem])
 ·rw[decide_eq_false (WU i jB)]at Xl;refine S ?_
  (repeat' (first|refine au fun K hK=>?_|refine aq ?_|(refine hK _ _ ?_;clear hK K)|(refine ar ?_ ?_<;>intro hc<;>try exact jz)|refine cp (Xl) ?_|refine av ?_|exact jI|(clear hK K)))
  refine U8 _ _ (dO (i+1) jB jJ rfl bS)
def K8(m:Nat)(hL:p.aa.ak.length<=1000)(hk:m<p.aa.ak.length)(Vh:(nth p.aa.ak m).name=(⟨#[109,97,105,110]⟩:UX))(WU:∀i,i<m->(nth p.aa.ak i).name≠(⟨#[109,97,105,110]⟩:UX)):aL prog 113 [.agg (dj p)] (rI m):=by
 have Yx:=KV p.aa.ak m hL hk Vh WU;rw[Dy];refine dG func113 ntmps113 ?_;refine S ?_
 (repeat' (first|refine au fun K hK=>?_|refine aq ?_|(refine hK _ _ ?_;clear hK K)|(refine ar ?_ ?_<;>intro hc<;>try exact jz)|refine cL 2 ?_|refine cp (Yx) ?_|refine av ?_|exact jI|(clear hK K)))
 (refine bu [.tmp 2] ?_;try simp only[go_sem])
end Go.Proofs.YtjpcgmjaipfgdaaGreatDoor