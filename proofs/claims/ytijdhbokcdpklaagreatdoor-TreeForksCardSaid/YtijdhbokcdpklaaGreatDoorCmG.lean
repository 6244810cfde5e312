/- Lemmas. No conditions. -/
import Derived.Test.YtijdhbokcdpklaaGreatDoorViA
set_option linter.all false
set_option maxHeartbeats 4000000
set_option maxRecDepth 10000
namespace Go.Gd
open Go
def kv(h:UF)(k:Nat):Nat:=(h.take k).flatten.length
def lu(h:UF):UG:=(List.range h.length).map fun k=>((kv h (k+1):Nat):Int)
def vK(h:UF):(lu h).length=h.length:=by simp[lu]
variable{h:UF}{k:Nat}
def wh(hk:k<h.length):kv h (k+1)=kv h k+(nth h k).length:=by unfold kv;rw[List.take_succ,List.getElem?_eq_getElem hk,List.flatten_append,List.length_append,fO hk];simp
def xD(h:UF)(k:Nat):kv h k<=h.flatten.length:=by
 unfold kv;have:h.flatten=(h.take k).flatten++(h.drop k).flatten:=by rw[<-List.flatten_append,List.take_append_drop]
 rw[this,List.length_append];omega
def Hs(hk:k<h.length):nth (lu h) k=(kv h (k+1):Nat):=by rw[fO (by rw[vK];exact hk)];simp[lu]
def MK{i:Nat}(hk:k<h.length)(hi:i<(nth h k).length):nth h.flatten (kv h k+i)=nth (nth h k) i:=by
 have e:h.flatten=(h.take k).flatten++(nth h k++(h.drop (k+1)).flatten):=by rw[fO hk,<-List.flatten_cons,List.getElem_cons_drop,<-List.flatten_append,List.take_append_drop]
 rw[e];unfold kv;unfold nth at hi ⊢;rw[List.getD_eq_getElem?_getD,List.getElem?_append_right jB,Nat.add_sub_cancel_left,List.getElem?_append_left hi,<-List.getD_eq_getElem?_getD]
def Qg{i:Nat}(n:Int)(hk:k<h.length)(hi:i<(nth h k).length):(h.set k ((nth h k).set i n)).flatten=h.flatten.set (kv h k+i) n:=by
 have e:h.flatten=(h.take k).flatten++(nth h k++(h.drop (k+1)).flatten):=by rw[fO hk,<-List.flatten_cons,List.getElem_cons_drop,<-List.flatten_append,List.take_append_drop]
 have e2:h.set k ((nth h k).set i n)=h.take k++((nth h k).set i n::h.drop (k+1)):=by rw[List.set_eq_take_append_cons_drop,if_pos hk]
 rw[e2,List.flatten_append,List.flatten_cons,e];unfold kv;rw[List.set_append_right _ _ jB,Nat.add_sub_cancel_left,List.set_append_left _ _ hi]
def O2(l:UG)(hl:l.length=(nth h k).length)(hk:k<h.length):lu (h.set k l)=lu h:=by
 unfold lu;rw[List.length_set];apply List.map_congr_left;intro j _;congr 1
 unfold kv;rw[List.take_set,List.length_flatten,List.length_flatten,List.map_set];congr 1
 apply List.ext_getElem jE;intro i h1 h2;rw[List.getElem_set];split
 ·rename_i e;subst e;rw[List.getElem_map,List.getElem_take,hl,fO hk]
 ·rfl
def gM(h:UF):UD:=[(2,.var 196 [.rs 3 h.flatten.length 1 h.flatten.length,.rs 4 h.length 1 h.length]),(3,.aG 3 1 (h.flatten.map eI)),(4,.aG 3 1 ((lu h).map eI))]
attribute [go_sem] gM
def LH(h:UF)(k:Nat):(h++[List.replicate k 0]).flatten=h.flatten++List.replicate k 0:=jE
def L8(h:UF)(k:Nat):lu (h++[List.replicate k 0])=lu h++[((h.flatten.length+k:Nat):Int)]:=by
 unfold lu;rw[List.length_append,List.length_singleton,List.range_succ,List.map_append,List.map_singleton];congr 1
 ·apply List.map_congr_left;intro j hj;have hj:j<h.length:=List.mem_range.1 hj;congr 1
  unfold kv;rw[List.take_append_of_le_length jB]
 ·congr 2
  unfold kv;rw[List.take_of_length_le jE];simp
def SD(k:Nat):(List.replicate k (0:Int)).map eI=List.replicate k [AV.raw (.int .i64 0)]:=by simp[eI]
def ko(p:af):UE:=[aP eH 5 p.aa.nodes,aP fZ 5 p.aa.aw,aP eI 1 p.types,aP eI 1 p.slots,aP eI 1 p.fn,aP eI 1 p.size]
def Bo(p:af):cn p=ko p:=rfl
def bU(p:af)(L:List ay):UD:=[(0,.var 202 (ko p++[.rs 1 L.length 4 L.length])),(1,.aG 176 4 (L.map dq))]
attribute [go_sem] bU ko
def Oz(f:Int->Int->List ay)(k:Int)(L:UG)(i:Nat):(bv f k (L.take i) []).length<=(bv f k L []).length:=by have e:=AD f (L.take i) (L.drop i) k [];rw[List.take_append_drop]at e;rw[e,vn f (L.drop i)];simp
def Oq(f:Int->Int->List ay)(k:Int)(L:UG)(i:Nat)(h:i<L.length):bv f k (L.take (i+1)) []=bv f k (L.take i) []++f (nth L i) (k+(bv f k (L.take i) []).length):=by rw[show L.take (i+1)=L.take i++[nth L i] by rw[List.take_succ,List.getElem?_eq_getElem h,fO h];rfl,AD];rfl
end Go.Gd
namespace Go.Proofs.YtijdhbokcdpklaaGreatDoor
open Go Go.Gd Tryz
def A1(h:UF)(a:Int)(hl:h.length<=1000)(ha:a<1\/(h.length:Int)<a):ab prog 114 [.pt 2 0 0 0,rI a] (gM h) (fun r l=>r=.raw (.slice none 0 0)/\l=gM h):=by
 have Wu:=vK h;by_cases h1:a<1
 ·refine aM func114 ntmps114 ?_;refine S ?_
  (repeat' (first|refine av fun K hK=>?_|refine au ?_|(refine hK _ _ ?_;clear hK K)|(refine ar ?_ ?_<;>intro hc<;>try exact jz)|refine aq ?_|exact jI|(clear hK K)))
  (refine bW [.tmp 4] ?_ ?_<;>(try simp only[go_sem]))
 ·refine aM func114 ntmps114 ?_;refine S ?_
  (repeat' (first|refine av fun K hK=>?_|refine au ?_|(refine hK _ _ ?_;clear hK K)|(refine ar ?_ ?_<;>intro hc<;>try exact jz)|refine aq ?_|exact jI|(clear hK K)))
  (refine bW [.tmp 4] ?_ ?_<;>(try simp only[go_sem]))
def xC(h:UF)(k:Nat)(a:Int)(ha:a=(k:Int)+1)(hl:h.length<=1000)(hf:h.flatten.length<=1000)(hk:k<h.length):ab prog 114 [.pt 2 0 0 0,rI a] (gM h) (fun r l=>r=.rv 3 h.flatten.length 1 (kv h k) (nth h k).length/\l=gM h):=by
 have Wu:=vK h;have e1:nth (lu h) (a-1).toNat=(kv h k+(nth h k).length:Nat):=by rw[show(a-1).toNat=k from jB,Hs hk,wh hk]
 have e2:=wh hk;have e3:=xD h (k+1);generalize (nth h k).length=c at*;by_cases h1:k=0
 ·have e0:kv h k=0:=by subst h1;rfl
  rw[e0]at e1 e2;rw[e0];refine aM func114 ntmps114 ?_;refine S ?_
  (have W:=jA Wu e1;repeat' (first|refine av fun K hK=>?_|refine au ?_|(refine hK _ _ ?_;clear hK K)|(refine ar ?_ ?_<;>intro hc<;>try exact jz)|refine aq ?_|exact jI|(clear hK K)))
  (refine bW [.tmp 4] ?_ ?_<;>(try simp only[go_sem]))
  rw[Nat.sub_zero]
 ·have e4:nth (lu h) (a-2).toNat=(kv h k:Nat):=by
   have e4:=Hs (h:=h) (k:=k-1) jB;rw[show k-1+1=k from jB]at e4;rw[show(a-2).toNat=k-1 from jB];exact e4
  generalize kv h k=o at*;refine aM func114 ntmps114 ?_;refine S ?_
  (have W:=jA Wu (jA e1 (e4));repeat' (first|refine av fun K hK=>?_|refine au ?_|(refine hK _ _ ?_;clear hK K)|(refine ar ?_ ?_<;>intro hc<;>try exact jz)|refine aq ?_|exact jI|(clear hK K)))
  (refine bW [.tmp 4] ?_ ?_<;>(try simp only[go_sem]))
  rw[Nat.add_sub_cancel_left]
def Pc(h:UF)(a:Int)(hl:h.length<=1000)(hf:h.flatten.length<=1000):ab prog 153 [.pt 2 0 0 0,rI a] (gM h) (fun r l=>r=rI (MV.bn h a).length/\l=gM h):=by
 unfold MV.bn;by_cases e:a<1\/(h.length:Int)<a
 ·have U1:=A1 h a hl e;rw[if_pos e];refine aM func153 ntmps153 ?_;refine S ?_
  (repeat' (first|refine av fun K hK=>?_|refine au ?_|(refine hK _ _ ?_;clear hK K)|(refine ar ?_ ?_<;>intro hc<;>try exact jz)|refine cm (U1) ?_|refine aq ?_|exact jI|(clear hK K)))
  (refine bW [.tmp 4] ?_ ?_<;>(try simp only[go_sem]))
 ·have U1:=xC h (a-1).toNat a jB hl hf jB;rw[if_neg e];refine aM func153 ntmps153 ?_;refine S ?_
  (repeat' (first|refine av fun K hK=>?_|refine au ?_|(refine hK _ _ ?_;clear hK K)|(refine ar ?_ ?_<;>intro hc<;>try exact jz)|refine cm (U1) ?_|refine aq ?_|exact jI|(clear hK K)))
  (refine bW [.tmp 4] ?_ ?_<;>(try simp only[go_sem]))
def Pu(h:UF)(a i:Int)(hl:h.length<=1000)(hf:h.flatten.length<=1000):ab prog 154 [.pt 2 0 0 0,rI a,rI i] (gM h) (fun r l=>r=.aQ [rI (if i<0\/((MV.bn h a).length:Int)<=i then 0 else nth (MV.bn h a) i.toNat),rI (if i<0\/((MV.bn h a).length:Int)<=i then 2 else 0)]/\l=gM h):=by
 by_cases e:a<1\/(h.length:Int)<a
 ·have U1:=A1 h a hl e;have e2:MV.bn h a=[]:=by unfold MV.bn;rw[if_pos e]
  have e3:i<0\/(([]:UG).length:Int)<=i:=by simp only[List.length_nil];omega
  rw[e2,if_pos e3,if_pos e3];by_cases h0:i<0
  ·refine aM func154 ntmps154 ?_;refine S ?_
   (repeat' (first|refine av fun K hK=>?_|refine au ?_|(refine hK _ _ ?_;clear hK K)|(refine ar ?_ ?_<;>intro hc<;>try exact jz)|refine cm (U1) ?_|refine aq ?_|exact jI|(clear hK K)))
   (refine bW [.tmp 6,.tmp 7] ?_ ?_<;>(try simp only[go_sem]))
  ·refine aM func154 ntmps154 ?_;refine S ?_
   (repeat' (first|refine av fun K hK=>?_|refine au ?_|(refine hK _ _ ?_;clear hK K)|(refine ar ?_ ?_<;>intro hc<;>try exact jz)|refine cm (U1) ?_|refine aq ?_|exact jI|(clear hK K)))
   (refine bW [.tmp 6,.tmp 7] ?_ ?_<;>(try simp only[go_sem]))
 ·have U1:=xC h (a-1).toNat a jB hl hf jB;have e2:MV.bn h a=nth h (a-1).toNat:=by unfold MV.bn;rw[if_neg e]
  rw[e2];have hk:(a-1).toNat<h.length:=jB;generalize (a-1).toNat=k at*;have hof:=wh hk;have Uq:=xD h (k+1);by_cases e3:i<0\/((nth h k).length:Int)<=i
  ·rw[if_pos e3,if_pos e3];by_cases h0:i<0
   ·refine aM func154 ntmps154 ?_;refine S ?_
    (repeat' (first|refine av fun K hK=>?_|refine au ?_|(refine hK _ _ ?_;clear hK K)|(refine ar ?_ ?_<;>intro hc<;>try exact jz)|refine cm (U1) ?_|refine aq ?_|exact jI|(clear hK K)))
    (refine bW [.tmp 6,.tmp 7] ?_ ?_<;>(try simp only[go_sem]))
   ·refine aM func154 ntmps154 ?_;refine S ?_
    (repeat' (first|refine av fun K hK=>?_|refine au ?_|(refine hK _ _ ?_;clear hK K)|(refine ar ?_ ?_<;>intro hc<;>try exact jz)|refine cm (U1) ?_|refine aq ?_|exact jI|(clear hK K)))
    (refine bW [.tmp 6,.tmp 7] ?_ ?_<;>(try simp only[go_sem]))
  ·rw[if_neg e3,if_neg e3];have hn:=MK (i:=i.toNat) hk jB;refine aM func154 ntmps154 ?_;refine S ?_
   (have W:=hn;repeat' (first|refine av fun K hK=>?_|refine au ?_|(refine hK _ _ ?_;clear hK K)|(refine ar ?_ ?_<;>intro hc<;>try exact jz)|refine cm (U1) ?_|refine aq ?_|exact jI|(clear hK K)))
   (refine bW [.tmp 6,.tmp 7] ?_ ?_<;>(try simp only[go_sem]))
def Kv(h:UF)(a i n:Int)(hl:h.length<=1000)(hf:h.flatten.length<=1000)(hi:¬(i<0\/((MV.bn h a).length:Int)<=i)):ab prog 155 [.pt 2 0 0 0,rI a,rI i,rI n] (gM h) (fun r l=>r=rI 0/\l=gM (h.set (a-1).toNat ((nth h (a-1).toNat).set i.toNat n))):=by
 have e:¬(a<1\/(h.length:Int)<a):=fun e=>hi (by unfold MV.bn;rw[if_pos e];simp only[List.length_nil];omega)
 have e2:MV.bn h a=nth h (a-1).toNat:=by unfold MV.bn;rw[if_neg e]
 rw[e2]at hi;have U1:=xC h (a-1).toNat a jB hl hf jB;have hk:(a-1).toNat<h.length:=jB;generalize (a-1).toNat=k at*;have hof:=wh hk;have Uq:=xD h (k+1);have hn:=Qg n hk (i:=i.toNat) jB;have YW:=O2 (h:=h) (k:=k) ((nth h k).set i.toNat n) (by rw[List.length_set]) hk;have VN:(h.flatten.set (kv h k+i.toNat) n).length=h.flatten.length:=List.length_set;unfold gM;rw[hn,YW];simp only[List.length_set,List.map_set];refine aM func155 ntmps155 ?_;refine S ?_
 (repeat' (first|refine av fun K hK=>?_|refine au ?_|(refine hK _ _ ?_;clear hK K)|(refine ar ?_ ?_<;>intro hc<;>try exact jz)|refine cm (U1) ?_|refine aq ?_|exact jI|(clear hK K)))
 (refine bW [.tmp 8] ?_ ?_<;>(try simp only[go_sem]))
def Qs(h:UF)(a i n:Int)(hl:h.length<=1000)(hf:h.flatten.length<=1000)(hi:i<0\/((MV.bn h a).length:Int)<=i):ab prog 155 [.pt 2 0 0 0,rI a,rI i,rI n] (gM h) (fun r l=>r=rI 2/\l=gM h):=by
 by_cases e:a<1\/(h.length:Int)<a
 ·have U1:=A1 h a hl e;by_cases h0:i<0
  ·refine aM func155 ntmps155 ?_;refine S ?_
   (repeat' (first|refine av fun K hK=>?_|refine au ?_|(refine hK _ _ ?_;clear hK K)|(refine ar ?_ ?_<;>intro hc<;>try exact jz)|refine cm (U1) ?_|refine aq ?_|exact jI|(clear hK K)))
   (refine bW [.tmp 8] ?_ ?_<;>(try simp only[go_sem]))
  ·refine aM func155 ntmps155 ?_;refine S ?_
   (repeat' (first|refine av fun K hK=>?_|refine au ?_|(refine hK _ _ ?_;clear hK K)|(refine ar ?_ ?_<;>intro hc<;>try exact jz)|refine cm (U1) ?_|refine aq ?_|exact jI|(clear hK K)))
   (refine bW [.tmp 8] ?_ ?_<;>(try simp only[go_sem]))
 ·have U1:=xC h (a-1).toNat a jB hl hf jB;have e2:MV.bn h a=nth h (a-1).toNat:=by unfold MV.bn;rw[if_neg e]
  rw[e2]at hi;have hk:(a-1).toNat<h.length:=jB;generalize (a-1).toNat=k at*;have hof:=wh hk;have Uq:=xD h (k+1);by_cases h0:i<0
  ·refine aM func155 ntmps155 ?_;refine S ?_
   (repeat' (first|refine av fun K hK=>?_|refine au ?_|(refine hK _ _ ?_;clear hK K)|(refine ar ?_ ?_<;>intro hc<;>try exact jz)|refine cm (U1) ?_|refine aq ?_|exact jI|(clear hK K)))
   (refine bW [.tmp 8] ?_ ?_<;>(try simp only[go_sem]))
  ·refine aM func155 ntmps155 ?_;refine S ?_
   (repeat' (first|refine av fun K hK=>?_|refine au ?_|(refine hK _ _ ?_;clear hK K)|(refine ar ?_ ?_<;>intro hc<;>try exact jz)|refine cm (U1) ?_|refine aq ?_|exact jI|(clear hK K)))
   (refine bW [.tmp 8] ?_ ?_<;>(try simp only[go_sem]))
def KT(h:UF)(n:Int)(hn:n<0\/16<n)(hl:h.length<=40)(hf:h.flatten.length<=40):ab prog 157 [.pt 2 0 0 0,rI n] (gM h) (fun r l=>r=.aQ [rI 0,rI 7]/\l=gM h):=by
 have Wu:=vK h;refine aM func157 ntmps157 ?_
 (refine S ?_;try exact jI)
 by_cases h0:n<0
 ·(repeat' (first|refine av fun K hK=>?_|refine au ?_|(refine hK _ _ ?_;clear hK K)|(refine ar ?_ ?_<;>intro hc<;>try exact jz)|refine aq ?_|exact jI|(clear hK K)))
  (refine bW [.tmp 4,.tmp 5] ?_ ?_<;>(try simp only[go_sem]))
 ·(repeat' (first|refine av fun K hK=>?_|refine au ?_|(refine hK _ _ ?_;clear hK K)|(refine ar ?_ ?_<;>intro hc<;>try exact jz)|refine aq ?_|exact jI|(clear hK K)))
  (refine bW [.tmp 4,.tmp 5] ?_ ?_<;>(try simp only[go_sem]))
def O6(h:UF)(n:Int)(hn:0<=n/\n<=16)(hc:40<(h.length:Int)+h.flatten.length+n+1)(hl:h.length<=40)(hf:h.flatten.length<=40):ab prog 157 [.pt 2 0 0 0,rI n] (gM h) (fun r l=>r=.aQ [rI 0,rI 4]/\l=gM h):=by
 have Wu:=vK h;refine aM func157 ntmps157 ?_;refine S ?_
 (repeat' (first|refine av fun K hK=>?_|refine au ?_|(with_reducible refine gR 3 ?_);refine dE 3 (bf 0 16) mixed ?_|(refine hK _ _ ?_;clear hK K)|(refine ar ?_ ?_<;>intro hc<;>try exact jz)|refine aq ?_|exact jI|(clear hK K)))
 (refine bW [.tmp 4,.tmp 5] ?_ ?_<;>(try simp only[go_sem]))
def On(h:UF)(k:Nat)(hn:k<=16)(hc:h.length+h.flatten.length+k+1<=40):ab prog 157 [.pt 2 0 0 0,rI k] (gM h) (fun r l=>r=.aQ [rI (h.length+1:Nat),rI 0]/\l=gM (h++[List.replicate k 0])):=by
 have Wu:=vK h;unfold gM;rw[LH,L8,List.map_append,SD];refine aM func157 ntmps157 ?_;refine S ?_
 (repeat' (first|refine av fun K hK=>?_|refine au ?_|(with_reducible refine gR 3 ?_);refine dE 3 (bf 0 16) mixed ?_|(with_reducible refine gR 6 ?_);refine dE 6 (bf 0 15) mixed ?_|(refine hK _ _ ?_;clear hK K)|(refine ar ?_ ?_<;>intro hc<;>try exact jz)|(refine Qi (e:=3) (z0:=.int .i64 0) (css:=h.flatten.map eI) jG ⟨.i64,jG⟩ jG jG rfl (by simp only[go_sem];rfl) (by rw[List.length_map]) (by rw[List.length_map]) (by simp only[go_sem,room,List.length_map];omega) ?_;simp only[List.length_map];try refine S ?_)|refine aq ?_|exact jI|(clear hK K)))
 (refine bW [.tmp 4,.tmp 5] ?_ ?_<;>(try simp only[go_sem]))
 simp[eI]
def oy(p:af)(L:List ay)(a:Int)(h0:0<=a)(h1:a.toNat<p.aa.nodes.length):ab prog 142 [.pt 0 0 0 0,rI a] (bU p L) (fun r l=>r=.agg (eH (ao p a))/\l=bU p L):=by
 unfold ao;refine aM func142 ntmps142 ?_;refine S ?_
 (repeat' (first|refine av fun K hK=>?_|refine au ?_|(refine hK _ _ ?_;clear hK K)|(refine ar ?_ ?_<;>intro hc<;>try exact jz)|refine al 5 ?_|refine aq ?_|exact jI|(clear hK K)))
 (refine ba [.cell 4 66] ?_;try simp only[go_sem])
def iZ(p:af)(L:List ay)(op a:Int)(hL:L.length<=1000000):ab prog 126 [.pt 0 0 0 0,rI op,rI a] (bU p L) (fun r l=>r=rI L.length/\l=bU p (L++[⟨op,a,0,sE⟩])):=by
 refine aM func126 ntmps126 ?_;refine S ?_
 (repeat' (first|refine av fun K hK=>?_|refine au ?_|(refine hK _ _ ?_;clear hK K)|(refine ar ?_ ?_<;>intro hc<;>try exact jz)|refine aq ?_|exact jI|(clear hK K)))
 (refine ba [.tmp 6] ?_;try simp only[go_sem])
 rw[show((L.length+1:Nat):Int)-1=(L.length:Int) from jB]
def B3(p:af)(L:List ay)(k:Nat)(hk:k<L.length)(hL:L.length<=1000000):ab prog 176 [.pt 0 0 0 0,rI k] (bU p L) (fun r l=>r=.aQ []/\l=bU p (L.set k { nth L k with a:=L.length })):=by
 refine aM func176 ntmps176 ?_;refine S ?_
 (repeat' (first|refine av fun K hK=>?_|refine au ?_|(with_reducible refine gR 0 ?_);refine dE 0 (bf 0 13) mixed ?_|(refine hK _ _ ?_;clear hK K)|(refine ar ?_ ?_<;>intro hc<;>try exact jz)|refine aq ?_|exact jI|(clear hK K)))
 (refine bW [] ?_ ?_<;>(try simp only[go_sem]))
def y9(p:af)(a:Int):List ay:=if(ao p a).kind=1 then[iI 2 (ao p a).n]else if(ao p a).kind=2 then[iI 3 (ao p a).n]else if(ao p a).kind=3 then[⟨4,0,0,(ao p a).name⟩]else if(ao p a).kind=4 then[⟨5,nth p.slots a.toNat,nth p.types a.toNat,sE⟩]else if(ao p a).kind=19 then[iI 14 0]else[]
def TV(p:af)(L:List ay)(a:Int)(h0:0<=a)(h2:a.toNat<p.slots.length)(h3:a.toNat<p.types.length)(hL:L.length<=1000000) :
  ab prog 179 [.pt 0 0 0 0,.agg (eH (ao p a)),rI a] (bU p L) (fun r l=>r=.aQ []/\l=bU p (L++y9 p a)):=by
 unfold y9;have VR:=iZ p L 2 (ao p a).n hL;have Ya:=iZ p L 3 (ao p a).n hL;have hp3:=iZ p L 14 0 hL;generalize ao p a=nd at*;by_cases k1:nd.kind=1
 ·rw[if_pos k1];refine aM func179 ntmps179 ?_;refine S ?_
  (have W:=k1;repeat' (first|refine av fun K hK=>?_|refine au ?_|(refine hK _ _ ?_;clear hK K)|(refine ar ?_ ?_<;>intro hc<;>try exact jz)|refine bx 5 ?_|refine cm (VR) ?_|refine aq ?_|exact jI|(clear hK K)))
  (refine ba [] ?_;try simp only[go_sem])
 rw[if_neg k1];have n1:=eq_false k1;by_cases k2:nd.kind=2
 ·rw[if_pos k2];refine aM func179 ntmps179 ?_;refine S ?_
  (have W:=k2;repeat' (first|refine av fun K hK=>?_|refine au ?_|(refine hK _ _ ?_;clear hK K)|(refine ar ?_ ?_<;>intro hc<;>try exact jz)|refine bx 5 ?_|refine cm (Ya) ?_|refine aq ?_|exact jI|(clear hK K)))
  (refine ba [] ?_;try simp only[go_sem])
 rw[if_neg k2];have n2:=eq_false k2;by_cases k3:nd.kind=3
 ·rw[if_pos k3];refine aM func179 ntmps179 ?_;refine S ?_
  (have W:=k3;repeat' (first|refine av fun K hK=>?_|refine au ?_|(with_reducible refine gR 7 ?_);refine dE 7 (bf 0 13) mixed ?_|(refine hK _ _ ?_;clear hK K)|(refine ar ?_ ?_<;>intro hc<;>try exact jz)|refine bx 5 ?_|refine aq ?_|exact jI|(clear hK K)))
  (refine ba [] ?_;try simp only[go_sem])
 rw[if_neg k3];have n3:=eq_false k3;by_cases k4:nd.kind=4
 ·rw[if_pos k4];refine aM func179 ntmps179 ?_;refine S ?_
  (have W:=k4;repeat' (first|refine av fun K hK=>?_|refine au ?_|(with_reducible refine gR 9 ?_);refine dE 9 (bf 0 27) mixed ?_|(refine hK _ _ ?_;clear hK K)|(refine ar ?_ ?_<;>intro hc<;>try exact jz)|refine bx 5 ?_|refine aq ?_|exact jI|(clear hK K)))
  (refine ba [] ?_;try simp only[go_sem])
 rw[if_neg k4];have n4:=eq_false k4;by_cases k5:nd.kind=19
 ·rw[if_pos k5];refine aM func179 ntmps179 ?_;refine S ?_
  (have W:=k5;repeat' (first|refine av fun K hK=>?_|refine au ?_|(refine hK _ _ ?_;clear hK K)|(refine ar ?_ ?_<;>intro hc<;>try exact jz)|refine bx 5 ?_|refine cm (hp3) ?_|refine aq ?_|exact jI|(clear hK K)))
  (refine ba [] ?_;try simp only[go_sem])
 rw[if_neg k5,List.append_nil];have n5:=eq_false k5;refine aM func179 ntmps179 ?_;refine S ?_
 (have W:=jA n1 (jA n2 (jA n3 (jA n4 (n5))));repeat' (first|refine av fun K hK=>?_|refine au ?_|(refine hK _ _ ?_;clear hK K)|(refine ar ?_ ?_<;>intro hc<;>try exact jz)|refine bx 5 ?_|refine aq ?_|exact jI|(clear hK K)))
 (refine ba [] ?_;try simp only[go_sem])
attribute [local go_sem] iI
theorem BO{p:af}(ht:aR p.aa):∀(n m:Nat) (a k:Int),0<=a->a.toNat<p.aa.nodes.length->cR (bX p.aa.nodes a)->a.toNat<n->a.toNat<m->bo p n a k=bo p m a k
 |0,m,a,k,_,_,_,hn,_=>by omega
 |n+1,0,a,k,_,_,_,_,hm=>jB
 |n+1,m+1,a,k,h0,hl,hk,hn,hm=>by
  have sh:=(ht.shape a.toNat hl).1;have hb:=(ht.shape a.toNat hl).2.1;have UY:cR (ao p a).kind:=hk;unfold cR at UY;have aF:∀x k,x∈(ao p a).l->cR (bX p.aa.nodes x)->bo p n x k=bo p m x k:=fun x k hx U4=>by have:=hb x hx;exact BO ht n m x k this.1 jB U4 jB jB
  rw[l9,l9];have Vj:(ao p a).kind=1\/(ao p a).kind=2\/(ao p a).kind=3\/(ao p a).kind=4\/((ao p a).kind=5\/(ao p a).kind=6\/(ao p a).kind=7\/(ao p a).kind=8)\/(ao p a).kind=9:=jB;rcases Vj with e|e|e|e|e|e
  ·rw[if_pos e,if_pos e]
  ·rw[jN,if_pos e,jN,if_pos e]
  ·rw[jN,jN,if_pos e,jN,jN,if_pos e]
  ·rw[jN,jN,jN,if_pos e,jN,jN,jN,if_pos e]
  ·obtain⟨x,u',hx⟩:=sh.one (by have e:(nth p.aa.nodes a.toNat).kind=5\/(nth p.aa.nodes a.toNat).kind=6\/(nth p.aa.nodes a.toNat).kind=7\/(nth p.aa.nodes a.toNat).kind=8:=e;omega);have u':(ao p a).l=[x]:=u';have VI:nth (ao p a).l 0=x:=by rw[u'];rfl
   have e1:=aF x k (by rw[u'];simp) hx;rw[VI,e1];rcases e with e|e|e|e<;>simp only[e,Int.reduceEq,↓reduceIte]
  ·obtain⟨x,y,u',hx,hy⟩:=sh.two (.inl e);have u':(ao p a).l=[x,y]:=u';have VI:nth (ao p a).l 0=x:=by rw[u'];rfl
   have Yz:nth (ao p a).l 1=y:=by rw[u'];rfl
   have e1:=fun k=>aF x k (by rw[u'];simp) hx
   have e2:=fun k=>aF y k (by rw[u'];simp) hy
   rw[VI,Yz];simp only[e,e1,e2,Int.reduceEq,↓reduceIte]
structure fw(p:af):Prop where
 ok:fX p
 neg:∀k,k<p.aa.nodes.length->¬ju (nth p.aa.nodes k).kind->nth p.slots k<=0
 pos:∀k,k<p.aa.nodes.length->ju (nth p.aa.nodes k).kind->0<=nth p.slots k
def Cl(p:af)(n:Nat):Prop:=∀(a:Int) (L:List ay),0<=a->a.toNat<p.aa.nodes.length->fv (bX p.aa.nodes a)->a.toNat<n->¬(1000000<L.length+3000*n)->ab prog 168 [.pt 0 0 0 0,rI a] (bU p L) (fun r l=>r=.aQ []/\l=bU p (L++jx p n a L.length))
variable{p:af}{n:Nat}
def nq{a k:Int}(h:cR (bX p.aa.nodes a)):jx p n a k=bo p n a k:=by have h:cR (ao p a).kind:=h;unfold cR at h;rw[uk,jN,jN,jN]
def Tr(hp:fw p)(hx:Cl p n)(a:Int)(L:List ay)(h0:0<=a)(hl:a.toNat<p.aa.nodes.length)(hk:(ao p a).kind=9)(hn:a.toNat<n+1)(hL:¬(1000000<L.length+3000*(n+1))):ab prog 177 [.pt 0 0 0 0,.agg (eH (ao p a))] (bU p L) (fun r l=>r=.aQ []/\l=bU p (L++bo p (n+1) a L.length)):=by
 have ht:=hp.ok.ok.aa;have hb:=(ht.shape a.toNat hl).2.1;obtain⟨x,y,u',Vb,Yb⟩:=(ht.shape a.toNat hl).1.two (.inl hk);have u':(ao p a).l=[x,y]:=u';have VI:nth (ao p a).l 0=x:=by rw[u'];rfl
 have Yz:nth (ao p a).l 1=y:=by rw[u'];rfl
 have bx:=hb x (by show x∈(ao p a).l;rw[u'];simp);have by_:=hb y (by show y∈(ao p a).l;rw[u'];simp);have I':=fun(z:Int) (k:Int) (lo:Nat)=>@mf p ht n z k lo
 obtain⟨lo,Un⟩:=(ht.shape a.toNat hl).2.2;have Un:aL p.aa.nodes lo (ao p a).l a.toNat:=Un;rw[u']at Un;obtain⟨c1,c2,c3,c4,c5,c6⟩:=kI Un;obtain⟨d1,d2,d3,d4,d5⟩:=kK c6;have lx:=fun k=>I' x k lo c1 jB Vb c5
 have ly:=fun k=>I' y k _ d1 jB Yb d5
 have hm:=ht.many;have ex:=hx x L bx.1 jB (.inl Vb) jB jB;rw[nq Vb]at ex;have ey:=fun(M:List ay) (hM:M.length<=L.length+2900)=>hx y M by_.1 jB (.inl Yb) jB jB
 have hL:¬(997000<L.length):=jB;clear hx;rename_i hL0;clear hL0;simp only[nq Yb]at ey;have e9:bo p (n+1) a L.length=(let x:=bo p n x L.length;if lh (ao p a).name=7 then x++bo p n y (L.length+x.length)++[⟨7,0,0,(ao p a).name⟩]else let y:=bo p n y (L.length+x.length+1);x++[iI (lh (ao p a).name) (L.length+x.length+1+y.length)]++y):=by rw[l9];simp only[hk,VI,Yz,Int.reduceEq,↓reduceIte]
 rw[e9];clear e9;generalize hX:bo p n x (L.length:Int)=X at*;have lX:X.length<=1300:=by have:=lx L.length;rw[hX]at this;omega
 have pt:=fun op=>iZ p (L++X) op 0 (by simp only[List.length_append];omega)
 have ey1:=ey (L++X) (by simp only[List.length_append];omega);generalize ao p a=nd at*;by_cases k1:nd.name=(⟨#[38,38]⟩:UI)
 ·rw[k1];have hs:lh (⟨#[38,38]⟩:UI)=18:=by unfold lh;rw[if_pos rfl]
  simp only[hs,Int.reduceEq,↓reduceIte];rw[show(L.length:Int)+X.length+1=((L++X++[iI 18 0]).length:Nat) by simp;omega];have ey2:=ey (L++X++[iI 18 0]) (by simp only[List.length_append,List.length_singleton];omega);generalize hY:bo p n y ((L++X++[iI 18 0]).length:Int)=Y at*;have lY:Y.length<=1300:=by have:=ly (L++X++[iI 18 0]).length;rw[hY]at this;omega
  have hh:=B3 p (L++X++[iI 18 0]++Y) (L++X).length (by simp only[List.length_append,List.length_singleton];omega) (by simp only[List.length_append,List.length_singleton];omega);rw[show nth (L++X++[iI 18 0]++Y) (L++X).length=iI 18 0 by rw[List.append_assoc];simp[nth]]at hh;have e8:(L++X++[iI 18 0]++Y).set (L++X).length ⟨18,((L++X++[iI 18 0]++Y).length:Nat),0,sE⟩=L++(X++[iI 18 (((L++X++[iI 18 0]).length:Nat)+Y.length)]++Y):=by rw[List.append_assoc,List.set_append_right _ _ jl,Nat.sub_self];simp[iI];omega
  have e8:bU p ((L++X++[iI 18 0]++Y).set (L++X).length { iI 18 0 with a:=((L++X++[iI 18 0]++Y).length:Nat) })=bU p (L++(X++[iI 18 (((L++X++[iI 18 0]).length:Nat)+Y.length)]++Y)):=by rw[<-e8];rfl
  rw[e8,show(L++X).length=L.length+X.length from List.length_append]at hh;clear e8;have Yn:=pt 18;refine aM func177 ntmps177 ?_
  (refine S ?_;try exact jI)
  have d1:(((⟨#[124,124]⟩:UI):UI)=(⟨#[38,38]⟩:UI))=False:=eq_false jC;have k1':(nd.name=(⟨#[38,38]⟩:UI))=True:=eq_true k1
  (have W:=jA k1' (jA u' (d1));repeat' (first|refine av fun K hK=>?_|refine au ?_|(refine hK _ _ ?_;clear hK K)|(refine ar ?_ ?_<;>intro hc<;>try exact jz)|refine cm (ex) ?_|refine ut 6 ?_|refine vt [] rk ?_|refine vt [(⟨#[38,38]⟩:UI)] rk ?_|refine pN (n:=nd.name) (vs:=[rI 18,rI 19]) [(⟨#[38,38]⟩:UI),(⟨#[124,124]⟩:UI)] (.int .i64 0) (.aQ [rI 18,rB true]) rk jG (by unfold oO;rw[if_pos rfl];simp only[pT,k1,↓reduceIte]) ?_|refine cm (Yn) ?_|refine cm (ey2) ?_|refine cm (hh) ?_|refine aq ?_|exact jI|(clear hK K)))
  (refine ba [] ?_;try simp only[go_sem])
 by_cases k2:nd.name=(⟨#[124,124]⟩:UI)
 ·rw[k2];have hs:lh (⟨#[124,124]⟩:UI)=19:=by unfold lh;rw[if_neg jC,if_pos rfl]
  simp only[hs,Int.reduceEq,↓reduceIte];rw[show(L.length:Int)+X.length+1=((L++X++[iI 19 0]).length:Nat) by simp;omega];have ey2:=ey (L++X++[iI 19 0]) (by simp only[List.length_append,List.length_singleton];omega);generalize hY:bo p n y ((L++X++[iI 19 0]).length:Int)=Y at*;have lY:Y.length<=1300:=by have:=ly (L++X++[iI 19 0]).length;rw[hY]at this;omega
  have hh:=B3 p (L++X++[iI 19 0]++Y) (L++X).length (by simp only[List.length_append,List.length_singleton];omega) (by simp only[List.length_append,List.length_singleton];omega);rw[show nth (L++X++[iI 19 0]++Y) (L++X).length=iI 19 0 by rw[List.append_assoc];simp[nth]]at hh;have e8:(L++X++[iI 19 0]++Y).set (L++X).length ⟨19,((L++X++[iI 19 0]++Y).length:Nat),0,sE⟩=L++(X++[iI 19 (((L++X++[iI 19 0]).length:Nat)+Y.length)]++Y):=by rw[List.append_assoc,List.set_append_right _ _ jl,Nat.sub_self];simp[iI];omega
  have e8:bU p ((L++X++[iI 19 0]++Y).set (L++X).length { iI 19 0 with a:=((L++X++[iI 19 0]++Y).length:Nat) })=bU p (L++(X++[iI 19 (((L++X++[iI 19 0]).length:Nat)+Y.length)]++Y)):=by rw[<-e8];rfl
  rw[e8,show(L++X).length=L.length+X.length from List.length_append]at hh;clear e8;have Yn:=pt 19;refine aM func177 ntmps177 ?_
  (refine S ?_;try exact jI)
  have d1:(((⟨#[124,124]⟩:UI):UI)=(⟨#[38,38]⟩:UI))=False:=eq_false jC;have k2':(nd.name=(⟨#[124,124]⟩:UI))=True:=eq_true k2
  (have W:=jA k2' (jA u' (d1));repeat' (first|refine av fun K hK=>?_|refine au ?_|(refine hK _ _ ?_;clear hK K)|(refine ar ?_ ?_<;>intro hc<;>try exact jz)|refine cm (ex) ?_|refine ut 6 ?_|refine vt [] rk ?_|refine vt [(⟨#[38,38]⟩:UI)] rk ?_|refine pN (n:=nd.name) (vs:=[rI 18,rI 19]) [(⟨#[38,38]⟩:UI),(⟨#[124,124]⟩:UI)] (.int .i64 0) (.aQ [rI 19,rB true]) rk jG (by unfold oO;rw[if_pos rfl];simp only[pT,k2,d1,↓reduceIte]) ?_|refine cm (Yn) ?_|refine cm (ey2) ?_|refine cm (hh) ?_|refine aq ?_|exact jI|(clear hK K)))
  (refine ba [] ?_;try simp only[go_sem])
 have n1:=eq_false k1;have n2:=eq_false k2;have hs:lh nd.name=7:=by unfold lh;rw[if_neg k1,if_neg k2]
 simp only[hs,↓reduceIte];rw[show(L.length:Int)+X.length=((L++X).length:Nat) from jE];generalize hY:bo p n y ((L++X).length:Int)=Y at*;have lY:Y.length<=1300:=by have:=ly (L++X).length;rw[hY]at this;omega
 simp only[<-List.append_assoc];refine aM func177 ntmps177 ?_
 (refine S ?_;try exact jI)
 have d1:(((⟨#[124,124]⟩:UI):UI)=(⟨#[38,38]⟩:UI))=False:=eq_false jC
 (have W:=jA n1 (jA n2 (jA u' (d1)));repeat' (first|refine av fun K hK=>?_|refine au ?_|(with_reducible refine gR 6 ?_);refine dE 6 (bf 0 13) mixed ?_|(refine hK _ _ ?_;clear hK K)|(refine ar ?_ ?_<;>intro hc<;>try exact jz)|refine cm (ex) ?_|refine ut 6 ?_|refine vt [] rk ?_|refine vt [(⟨#[38,38]⟩:UI)] rk ?_|refine pN (n:=nd.name) (vs:=[rI 18,rI 19]) [(⟨#[38,38]⟩:UI),(⟨#[124,124]⟩:UI)] (.int .i64 0) (.aQ [rI 0,rB false]) rk jG (by unfold oO;rw[if_pos rfl];simp only[pT,k1,k2,↓reduceIte]) ?_|refine cm (ey1) ?_|refine aq ?_|exact jI|(clear hK K)))
 (refine ba [] ?_;try simp only[go_sem])
def CT(p:af)(f:FuncId)(hf:aS prog f=true)(g:Int->Int->List ay)(l:UG)(L:List ay)(hl:l.length<=1000)(B:Nat)(hB:¬(B<L.length+(bv g L.length l []).length))
  (hc:∀x∈l,∀M:List ay,¬(B<M.length)->ab prog f [.pt 0 0 0 0,rI x] (bU p M) (fun r l=>r=.aQ []/\l=bU p (M++g x M.length))) :
  ab prog 141 [aP eI 1 l,.bd f [.pt 0 0 0 0]] (bU p L) (fun r l'=>r=.aQ []/\l'=bU p (L++bv g L.length l [])):=by
 refine aM func141 ntmps141 ?_;generalize hE:bU p (L++bv g L.length l [])=E;refine S ?_
 (repeat' (first|refine av fun K hK=>?_|refine au ?_|(refine hK _ _ ?_;clear hK K)|(refine ar ?_ ?_<;>intro hc<;>try exact jz)|refine aq ?_|exact jI|(clear hK K)))
 refine eN (S:=Nat) [(5,1),(8,8)] (fun k=>k<=l.length) (fun k=>[(8,rI k)]) (fun k=>⟨[0,1],bU p (L++bv g L.length (l.take k) [])⟩) (fun k=>l.length-k) 0 jB (eR (by show _=Hp.mk _ (bU p (L++[]));rw[List.append_nil];rfl) cH) ?_;rintro k hk Kr Ut;have Uq:=Oz g L.length l k;by_cases O':k<l.length
 ·have XT:=hc (nth l k) (ff O') (L++bv g L.length (l.take k) []) (by rw[List.length_append];omega);have hs:=Oq g L.length l k O';rw[List.append_assoc,show((L++bv g L.length (l.take k) []).length:Int)=L.length+(bv g L.length (l.take k) []).length by rw[List.length_append];rfl,<-hs]at XT;generalize hX:bv g L.length (l.take k) []=X at*;generalize hY:bv g L.length (l.take (k+1)) []=Y at*;refine S ?_
  (have W:=hf;repeat' (first|refine av fun K hK=>?_|refine au ?_|(refine hK _ _ ?_;clear hK K)|(refine ar ?_ ?_<;>intro hc<;>try exact jz)|refine bm XT ?_|refine aq ?_|exact jI|(clear hK K)))
  refine Ut _ _ (eQ (k+1) jB jJ (by rw[hY];simp only[bU,ko,List.length_append,List.map_append,List.cons_append,List.nil_append]) cH)
 ·have e:k=l.length:=jB;subst e;rw[List.take_length,hE];refine S ?_
  (repeat' (first|refine av fun K hK=>?_|refine au ?_|(refine hK _ _ ?_;clear hK K)|(refine ar ?_ ?_<;>intro hc<;>try exact jz)|refine aq ?_|exact jI|(clear hK K)))
  (refine bW [] ?_ ?_<;>(try simp only[go_sem]))
def NN(n:bq)(f:bh):ab prog 184 [.agg (fZ f),.pt 4 0 0 0] [(4,.var 66 (eH n))] (fun r l=>r=rB (decide (f.name=n.name))/\l=[(4,.var 66 (eH n))]):=by
 refine aM func184 ntmps184 ?_
 (repeat' (first|refine av fun K hK=>?_|refine au ?_|(refine hK _ _ ?_;clear hK K)|(refine ar ?_ ?_<;>intro hc<;>try exact jz)|refine bx 5 ?_|refine aq ?_|exact jI|(clear hK K)))
 (refine ba [.tmp 3] ?_;try simp only[go_sem])
def ML(n:bq)(L:List bh)(k:Nat)(hL:L.length<=1000)(hk:k<L.length)(US:(nth L k).name=n.name)(WK:∀i,i<k->(nth L i).name≠n.name) :
  ab prog 127 [aP fZ 5 L,.dW 184 [.pt 4 0 0 0]] [(4,.var 66 (eH n))] (fun r l=>r=rI k/\l=[(4,.var 66 (eH n))]):=by
 refine aM func127 ntmps127 ?_
 (repeat' (first|refine av fun K hK=>?_|refine au ?_|(refine hK _ _ ?_;clear hK K)|(refine ar ?_ ?_<;>intro hc<;>try exact jz)|refine aq ?_|exact jI|(clear hK K)))
 refine eN (S:=Nat) [(4,2),(8,11)] (fun i=>i<=k) (fun i=>[(8,rI i)]) (fun i=>⟨[4],[(4,.var 66 (eH n))]⟩) (fun i=>k-i) 0 jB (eR rfl cH) ?_;rintro i hi Kr Ut;have W6:=NN n (nth L i);by_cases e:i=k
 ·subst e;rw[decide_eq_true US]at W6;refine S ?_
  (repeat' (first|refine av fun K hK=>?_|refine au ?_|(refine hK _ _ ?_;clear hK K)|(refine ar ?_ ?_<;>intro hc<;>try exact jz)|refine cl W6 ?_|refine aq ?_|exact jI|(clear hK K)))
  (refine ba [.tmp 4] ?_;try simp only[go_sem])
 ·rw[decide_eq_false (WK i jB)]at W6;refine S ?_
  (repeat' (first|refine av fun K hK=>?_|refine au ?_|(refine hK _ _ ?_;clear hK K)|(refine ar ?_ ?_<;>intro hc<;>try exact jz)|refine cl W6 ?_|refine aq ?_|exact jI|(clear hK K)))
  refine Ut _ _ (eQ (i+1) jB jJ rfl cH)
def Tt(hp:fw p)(hx:Cl p n)(a:Int)(L:List ay)(h0:0<=a)(hl:a.toNat<p.aa.nodes.length)(hk:(ao p a).kind=21)(hn:a.toNat<n+1)(hL:¬(1000000<L.length+3000*(n+1))):ab prog 178 [.pt 0 0 0 0,.agg (eH (ao p a))] (bU p L) (fun r l=>r=.aQ []/\l=bU p (L++cF p n a L.length)):=by
 have ht:=hp.ok.ok.aa;have haY:=ht.aw;have hm:=ht.many;have hb:=(ht.shape a.toNat hl).2.1;have Vf:=(ht.shape a.toNat hl).1.call hk;obtain⟨lo,Un⟩:=(ht.shape a.toNat hl).2.2;have I':=Bt ht n (L.length:Int) lo hl hk Un;obtain⟨k,hc⟩:=callee hp.ok hl hk;have Xa:=ML (ao p a) p.aa.aw k jB hc.lt hc.name (fun i hi=>by have:=hp.ok.names.one i k hi hc.lt;rwa [hc.name]at this);have hlc:(cF p n a L.length).length=(bv (bo p n) (L.length:Int) (ao p a).l []).length+1:=by unfold cF;simp
 have Wk:=CT p 168 jD (bo p n) (ao p a).l L (by have:=hc.Bi;omega) (1000000-3000*n) jB (fun x Xb M hM=>by have YJ:=hb x Xb;have U4:=Vf x Xb;have:=hx x M YJ.1 jB (.inl U4) jB jB;rwa [nq U4]at this)
 have U1:BP p a=k:=hc.last;unfold cF;rw[U1];have hL:¬(997000<L.length):=jB;rename_i hL0;clear hx hL0;have haZ:=hc.Bi;generalize ao p a=nd at*;generalize hX:bv (bo p n) (L.length:Int) nd.l []=X at*;simp only[<-List.append_assoc];refine aM func178 ntmps178 ?_;refine S ?_
 (repeat' (first|refine av fun K hK=>?_|refine au ?_|(with_reducible refine gR 3 ?_);refine dE 3 (bf 0 15) mixed ?_|(refine hK _ _ ?_;clear hK K)|(refine ar ?_ ?_<;>intro hc<;>try exact jz)|refine aV 4 ?_|refine cm (Wk) ?_|refine cm (Xa) ?_|refine aq ?_|exact jI|(clear hK K)))
 (refine ba [] ?_;try simp only[go_sem])
attribute [local go_sem] iI
def KO(a x:Int)(L X:List ay)(op:Int)(h0:0<=a)(hl:a.toNat<p.aa.nodes.length)(hs:a.toNat<p.slots.length)(u':(ao p a).l=[x])(hL:¬(1000000<(L++X).length))
  (hm:oO (ao p a).kind [6,7,8,20,5] [rI 10,rI 8,rI 9,rI 13,rI 11] (.raw (.int .i64 0)) true=.aQ [rI op,rB true])
  (ex:ab prog 168 [.pt 0 0 0 0,rI x] (bU p L) (fun r l=>r=.aQ []/\l=bU p (L++X))) :
  ab prog 168 [.pt 0 0 0 0,rI a] (bU p L) (fun r l=>r=.aQ []/\l=bU p (L++X++[iI op (if nth p.slots a.toNat<0 then 0 else nth p.slots a.toNat)])):=by
 have p':=oy p L a h0 hl;have Yn:=fun v=>iZ p (L++X) op v jB
 generalize ao p a=nd at*;refine aM func168 ntmps168 ?_;refine S ?_
 (have W:=u';repeat' (first|refine av fun K hK=>?_|refine au ?_|(refine hK _ _ ?_;clear hK K)|(refine ar ?_ ?_<;>intro hc<;>try exact jz)|refine al 5 ?_|refine cm (p') ?_|refine ut 6 ?_|refine kX [] jt ?_|refine kX [6] jt ?_|refine kX [6,7] jt ?_|refine kX [6,7,8] jt ?_|refine kX [6,7,8,20] jt ?_|refine zF (n:=nd.kind) (vs:=[rI 10,rI 8,rI 9,rI 13,rI 11]) [6,7,8,20,5] (.int .i64 0) (.aQ [rI op,rB true]) jt jG hm ?_|refine cm (ex) ?_|refine cm (Yn _) ?_|refine aq ?_|exact jI|(clear hK K)))
 (refine ba [] ?_;try simp only[go_sem])
def RV(a:Int)(L X:List ay)(h0:0<=a)(hl:a.toNat<p.aa.nodes.length)
  (hm:oO (ao p a).kind [6,7,8,20,5] [rI 10,rI 8,rI 9,rI 13,rI 11] (.raw (.int .i64 0)) true=.aQ [rI 0,rB false]) (hk:(ao p a).kind=9)
  (ex:ab prog 177 [.pt 0 0 0 0,.agg (eH (ao p a))] (bU p L) (fun r l=>r=.aQ []/\l=bU p (L++X))) :
  ab prog 168 [.pt 0 0 0 0,rI a] (bU p L) (fun r l=>r=.aQ []/\l=bU p (L++X)):=by
 have p':=oy p L a h0 hl;generalize ao p a=nd at*;rw[hk]at hm;refine aM func168 ntmps168 ?_;refine S ?_
 (have W:=hk;repeat' (first|refine av fun K hK=>?_|refine au ?_|(refine hK _ _ ?_;clear hK K)|(refine ar ?_ ?_<;>intro hc<;>try exact jz)|refine al 5 ?_|refine cm (p') ?_|refine ut 6 ?_|refine kX [] jt ?_|refine kX [6] jt ?_|refine kX [6,7] jt ?_|refine kX [6,7,8] jt ?_|refine kX [6,7,8,20] jt ?_|refine zF (n:=9) (vs:=[rI 10,rI 8,rI 9,rI 13,rI 11]) [6,7,8,20,5] (.int .i64 0) (.aQ [rI 0,rB false]) jt jG hm ?_|refine cm (ex) ?_|refine aq ?_|exact jI|(clear hK K)))
 (refine ba [] ?_;try simp only[go_sem])
def MN(a:Int)(L X:List ay)(h0:0<=a)(hl:a.toNat<p.aa.nodes.length)
  (hm:oO (ao p a).kind [6,7,8,20,5] [rI 10,rI 8,rI 9,rI 13,rI 11] (.raw (.int .i64 0)) true=.aQ [rI 0,rB false]) (hk:(ao p a).kind=21)
  (ex:ab prog 178 [.pt 0 0 0 0,.agg (eH (ao p a))] (bU p L) (fun r l=>r=.aQ []/\l=bU p (L++X))) :
  ab prog 168 [.pt 0 0 0 0,rI a] (bU p L) (fun r l=>r=.aQ []/\l=bU p (L++X)):=by
 have p':=oy p L a h0 hl;generalize ao p a=nd at*;rw[hk]at hm;refine aM func168 ntmps168 ?_;refine S ?_
 (have W:=hk;repeat' (first|refine av fun K hK=>?_|refine au ?_|(refine hK _ _ ?_;clear hK K)|(refine ar ?_ ?_<;>intro hc<;>try exact jz)|refine al 5 ?_|refine cm (p') ?_|refine ut 6 ?_|refine kX [] jt ?_|refine kX [6] jt ?_|refine kX [6,7] jt ?_|refine kX [6,7,8] jt ?_|refine kX [6,7,8,20] jt ?_|refine zF (n:=21) (vs:=[rI 10,rI 8,rI 9,rI 13,rI 11]) [6,7,8,20,5] (.int .i64 0) (.aQ [rI 0,rB false]) jt jG hm ?_|refine cm (ex) ?_|refine aq ?_|exact jI|(clear hK K)))
 (refine ba [] ?_;try simp only[go_sem])
def Mb(a:Int)(L X:List ay)(h0:0<=a)(hl:a.toNat<p.aa.nodes.length)
  (hm:oO (ao p a).kind [6,7,8,20,5] [rI 10,rI 8,rI 9,rI 13,rI 11] (.raw (.int .i64 0)) true=.aQ [rI 0,rB false]) (hk:(ao p a).kind≠9) (Uy:(ao p a).kind≠21)
  (ex:ab prog 179 [.pt 0 0 0 0,.agg (eH (ao p a)),rI a] (bU p L) (fun r l=>r=.aQ []/\l=bU p (L++X))) :
  ab prog 168 [.pt 0 0 0 0,rI a] (bU p L) (fun r l=>r=.aQ []/\l=bU p (L++X)):=by
 have p':=oy p L a h0 hl;generalize ao p a=nd at*;have n1:=eq_false hk;have n2:=eq_false Uy;refine aM func168 ntmps168 ?_;refine S ?_
 (have W:=jA n1 n2;repeat' (first|refine av fun K hK=>?_|refine au ?_|(refine hK _ _ ?_;clear hK K)|(refine ar ?_ ?_<;>intro hc<;>try exact jz)|refine al 5 ?_|refine cm (p') ?_|refine ut 6 ?_|refine kX [] jt ?_|refine kX [6] jt ?_|refine kX [6,7] jt ?_|refine kX [6,7,8] jt ?_|refine kX [6,7,8,20] jt ?_|refine zF (n:=nd.kind) (vs:=[rI 10,rI 8,rI 9,rI 13,rI 11]) [6,7,8,20,5] (.int .i64 0) (.aQ [rI 0,rB false]) jt jG hm ?_|refine cm (ex) ?_|refine aq ?_|exact jI|(clear hK K)))
 (refine ba [] ?_;try simp only[go_sem])
def PJ(ht:aR p.aa)(n m:Nat)(a k:Int)(hl:a.toNat<p.aa.nodes.length)(hk:(ao p a).kind=21)(hn:a.toNat<=n)(hm:a.toNat<=m):cF p n a k=cF p m a k:=by
 have hb:=(ht.shape a.toNat hl).2.1;have Vf:=(ht.shape a.toNat hl).1.call hk;unfold cF;rw[DH (ao p a).l k [] fun x hx j=>by have YJ:=hb x hx;exact BO ht n m x j YJ.1 jB (Vf x hx) jB jB]
theorem EF{p:af}(hp:fw p):∀n,Cl p n
 |0=>fun a L h0 hl hk hn hL=>by omega
 |n+1=>fun a L h0 hl hk hn hL=>by
  have hx:=EF hp n;have ht:=hp.ok.ok.aa;have hm:=ht.many;have hb:=(ht.shape a.toNat hl).2.1;have VH:p.slots.length=p.aa.nodes.length:=hp.ok.ok.slots;have Xi:p.types.length=p.aa.nodes.length:=hp.ok.ok.types;have sh:=(ht.shape a.toNat hl).1;have UY:fv (ao p a).kind:=hk;unfold fv cR at UY;have aF:∀x k,x∈(ao p a).l->cR (bX p.aa.nodes x)->bo p (n+1) x k=bo p n x k:=fun x k hx U4=>by have:=hb x hx;exact BO ht (n+1) n x k this.1 jB U4 jB jB
  by_cases e21:(ao p a).kind=21
  ·have h1:=Tt hp hx a L h0 hl e21 hn jB;rw[show jx p (n+1) a L.length=cF p n a L.length by rw[uk,jN,jN,if_pos e21];exact PJ ht _ _ a _ hl e21 jB jB];exact MN a L _ h0 hl (by rw[e21];rfl) e21 h1
  by_cases e9:(ao p a).kind=9
  ·have h1:=Tr hp hx a L h0 hl e9 hn jB;rw[nq (show cR _ by unfold cR;show 1<=(ao p a).kind/\(ao p a).kind<=9;omega)];exact RV a L _ h0 hl (by rw[e9];rfl) e9 h1
  have Xj:∀op k,(ao p a).kind=k->(k=5\/k=6\/k=7\/k=8\/k=20)->oO k [6,7,8,20,5] [rI 10,rI 8,rI 9,rI 13,rI 11] (.raw (.int .i64 0)) true=.aQ [rI op,rB true]->∃x X,(ao p a).l=[x]/\bo p n x L.length=X/\bo p (n+1) x L.length=X/\
    ab prog 168 [.pt 0 0 0 0,rI a] (bU p L) (fun r l=>r=.aQ []/\l=bU p (L++(X++[iI op (if nth p.slots a.toNat<0 then 0 else nth p.slots a.toNat)]))):=fun op k e hk5 hm5=>by
   obtain⟨x,u',Vb⟩:=sh.one (by have e:(nth p.aa.nodes a.toNat).kind=k:=e;omega);have u':(ao p a).l=[x]:=u';have YJ:=hb x (by show x∈(ao p a).l;rw[u'];simp);obtain⟨lo,Un⟩:=(ht.shape a.toNat hl).2.2;have Un:aL p.aa.nodes lo (ao p a).l a.toNat:=Un;rw[u']at Un;obtain⟨d1,d2,d3,d4,d5⟩:=kK Un;have lx:=mf ht n x L.length lo d1 jB Vb d5;have ex:=hx x L YJ.1 jB (.inl Vb) jB jB;rw[nq Vb]at ex;refine⟨x,bo p n x L.length,u',rfl,aF x _ (by rw[u'];simp) Vb,?_⟩;rw[<-List.append_assoc];exact KO a x L _ op h0 hl jB u' (by rw[List.length_append];omega) (by rw[e];exact hm5) ex
  have neg:(ao p a).kind=6\/(ao p a).kind=7\/(ao p a).kind=8\/(ao p a).kind=20->(if nth p.slots a.toNat<0 then 0 else nth p.slots a.toNat)=0:=fun e=>by have:=hp.neg a.toNat hl (by unfold ju;have e:(nth p.aa.nodes a.toNat).kind=6\/(nth p.aa.nodes a.toNat).kind=7\/(nth p.aa.nodes a.toNat).kind=8\/(nth p.aa.nodes a.toNat).kind=20:=e;omega);split<;>omega
  by_cases e5:(ao p a).kind=5
  ·obtain⟨x,X,h1,h2,Zb,h3⟩:=Xj 11 5 e5 jB rfl;have hps:=hp.pos a.toNat hl (by unfold ju;have e:(nth p.aa.nodes a.toNat).kind=5:=e5;omega);rw[jN]at h3;rw[nq (show cR _ by unfold cR;show 1<=(ao p a).kind/\(ao p a).kind<=9;omega),l9];simp only[e5,h1,Int.reduceEq,↓reduceIte];rw[show nth [x] 0=x from rfl,h2];exact h3
  by_cases e6:(ao p a).kind=6
  ·obtain⟨x,X,h1,h2,Zb,h3⟩:=Xj 10 6 e6 jB rfl;rw[neg jB]at h3;rw[nq (show cR _ by unfold cR;show 1<=(ao p a).kind/\(ao p a).kind<=9;omega),l9];simp only[e6,h1,Int.reduceEq,↓reduceIte];rw[show nth [x] 0=x from rfl,h2];exact h3
  by_cases e7:(ao p a).kind=7
  ·obtain⟨x,X,h1,h2,Zb,h3⟩:=Xj 8 7 e7 jB rfl;rw[neg jB]at h3;rw[nq (show cR _ by unfold cR;show 1<=(ao p a).kind/\(ao p a).kind<=9;omega),l9];simp only[e7,h1,Int.reduceEq,↓reduceIte];rw[show nth [x] 0=x from rfl,h2];exact h3
  by_cases e8:(ao p a).kind=8
  ·obtain⟨x,X,h1,h2,Zb,h3⟩:=Xj 9 8 e8 jB rfl;rw[neg jB]at h3;rw[nq (show cR _ by unfold cR;show 1<=(ao p a).kind/\(ao p a).kind<=9;omega),l9];simp only[e8,h1,Int.reduceEq,↓reduceIte];rw[show nth [x] 0=x from rfl,h2];exact h3
  by_cases e20:(ao p a).kind=20
  ·obtain⟨x,X,h1,h2,Zb,h3⟩:=Xj 13 20 e20 jB rfl;rw[neg jB]at h3;rw[uk];simp only[e20,h1,Int.reduceEq,↓reduceIte];rw[show nth [x] 0=x from rfl,Zb];exact h3
  have hlf:=TV p L a h0 jB jB jB;rw[show jx p (n+1) a L.length=y9 p a by unfold y9;have Vj:(ao p a).kind=1\/(ao p a).kind=2\/(ao p a).kind=3\/(ao p a).kind=4\/(ao p a).kind=19:=jB;rcases Vj with e|e|e|e|e<;>(rw[uk,l9 p n a];simp only[e,Int.reduceEq,↓reduceIte])]
  exact Mb a L _ h0 hl (by have Vj:(ao p a).kind=1\/(ao p a).kind=2\/(ao p a).kind=3\/(ao p a).kind=4\/(ao p a).kind=19:=jB;rcases Vj with e|e|e|e|e<;>(rw[e];rfl)) e9 e21 hlf
attribute [local go_sem] iI
def Eu(p:af)(n:Nat):Prop:=∀(a:Int) (L:List ay),0<=a->a.toNat<p.aa.nodes.length->fC (bX p.aa.nodes a)->a.toNat<n->¬(1000000<L.length+3000*n)->ab prog 143 [.pt 0 0 0 0,rI a] (bU p L) (fun r l=>r=.aQ []/\l=bU p (L++gk p n a L.length))
def Gm(ht:aR p.aa)(n:Nat)(b:Int)(k:Int)(lo:Nat)(b0:0<=b)(b1:b.toNat<p.aa.nodes.length)(b2:bX p.aa.nodes b=18)(b3:aL p.aa.nodes lo (ao p b).l b.toNat):(bv (gk p n) k (ao p b).l []).length+4*lo<=4*b.toNat:=
 wI (f:=gk p n) (ao p b).l k lo b.toNat b3 fun x hx k lo XT=>by have hb:=(ht.shape b.toNat b1).2.1 x hx;exact BF ht n x k lo hb.1 jB ((ht.shape b.toNat b1).1.block b2 x hx) XT
def zU(ht:aR p.aa)(n:Nat)(b:Int)(k:Int)(b0:0<=b)(b1:b.toNat<p.aa.nodes.length)(b2:bX p.aa.nodes b=18):(bv (gk p n) k (ao p b).l []).length<=1200:=by obtain⟨lo,b3⟩:=(ht.shape b.toNat b1).2.2;have hm:=ht.many;have:=Gm ht n b k lo b0 b1 b2 b3;omega
def CN(hp:fw p)(hs:Eu p n)(b:Int)(L:List ay)(h0:0<=b)(hl:b.toNat<p.aa.nodes.length)(hk:bX p.aa.nodes b=18)(hn:b.toNat<=n)(hL:¬(998700<L.length+3000*n)) :
  ab prog 125 [.pt 0 0 0 0,rI b] (bU p L) (fun r l=>r=.aQ []/\l=bU p (L++bv (gk p n) L.length (ao p b).l [])):=by
 have ht:=hp.ok.ok.aa;have hm:=ht.many;have hb:=(ht.shape b.toNat hl).2.1;have Vf:=(ht.shape b.toNat hl).1.block hk;have I':=zU ht n b L.length h0 hl hk;obtain⟨lo,Un⟩:=(ht.shape b.toNat hl).2.2;have Uo:lo+(ao p b).l.length<=b.toNat:=Ci Un;have p':=oy p L b h0 hl;have Wk:=CT p 143 jD (gk p n) (ao p b).l L jB (1000000-3000*n) jB (fun x Xb M hM=>by have YJ:=hb x Xb;exact hs x M YJ.1 jB (Vf x Xb) jB jB)
 clear hs;generalize ao p b=nd at*;generalize hX:bv (gk p n) L.length nd.l []=X at*;refine aM func125 ntmps125 ?_;refine S ?_
 (repeat' (first|refine av fun K hK=>?_|refine au ?_|(refine hK _ _ ?_;clear hK K)|(refine ar ?_ ?_<;>intro hc<;>try exact jz)|refine cm (p') ?_|refine cm (Wk) ?_|refine aq ?_|exact jI|(clear hK K)))
 (refine ba [] ?_;try simp only[go_sem])
def Md(L X Y:List ay)(op v:Int)(k:Nat)(hk:k=L.length+X.length):(L++X++[iI op 0]++Y).set k { iI op 0 with a:=v }=L++X++[iI op v]++Y:=by subst hk;rw[List.append_assoc (L++X),List.set_append_right _ _ jE];simp[iI]
def LW(L X Y:List ay)(x:ay)(k:Nat)(hk:k=L.length+X.length):nth (L++X++[x]++Y) k=x:=by subst hk;rw[List.append_assoc (L++X)];simp[nth]
def za(p:af)(L X Y:List ay)(op:Int)(k:Nat)(hk:k=L.length+X.length)(hL:¬(1000000<L.length+X.length+1+Y.length)) :
  ab prog 176 [.pt 0 0 0 0,rI k] (bU p (L++X++[iI op 0]++Y)) (fun r l=>r=.aQ []/\l=bU p (L++X++[iI op (L.length+X.length+1+Y.length:Nat)]++Y)):=by
 have h:=B3 p (L++X++[iI op 0]++Y) k (by simp only[List.length_append,List.length_singleton];omega) (by simp only[List.length_append,List.length_singleton];omega);rw[LW L X Y _ k hk,Md L X Y op _ k hk]at h;rwa [show(L++X++[iI op 0]++Y).length=L.length+X.length+1+Y.length by simp only[List.length_append,List.length_singleton]]at h
def Lg(nd:bq)(x b:Int)(L X B:List ay)(mark:Int)(hL:¬(999700<L.length+X.length+B.length))(hk:nd.kind=16)(u':nd.l=[x,b])
  (ex:ab prog 168 [.pt 0 0 0 0,rI x] (bU p L) (fun r l=>r=.aQ []/\l=bU p (L++X)))
  (eb:ab prog 125 [.pt 0 0 0 0,rI b] (bU p (L++X++[iI 17 0])) (fun r l=>r=.aQ []/\l=bU p (L++X++[iI 17 0]++B))) :
  ab prog 167 [.pt 0 0 0 0,.agg (eH nd),rI mark] (bU p L) (fun r l=>r=.aQ []/\l=bU p (L++X++[iI 17 (L.length+X.length+1+(B.length+1):Nat)]++(B++[iI 16 mark]))):=by
 have h1:=iZ p (L++X) 17 0 (by simp only[List.length_append];omega);have h2:=iZ p (L++X++[iI 17 0]++B) 16 mark (by simp only[List.length_append,List.length_singleton];omega);have h3:=za p L X (B++[iI 16 mark]) 17 (L.length+X.length) rfl (by simp only[List.length_append,List.length_singleton];omega);rw[show(B++[iI 16 mark]).length=B.length+1 from jE]at h3;simp only[<-List.append_assoc]at h3 ⊢;refine aM func167 ntmps167 ?_;refine S ?_
 (have W:=jA hk u';repeat' (first|refine av fun K hK=>?_|refine au ?_|(refine hK _ _ ?_;clear hK K)|(refine ar ?_ ?_<;>intro hc<;>try exact jz)|refine bx 5 ?_|refine cm (ex) ?_|refine cm (h1) ?_|refine cm (eb) ?_|refine cm (h2) ?_|refine cm (h3) ?_|refine aq ?_|exact jI|(clear hK K)))
 (refine ba [] ?_;try simp only[go_sem])
def OT(nd:bq)(x b:Int)(L X B:List ay)(mark:Int)(hL:¬(999700<L.length+X.length+B.length))(hk:nd.kind≠16)(u':nd.l=[x,b])
  (ex:ab prog 168 [.pt 0 0 0 0,rI x] (bU p L) (fun r l=>r=.aQ []/\l=bU p (L++X)))
  (eb:ab prog 125 [.pt 0 0 0 0,rI b] (bU p (L++X++[iI 17 0])) (fun r l=>r=.aQ []/\l=bU p (L++X++[iI 17 0]++B))) :
  ab prog 167 [.pt 0 0 0 0,.agg (eH nd),rI mark] (bU p L) (fun r l=>r=.aQ []/\l=bU p (L++X++[iI 17 (L.length+X.length+1+B.length:Nat)]++B)):=by
 have h1:=iZ p (L++X) 17 0 (by simp only[List.length_append];omega);have h3:=za p L X B 17 (L.length+X.length) rfl jB;have n1:=eq_false hk;refine aM func167 ntmps167 ?_;refine S ?_
 (have W:=jA n1 u';repeat' (first|refine av fun K hK=>?_|refine au ?_|(refine hK _ _ ?_;clear hK K)|(refine ar ?_ ?_<;>intro hc<;>try exact jz)|refine bx 5 ?_|refine cm (ex) ?_|refine cm (h1) ?_|refine cm (eb) ?_|refine cm (h3) ?_|refine aq ?_|exact jI|(clear hK K)))
 (refine ba [] ?_;try simp only[go_sem])
def RG(nd:bq)(x b d:Int)(L X B D:List ay)(mark:Int)(hL:¬(999700<L.length+X.length+B.length+D.length))(hk:nd.kind≠16)(u':nd.l=[x,b,d])
  (ex:ab prog 168 [.pt 0 0 0 0,rI x] (bU p L) (fun r l=>r=.aQ []/\l=bU p (L++X)))
  (eb:ab prog 125 [.pt 0 0 0 0,rI b] (bU p (L++X++[iI 17 0])) (fun r l=>r=.aQ []/\l=bU p (L++X++[iI 17 0]++B)))
  (ed:ab prog 125 [.pt 0 0 0 0,rI d] (bU p (L++X++[iI 17 (L.length+X.length+1+(B.length+1):Nat)]++B++[iI 16 0])) (fun r l=>r=.aQ []/\l=bU p (L++X++[iI 17 (L.length+X.length+1+(B.length+1):Nat)]++B++[iI 16 0]++D))) :
  ab prog 167 [.pt 0 0 0 0,.agg (eH nd),rI mark] (bU p L) (fun r l=>r=.aQ []/\l=bU p (L++X++[iI 17 (L.length+X.length+1+(B.length+1):Nat)]++(B++[iI 16 (L.length+X.length+1+B.length+1+D.length:Nat)])++D)):=by
 have h1:=iZ p (L++X) 17 0 (by simp only[List.length_append];omega);have h2:=iZ p (L++X++[iI 17 0]++B) 16 0 (by simp only[List.length_append,List.length_singleton];omega);have h3:=za p L X (B++[iI 16 0]) 17 (L.length+X.length) rfl (by simp only[List.length_append,List.length_singleton];omega);rw[show(B++[iI 16 0]).length=B.length+1 from jE]at h3;have h4:=za p (L++X++[iI 17 (L.length+X.length+1+(B.length+1):Nat)]) B D 16 (L.length+X.length+1+B.length) (by simp only[List.length_append,List.length_singleton]) (by simp only[List.length_append,List.length_singleton];omega);rw[show(L++X++[iI 17 (L.length+X.length+1+(B.length+1):Nat)]).length=L.length+X.length+1 by simp only[List.length_append,List.length_singleton]]at h4;simp only[<-List.append_assoc]at h3 h4 ⊢;have n1:=eq_false hk;refine aM func167 ntmps167 ?_;refine S ?_
 (have W:=jA n1 u';repeat' (first|refine av fun K hK=>?_|refine au ?_|(refine hK _ _ ?_;clear hK K)|(refine ar ?_ ?_<;>intro hc<;>try exact jz)|refine bx 5 ?_|refine cm (ex) ?_|refine cm (h1) ?_|refine cm (eb) ?_|refine cm (h2) ?_|refine cm (h3) ?_|refine cm (ed) ?_|refine cm (h4) ?_|refine aq ?_|exact jI|(clear hK K)))
 (refine ba [] ?_;try simp only[go_sem])
attribute [local go_sem] iI
def Pk(a:Int)(L Y:List ay)(h0:0<=a)(hl:a.toNat<p.aa.nodes.length)(hs:a.toNat<p.slots.length)(hL:¬(999900<L.length+Y.length))(hk:(ao p a).kind=10)
  (Wk:ab prog 141 [aP eI 1 (ao p a).l,.bd 168 [.pt 0 0 0 0]] (bU p (L++[iI 1 a])) (fun r l=>r=.aQ []/\l=bU p (L++[iI 1 a]++Y))) :
  ab prog 143 [.pt 0 0 0 0,rI a] (bU p L) (fun r l=>r=.aQ []/\l=bU p (L++[iI 1 a]++Y++[iI 6 (nth p.slots a.toNat)])):=by
 have p':=oy p L a h0 hl;have h1:=iZ p L 1 a jB;have h2:=iZ p (L++[iI 1 a]++Y) 6 (nth p.slots a.toNat) (by simp only[List.length_append,List.length_singleton];omega);generalize ao p a=nd at*;refine aM func143 ntmps143 ?_;refine S ?_
 (have W:=hk;repeat' (first|refine av fun K hK=>?_|refine au ?_|(refine hK _ _ ?_;clear hK K)|(refine ar ?_ ?_<;>intro hc<;>try exact jz)|refine al 5 ?_|refine cm (p') ?_|refine cm (h1) ?_|refine cm (Wk) ?_|refine cm (h2) ?_|refine aq ?_|exact jI|(clear hK K)))
 (refine ba [] ?_;try simp only[go_sem])
def P3(a:Int)(L Y:List ay)(h0:0<=a)(hl:a.toNat<p.aa.nodes.length)(hs:a.toNat<p.slots.length)(hL:¬(999900<L.length+Y.length))(hk:(ao p a).kind=11)
  (Wk:ab prog 141 [aP eI 1 (ao p a).l,.bd 168 [.pt 0 0 0 0]] (bU p (L++[iI 1 a])) (fun r l=>r=.aQ []/\l=bU p (L++[iI 1 a]++Y))) :
  ab prog 143 [.pt 0 0 0 0,rI a] (bU p L) (fun r l=>r=.aQ []/\l=bU p (L++[iI 1 a]++Y++[iI 6 (nth p.slots a.toNat)])):=by
 have p':=oy p L a h0 hl;have h1:=iZ p L 1 a jB;have h2:=iZ p (L++[iI 1 a]++Y) 6 (nth p.slots a.toNat) (by simp only[List.length_append,List.length_singleton];omega);generalize ao p a=nd at*;refine aM func143 ntmps143 ?_;refine S ?_
 (have W:=hk;repeat' (first|refine av fun K hK=>?_|refine au ?_|(refine hK _ _ ?_;clear hK K)|(refine ar ?_ ?_<;>intro hc<;>try exact jz)|refine al 5 ?_|refine cm (p') ?_|refine cm (h1) ?_|refine cm (Wk) ?_|refine cm (h2) ?_|refine aq ?_|exact jI|(clear hK K)))
 (refine ba [] ?_;try simp only[go_sem])
def Q7(a:Int)(L Y:List ay)(h0:0<=a)(hl:a.toNat<p.aa.nodes.length)(hs:a.toNat<p.slots.length)(hL:¬(999900<L.length+Y.length))(hk:(ao p a).kind=12)
  (Wk:ab prog 141 [aP eI 1 (ao p a).l,.bd 168 [.pt 0 0 0 0]] (bU p (L++[iI 1 a])) (fun r l=>r=.aQ []/\l=bU p (L++[iI 1 a]++Y))) :
  ab prog 143 [.pt 0 0 0 0,rI a] (bU p L) (fun r l=>r=.aQ []/\l=bU p (L++[iI 1 a]++Y++[iI 12 (nth p.slots a.toNat)])):=by
 have p':=oy p L a h0 hl;have h1:=iZ p L 1 a jB;have h2:=iZ p (L++[iI 1 a]++Y) 12 (nth p.slots a.toNat) (by simp only[List.length_append,List.length_singleton];omega);generalize ao p a=nd at*;refine aM func143 ntmps143 ?_;refine S ?_
 (have W:=hk;repeat' (first|refine av fun K hK=>?_|refine au ?_|(refine hK _ _ ?_;clear hK K)|(refine ar ?_ ?_<;>intro hc<;>try exact jz)|refine al 5 ?_|refine cm (p') ?_|refine cm (h1) ?_|refine cm (Wk) ?_|refine cm (h2) ?_|refine aq ?_|exact jI|(clear hK K)))
 (refine ba [] ?_;try simp only[go_sem])
def TE(a:Int)(L Y:List ay)(h0:0<=a)(hl:a.toNat<p.aa.nodes.length)(hs:a.toNat<p.slots.length)(hL:¬(999900<L.length+Y.length))(hk:(ao p a).kind=13)
  (Wk:ab prog 141 [aP eI 1 (ao p a).l,.bd 168 [.pt 0 0 0 0]] (bU p (L++[iI 1 a])) (fun r l=>r=.aQ []/\l=bU p (L++[iI 1 a]++Y))) :
  ab prog 143 [.pt 0 0 0 0,rI a] (bU p L) (fun r l=>r=.aQ []/\l=bU p (L++[iI 1 a]++Y++[iI 23 (0)])):=by
 have p':=oy p L a h0 hl;have h1:=iZ p L 1 a jB;have h2:=iZ p (L++[iI 1 a]++Y) 23 (0) (by simp only[List.length_append,List.length_singleton];omega);generalize ao p a=nd at*;refine aM func143 ntmps143 ?_;refine S ?_
 (have W:=hk;repeat' (first|refine av fun K hK=>?_|refine au ?_|(refine hK _ _ ?_;clear hK K)|(refine ar ?_ ?_<;>intro hc<;>try exact jz)|refine al 5 ?_|refine cm (p') ?_|refine cm (h1) ?_|refine cm (Wk) ?_|refine cm (h2) ?_|refine aq ?_|exact jI|(clear hK K)))
 (refine ba [] ?_;try simp only[go_sem])
def Ku(a:Int)(L Y:List ay)(h0:0<=a)(hl:a.toNat<p.aa.nodes.length)(hs:a.toNat<p.slots.length)(hL:¬(999900<L.length+Y.length))(hk:(ao p a).kind=14)
  (Wk:ab prog 141 [aP eI 1 (ao p a).l,.bd 168 [.pt 0 0 0 0]] (bU p (L++[iI 1 a])) (fun r l=>r=.aQ []/\l=bU p (L++[iI 1 a]++Y))) :
  ab prog 143 [.pt 0 0 0 0,rI a] (bU p L) (fun r l=>r=.aQ []/\l=bU p (L++[iI 1 a]++Y++[iI 15 (0)])):=by
 have p':=oy p L a h0 hl;have h1:=iZ p L 1 a jB;have h2:=iZ p (L++[iI 1 a]++Y) 15 (0) (by simp only[List.length_append,List.length_singleton];omega);generalize ao p a=nd at*;refine aM func143 ntmps143 ?_;refine S ?_
 (have W:=hk;repeat' (first|refine av fun K hK=>?_|refine au ?_|(refine hK _ _ ?_;clear hK K)|(refine ar ?_ ?_<;>intro hc<;>try exact jz)|refine al 5 ?_|refine cm (p') ?_|refine cm (h1) ?_|refine cm (Wk) ?_|refine cm (h2) ?_|refine aq ?_|exact jI|(clear hK K)))
 (refine ba [] ?_;try simp only[go_sem])
def QO(a:Int)(L Y:List ay)(h0:0<=a)(hl:a.toNat<p.aa.nodes.length)(hs:a.toNat<p.slots.length)(hL:¬(999900<L.length+Y.length))(hk:(ao p a).kind=17)(Wr:(ao p a).l=[])
  (Wk:ab prog 141 [aP eI 1 (ao p a).l,.bd 168 [.pt 0 0 0 0]] (bU p (L++[iI 1 a])) (fun r l=>r=.aQ []/\l=bU p (L++[iI 1 a]++Y))) :
  ab prog 143 [.pt 0 0 0 0,rI a] (bU p L) (fun r l=>r=.aQ []/\l=bU p (L++[iI 1 a]++Y++[iI 22 (0)])):=by
 have p':=oy p L a h0 hl;have h1:=iZ p L 1 a jB;have h2:=iZ p (L++[iI 1 a]++Y) 22 (0) (by simp only[List.length_append,List.length_singleton];omega);generalize ao p a=nd at*;rw[Wr]at Wk;refine aM func143 ntmps143 ?_;refine S ?_
 (have W:=jA hk Wr;repeat' (first|refine av fun K hK=>?_|refine au ?_|(refine hK _ _ ?_;clear hK K)|(refine ar ?_ ?_<;>intro hc<;>try exact jz)|refine al 5 ?_|refine cm (p') ?_|refine cm (h1) ?_|refine cm (Wk) ?_|refine cm (h2) ?_|refine aq ?_|exact jI|(clear hK K)))
 (refine ba [] ?_;try simp only[go_sem])
def Rm(a:Int)(L Y:List ay)(h0:0<=a)(hl:a.toNat<p.aa.nodes.length)(hs:a.toNat<p.slots.length)(hL:¬(999900<L.length+Y.length))(hk:(ao p a).kind=17)(x:Int)(Wr:(ao p a).l=[x])
  (Wk:ab prog 141 [aP eI 1 (ao p a).l,.bd 168 [.pt 0 0 0 0]] (bU p (L++[iI 1 a])) (fun r l=>r=.aQ []/\l=bU p (L++[iI 1 a]++Y))) :
  ab prog 143 [.pt 0 0 0 0,rI a] (bU p L) (fun r l=>r=.aQ []/\l=bU p (L++[iI 1 a]++Y++[iI 21 (0)])):=by
 have p':=oy p L a h0 hl;have h1:=iZ p L 1 a jB;have h2:=iZ p (L++[iI 1 a]++Y) 21 (0) (by simp only[List.length_append,List.length_singleton];omega);generalize ao p a=nd at*;rw[Wr]at Wk;refine aM func143 ntmps143 ?_;refine S ?_
 (have W:=jA hk Wr;repeat' (first|refine av fun K hK=>?_|refine au ?_|(refine hK _ _ ?_;clear hK K)|(refine ar ?_ ?_<;>intro hc<;>try exact jz)|refine al 5 ?_|refine cm (p') ?_|refine cm (h1) ?_|refine cm (Wk) ?_|refine cm (h2) ?_|refine aq ?_|exact jI|(clear hK K)))
 (refine ba [] ?_;try simp only[go_sem])
def CG(a:Int)(L Y:List ay)(h0:0<=a)(hl:a.toNat<p.aa.nodes.length)(hL:¬(999900<L.length+Y.length))(hk:(ao p a).kind=15\/(ao p a).kind=16)
  (ht:ab prog 167 [.pt 0 0 0 0,.agg (eH (ao p a)),rI L.length] (bU p (L++[iI 1 a])) (fun r l=>r=.aQ []/\l=bU p (L++[iI 1 a]++Y))) :
  ab prog 143 [.pt 0 0 0 0,rI a] (bU p L) (fun r l=>r=.aQ []/\l=bU p (L++[iI 1 a]++Y)):=by
 have p':=oy p L a h0 hl;have h1:=iZ p L 1 a jB;generalize ao p a=nd at*;rcases hk with hk|hk
 ·refine aM func143 ntmps143 ?_;refine S ?_
  (have W:=hk;repeat' (first|refine av fun K hK=>?_|refine au ?_|(refine hK _ _ ?_;clear hK K)|(refine ar ?_ ?_<;>intro hc<;>try exact jz)|refine al 5 ?_|refine cm (p') ?_|refine cm (h1) ?_|refine cm (ht) ?_|refine aq ?_|exact jI|(clear hK K)))
  (refine ba [] ?_;try simp only[go_sem])
 ·refine aM func143 ntmps143 ?_;refine S ?_
  (have W:=hk;repeat' (first|refine av fun K hK=>?_|refine au ?_|(refine hK _ _ ?_;clear hK K)|(refine ar ?_ ?_<;>intro hc<;>try exact jz)|refine al 5 ?_|refine cm (p') ?_|refine cm (h1) ?_|refine cm (ht) ?_|refine aq ?_|exact jI|(clear hK K)))
  (refine ba [] ?_;try simp only[go_sem])
def Tp{a k:Int}(h:bX p.aa.nodes a=21):jx p n a k=cF p n a k:=by have h:(ao p a).kind=21:=h;rw[uk,jN,jN,if_pos h]
def QT(p:af)(n:Nat)(bl:Int->Int->List ay)(a from_:Int):qW p n bl a from_=(
  if(ao p a).kind=16 then bo p n (nth (ao p a).l 0) from_++[iI 17 (from_+(bo p n (nth (ao p a).l 0) from_).length+1+((bl (nth (ao p a).l 1) (from_+(bo p n (nth (ao p a).l 0) from_).length+1)).length+1))]++(bl (nth (ao p a).l 1) (from_+(bo p n (nth (ao p a).l 0) from_).length+1)++[iI 16 (from_-1)])
  else if(ao p a).l.length=3 then
   bo p n (nth (ao p a).l 0) from_++[iI 17 (from_+(bo p n (nth (ao p a).l 0) from_).length+1+((bl (nth (ao p a).l 1) (from_+(bo p n (nth (ao p a).l 0) from_).length+1)).length+1))]++(bl (nth (ao p a).l 1) (from_+(bo p n (nth (ao p a).l 0) from_).length+1)++[iI 16 (from_+(bo p n (nth (ao p a).l 0) from_).length+1+(bl (nth (ao p a).l 1) (from_+(bo p n (nth (ao p a).l 0) from_).length+1)).length+1+(bl (nth (ao p a).l 2) (from_+(bo p n (nth (ao p a).l 0) from_).length+1+(bl (nth (ao p a).l 1) (from_+(bo p n (nth (ao p a).l 0) from_).length+1)).length+1)).length)])++bl (nth (ao p a).l 2) (from_+(bo p n (nth (ao p a).l 0) from_).length+1+(bl (nth (ao p a).l 1) (from_+(bo p n (nth (ao p a).l 0) from_).length+1)).length+1)
  else bo p n (nth (ao p a).l 0) from_++[iI 17 (from_+(bo p n (nth (ao p a).l 0) from_).length+1+(bl (nth (ao p a).l 1) (from_+(bo p n (nth (ao p a).l 0) from_).length+1)).length)]++bl (nth (ao p a).l 1) (from_+(bo p n (nth (ao p a).l 0) from_).length+1)):=rfl
def wF(f:Int->Int->List ay)(k x:Int):bv f k [x] []=f x k:=by show[]++f x (k+((0:Nat):Int))=_;rw[Int.natCast_zero,Int.add_zero,List.nil_append]
def RI(f:Int->Int->List ay)(k x y:Int):bv f k [x,y] []=f x k++f y (k+(f x k).length):=by show bv f k [y] ([]++f x (k+((0:Nat):Int)))=_;rw[Int.natCast_zero,Int.add_zero,List.nil_append];rfl
def tJ(L Y:List ay)(a b:ay):L++a::(Y++[b])=L++[a]++Y++[b]:=jE
def Qb(L Y:List ay)(a:ay):L++a::Y=L++[a]++Y:=jE
theorem wE{p:af}(hp:fw p):∀n,Eu p n
 |0=>fun a L h0 hl hk hn hL=>by omega
 |n+1=>fun a L h0 hl hk hn hL=>by
  have hs:=wE hp n;have hx:=EF hp n;have ht:=hp.ok.ok.aa;have hm:=ht.many;have hb:=(ht.shape a.toNat hl).2.1;have VH:p.slots.length=p.aa.nodes.length:=hp.ok.ok.slots;have sh:=(ht.shape a.toNat hl).1;obtain⟨lo,Un⟩:=(ht.shape a.toNat hl).2.2;have Un:aL p.aa.nodes lo (ao p a).l a.toNat:=Un;have Uo:lo+(ao p a).l.length<=a.toNat:=Ci Un;have UY:fC (ao p a).kind:=hk;unfold fC at UY;have l1:(L++[iI 1 a]).length=L.length+1:=jE;have Ws:∀x k,x∈(ao p a).l->fv (bX p.aa.nodes x)->(jx p n x k).length<=1200:=fun x k Xb X8=>by have YJ:=hb x Xb;obtain⟨lo',hc⟩:=(ht.shape x.toNat jB).2.2;have:=DQ ht n k lo' YJ.1 jB X8 hc;omega
  have Wk:∀Y,(∀x∈(ao p a).l,fv (bX p.aa.nodes x))->bv (jx p n) (L.length+1) (ao p a).l []=Y->Y.length<=2500->ab prog 141 [aP eI 1 (ao p a).l,.bd 168 [.pt 0 0 0 0]] (bU p (L++[iI 1 a])) (fun r l=>r=.aQ []/\l=bU p (L++[iI 1 a]++Y)):=fun Y hr hY hYl=>by have:=CT p 168 jD (jx p n) (ao p a).l (L++[iI 1 a]) jB (1000000-3000*n) (by rw[l1,Int.natCast_add];show¬(_<L.length+1+(bv (jx p n) (L.length+1) (ao p a).l []).length);rw[hY];omega) (fun x Xb M hM=>hx x M (hb x Xb).1 (by have:=hb x Xb;omega) (hr x Xb) (by have:=hb x Xb;omega) jB);rw[l1,Int.natCast_add]at this;rw[show bv (jx p n) ((L.length:Int)+((1:Nat):Int)) (ao p a).l []=Y from hY]at this;exact this
  rw[yt];by_cases e10:(ao p a).kind=10
  ·obtain⟨x,u',YX⟩:=sh.right (by have e:(nth p.aa.nodes a.toNat).kind=10:=e10;omega);have u':(ao p a).l=[x]:=u';have WH:=Ws x (L.length+1) (by rw[u'];simp) YX;have h:=Wk (jx p n x (L.length+1)) (by rw[u'];intro y hy;simp only[List.mem_singleton]at hy;subst hy;exact YX) (by rw[u',wF]) jB;rw[jP,u',show nth [x] 0=x from rfl,tJ];exact Pk a L _ h0 hl jB jB e10 h
  by_cases e11:(ao p a).kind=11
  ·obtain⟨x,u',YX⟩:=sh.right (by have e:(nth p.aa.nodes a.toNat).kind=11:=e11;omega);have u':(ao p a).l=[x]:=u';have WH:=Ws x (L.length+1) (by rw[u'];simp) YX;have h:=Wk (jx p n x (L.length+1)) (by rw[u'];intro y hy;simp only[List.mem_singleton]at hy;subst hy;exact YX) (by rw[u',wF]) jB;rw[jP,u',show nth [x] 0=x from rfl,tJ];exact P3 a L _ h0 hl jB jB e11 h
  rw[jN];by_cases e12:(ao p a).kind=12
  ·obtain⟨x,y,u',Vb,Yb⟩:=sh.two (.inr e12);have u':(ao p a).l=[x,y]:=u';have WH:=Ws x (L.length+1) (by rw[u'];simp) (.inl Vb);have hy1:=Ws y (L.length+1+(jx p n x (L.length+1)).length) (by rw[u'];simp) (.inl Yb);have h:=Wk (jx p n x (L.length+1)++jx p n y (L.length+1+(jx p n x (L.length+1)).length)) (by rw[u'];intro z hz;simp only[List.mem_cons,List.not_mem_nil,or_false]at hz;rcases hz with rfl|rfl<;>exact .inl (by assumption)) (by rw[u',RI]) (by rw[List.length_append];omega);rw[if_pos e12,u',show nth [x,y] 0=x from rfl,show nth [x,y] 1=y from rfl,<-nq Vb,<-nq Yb,tJ];exact Q7 a L _ h0 hl jB (by rw[List.length_append];omega) e12 h
  rw[if_neg e12];by_cases e13:(ao p a).kind=13
  ·obtain⟨x,u',hxC⟩:=sh.tx e13;have u':(ao p a).l=[x]:=u';have YX:fv (bX p.aa.nodes x):=.inr (.inr (.inr hxC));have WH:=Ws x (L.length+1) (by rw[u'];simp) YX;have h:=Wk (jx p n x (L.length+1)) (by rw[u'];intro y hy;simp only[List.mem_singleton]at hy;subst hy;exact YX) (by rw[u',wF]) jB;rw[if_pos e13,u',show nth [x] 0=x from rfl,<-Tp hxC,tJ];exact TE a L _ h0 hl jB jB e13 h
  rw[if_neg e13];by_cases e14:(ao p a).kind=14
  ·obtain⟨x,u',Vb⟩:=sh.one (by have e:(nth p.aa.nodes a.toNat).kind=14:=e14;omega);have u':(ao p a).l=[x]:=u';have WH:=Ws x (L.length+1) (by rw[u'];simp) (.inl Vb);have h:=Wk (jx p n x (L.length+1)) (by rw[u'];intro y hy;simp only[List.mem_singleton]at hy;subst hy;exact .inl Vb) (by rw[u',wF]) jB;rw[if_pos e14,u',show nth [x] 0=x from rfl,<-nq Vb,tJ];exact Ku a L _ h0 hl jB jB e14 h
  rw[if_neg e14];by_cases e17:(ao p a).kind=17
  ·rw[if_pos e17];rcases sh.ret e17 with u'|⟨x,u',Vb⟩
   ·have u':(ao p a).l=[]:=u';have h:=Wk [] (by rw[u'];intro y hy;simp at hy) (by rw[u'];rfl) jE;rw[u',if_pos (show([]:UG).length=0 from rfl),show([iI 22 0]:List ay)=[]++[iI 22 0] from rfl,tJ];exact QO a L _ h0 hl jB (by simp only[List.length_nil];omega) e17 u' h
   ·have u':(ao p a).l=[x]:=u';have WH:=Ws x (L.length+1) (by rw[u'];simp) (.inl Vb);have h:=Wk (jx p n x (L.length+1)) (by rw[u'];intro y hy;simp only[List.mem_singleton]at hy;subst hy;exact .inl Vb) (by rw[u',wF]) jB;rw[u',if_neg (show¬([x]:UG).length=0 from jE),show nth [x] 0=x from rfl,<-nq Vb,tJ];exact Rm a L _ h0 hl jB jB e17 x u' h
  rw[if_neg e17];have expL:∀x lo,aL p.aa.nodes lo (ao p x).l x.toNat->0<=x->x.toNat<p.aa.nodes.length->cR (bX p.aa.nodes x)->∀k,(bo p n x k).length<=1200:=fun x lo c h0 h1 h2 k=>by have:=mf ht n x k lo h0 h1 h2 c;omega
  have tst:∀x b,x∈(ao p a).l->b∈(ao p a).l->cR (bX p.aa.nodes x)->bX p.aa.nodes b=18->∃X B,bo p n x (L.length+1)=X/\X.length<=1200/\B.length<=1200/\bv (gk p n) (L.length+1+X.length+1) (ao p b).l []=B/\
    ab prog 168 [.pt 0 0 0 0,rI x] (bU p (L++[iI 1 a])) (fun r l=>r=.aQ []/\l=bU p (L++[iI 1 a]++X))/\
    ab prog 125 [.pt 0 0 0 0,rI b] (bU p (L++[iI 1 a]++X++[iI 17 0])) (fun r l=>r=.aQ []/\l=bU p (L++[iI 1 a]++X++[iI 17 0]++B)):=fun x b Xb hbm Vb Xk=>by
   have YJ:=hb x Xb;have hbb:=hb b hbm;have hX:=Ws x (L.length+1) Xb (.inl Vb);rw[nq Vb]at hX;have ex:=hx x (L++[iI 1 a]) YJ.1 jB (.inl Vb) jB jB;rw[nq Vb,l1,Int.natCast_add]at ex;refine⟨_,_,rfl,hX,zU ht n b _ hbb.1 jB Xk,rfl,ex,?_⟩;have eb:=CN hp hs b (L++[iI 1 a]++bo p n x (L.length+1)++[iI 17 0]) hbb.1 jB Xk jB (by simp only[List.length_append,List.length_singleton];omega);rw[show((L++[iI 1 a]++bo p n x (L.length+1)++[iI 17 0]).length:Int)=L.length+1+(bo p n x (L.length+1)).length+1 by simp only[List.length_append,List.length_singleton];omega]at eb;exact eb
  rw[Qb,QT];by_cases e16:(ao p a).kind=16
  ·obtain⟨x,b,u',Vb,Xk⟩:=sh.eG e16;have u':(ao p a).l=[x,b]:=u';obtain⟨X,B,t1,t2,t3,t4,t5,t6⟩:=tst x b (by rw[u'];simp) (by rw[u'];simp) Vb Xk;have hw:=Lg (ao p a) x b (L++[iI 1 a]) X B L.length jB e16 u' t5 t6;rw[if_pos e16,u',show nth [x,b] 0=x from rfl,show nth [x,b] 1=b from rfl,t1,t4];rw[show((L.length:Int)+1+X.length+1+(B.length+1))=(((L++[iI 1 a]).length+X.length+1+(B.length+1):Nat):Int) by rw[l1];omega,show(L.length:Int)+1-1=L.length from jB];refine CG a L _ h0 hl (by simp only[List.length_append,List.length_singleton];omega) (.inr e16) ?_;simp only[List.append_assoc]at hw ⊢;exact hw
  rw[if_neg e16];have e15:(ao p a).kind=15:=jB;obtain⟨x,b,Vb,Xk,u'|⟨d,u',haC⟩⟩:=sh.lE e15
  ·have u':(ao p a).l=[x,b]:=u';obtain⟨X,B,t1,t2,t3,t4,t5,t6⟩:=tst x b (by rw[u'];simp) (by rw[u'];simp) Vb Xk;have hw:=OT (ao p a) x b (L++[iI 1 a]) X B L.length jB e16 u' t5 t6;rw[u',if_neg (show¬([x,b]:UG).length=3 from jE),show nth [x,b] 0=x from rfl,show nth [x,b] 1=b from rfl,t1,t4];rw[show((L.length:Int)+1+X.length+1+B.length)=(((L++[iI 1 a]).length+X.length+1+B.length:Nat):Int) by rw[l1];omega];refine CG a L _ h0 hl (by simp only[List.length_append,List.length_singleton];omega) (.inl e15) ?_;simp only[List.append_assoc]at hw ⊢;exact hw
  ·have u':(ao p a).l=[x,b,d]:=u';obtain⟨X,B,t1,t2,t3,t4,t5,t6⟩:=tst x b (by rw[u'];simp) (by rw[u'];simp) Vb Xk;have hbd:=hb d (by show d∈(ao p a).l;rw[u'];simp);have hD:=zU ht n d (L.length+1+X.length+1+B.length+1) hbd.1 jB haC;have hsum:X.length+B.length<=1200:=by
    have Un:=Un;rw[u']at Un;obtain⟨c1,c2,c3,c4,c5,c6⟩:=kI Un;obtain⟨d1,d2,d3,d4,d5,d6⟩:=kI c6;have q1:=mf ht n x (L.length+1) lo c1 jB Vb c5;have q2:=Gm ht n b (L.length+1+X.length+1) _ d1 jB Xk d5;rw[t1]at q1;rw[t4]at q2;omega
   have ed:=CN hp hs d (L++[iI 1 a]++X++[iI 17 ((L++[iI 1 a]).length+X.length+1+(B.length+1):Nat)]++B++[iI 16 0]) hbd.1 jB haC jB (by simp only[List.length_append,List.length_singleton];omega);rw[show((L++[iI 1 a]++X++[iI 17 ((L++[iI 1 a]).length+X.length+1+(B.length+1):Nat)]++B++[iI 16 0]).length:Int)=L.length+1+X.length+1+B.length+1 by simp only[List.length_append,List.length_singleton];omega]at ed;rw[u',if_pos (show([x,b,d]:UG).length=3 from rfl),show nth [x,b,d] 0=x from rfl,show nth [x,b,d] 1=b from rfl,show nth [x,b,d] 2=d from rfl,t1,t4];generalize hDD:bv (gk p n) (L.length+1+X.length+1+B.length+1) (ao p d).l []=D at*;have hw:=RG (ao p a) x b d (L++[iI 1 a]) X B D L.length jB e16 u' t5 t6 ed;rw[show((L.length:Int)+1+X.length+1+(B.length+1))=(((L++[iI 1 a]).length+X.length+1+(B.length+1):Nat):Int) by rw[l1];omega,show((L.length:Int)+1+X.length+1+B.length+1+D.length)=(((L++[iI 1 a]).length+X.length+1+B.length+1+D.length:Nat):Int) by rw[l1];omega];refine CG a L _ h0 hl (by simp only[List.length_append,List.length_singleton];omega) (.inl e15) ?_;simp only[List.append_assoc]at hw ⊢;exact hw
structure Fw(c c':Ck):Prop where
 fn:c'.fn=c.fn
 aw:∀x∈c'.aw,x∈c.aw\/x=c.fn
def Fw.refl(c:Ck):Fw c c:=⟨rfl,fun _ h=>.inl h⟩
theorem Fw.trans{a b c:Ck}(h:Fw a b)(k:Fw b c):Fw a c:=⟨k.fn.trans h.fn,fun x hx=>by
 rcases k.aw x hx with e|e
 ·exact h.aw x e
 ·right;rw[e,h.fn]⟩
def vG{c c':Ck}(h1:c'.fn=c.fn)(h2:c'.aw=c.aw):Fw c c':=⟨h1,fun x hx=>by rw[h2]at hx;exact .inl hx⟩
def Ew{l:UG}{i:Nat}{x y:Int}(h:x∈l.set i y):x∈l\/x=y:=by
 rcases List.mem_or_eq_of_mem_set h with h|h
 ·exact .inl h
 ·exact .inr h
def qu(c:Ck)(e a:Int):Fw c (c.aE e a):=by unfold Ck.aE;split<;>exact vG rfl rfl
def oB(c:Ck)(b:Bool)(a:Int):Fw c (c.ap b a):=by unfold Ck.ap;split;exact .refl _;exact qu _ _ _
def zH(c:Ck)(a:Int):Fw c (c.named a).1:=by unfold Ck.named;split;exact qu _ _ _;exact vG rfl rfl
def Nn(c:Ck)(a t:Int):Fw c (c.note a t):=⟨rfl,fun _ h=>Ew h⟩
def DN(c:Ck)(a:Int):Fw c (c.ai a):=⟨rfl,fun _ h=>Ew h⟩
def uM{c x y:Ck}{q:Prop}[Decidable q](h:Fw c x)(k:Fw c y):Fw c (if q then x else y):=by split;exact h;exact k
theorem Hc{ex:Ck->Int->Ck×Int}(hx:∀c a,Fw c (ex c a).1):∀(L:UG) (c:Ck) (ts:UG),Fw c (gD ex c L ts).1
 |[],c,ts=>by unfold gD;exact .refl c
 |a::L,c,ts=>by
  unfold gD;split
  ·exact(hx c a).trans (Hc hx L _ _)
  ·exact .refl c
theorem Ex(a:Int):∀(ts:UG) (ps:List bI) (c:Ck),Fw c (iG a c ts ps)
 |[],ps,c=>by rw[uv];exact .refl c
 |_::_,[],c=>by rw[tY];exact .refl c
 |x::ts,p::ps,c=>by
  unfold iG;split
  ·exact(oB _ _ _).trans (Ex a ts ps _)
  ·exact .refl c
variable{ex:Ck->Int->Ck×Int}
def M3(hx:∀c a,Fw c (ex c a).1)(c:Ck)(a:Int):Fw c (iX ex c a).1:=by
 unfold iX;split
 ·exact qu _ _ _
 ·simp only;exact((Hc hx _ c _).trans (uM (qu _ _ _) (.refl _))).trans (Ex _ _ _ _)
def Lt(hx:∀c a,Fw c (ex c a).1)(c:Ck)(a:Int):Fw c (cw ex c a).1:=by
 unfold cw;simp only;split
 ·exact .refl c
 split
 ·exact .refl c
 split
 ·exact .refl c
 split
 ·exact zH _ _
 split
 ·exact M3 hx c a
 split
 ·exact((zH _ _).trans (hx _ _)).trans (oB _ _ _)
 split
 ·exact((hx _ _).trans (hx _ _)).trans (oB _ _ _)
 split
 ·exact(hx _ _).trans (oB _ _ _)
 split
 ·exact(hx _ _).trans (oB _ _ _)
 split
 ·exact(hx _ _).trans (oB _ _ _)
 ·exact(hx _ _).trans (oB _ _ _)
theorem rJ:∀(n:Nat) (c:Ck) (a:Int),Fw c (az n c a).1
 |0,c,a=>by unfold az;exact .refl c
 |n+1,c,a=>by
  unfold az;split
  ·exact .refl c
  ·exact(Lt (rJ n) c a).trans (Nn _ _ _)
def Lc(hx:∀c a,Fw c (ex c a).1)(c:Ck)(a:Int):Fw c (o3 ex c a):=by have hA:Fw c (iN ex c a):=(hx c _).trans (oB _ _ _);have hB:Fw (iN ex c a) (jO ex c a):=uM (qu _ _ _) (.refl _);have hC:Fw (jO ex c a) (eJ ex c a):=uM (qu _ _ _) (.refl _);rw[ub];exact((hA.trans hB).trans hC).trans (vG rfl rfl)
def Oi(hx:∀c a,Fw c (ex c a).1)(c:Ck)(a:Int):Fw c (kH ex c a):=by
 unfold kH;simp only;split
 ·exact qu _ _ _
 split
 ·exact(hx _ _).trans (oB _ _ _)
 ·exact .refl c
theorem At{st:Ck->Int->Ck}(hs:∀c a,Fw c (st c a)):∀(L:UG) (c:Ck),Fw c (dP st c L)
 |[],c=>by unfold dP;exact .refl c
 |a::L,c=>by
  unfold dP;split
  ·exact(hs c a).trans (At hs L _)
  ·exact .refl c
variable{st:Ck->Int->Ck}
def EU(hs:∀c a,Fw c (st c a))(c:Ck)(a:Int):Fw c (fl st c a):=by unfold fl;simp only;exact((DN c a).trans (At hs _ _)).trans (vG rfl rfl)
theorem Ey:∀(n:Nat) (c:Ck) (a:Int),Fw c (bT n c a)
 |0,c,a=>by unfold bT;exact .refl c
 |n+1,c,a=>by
  unfold bT;simp only;refine(DN c a).trans ?_;split
  ·exact Lc (rJ n) _ _
  split
  ·exact((zH _ _).trans (rJ n _ _)).trans (oB _ _ _)
  split
  ·exact(((zH _ _).trans (rJ n _ _)).trans (rJ n _ _)).trans (oB _ _ _)
  split
  ·exact rJ n _ _
  split
  ·exact(rJ n _ _).trans (oB _ _ _)
  split
  ·exact Oi (rJ n) _ _
  ·exact((rJ n _ _).trans (oB _ _ _)).trans (At (fun c a=>EU (Ey n) c a) _ _)
theorem HD(body:Int):∀(ps:List bI) (c:Ck) (i:Int),Fw c (fB body c ps i)
 |[],c,i=>by unfold fB;exact .refl c
 |p::ps,c,i=>by unfold fB;simp only;have h1:Fw c (if 0<=c.find p.name then c.aE 41 body else c):=uM (qu c 41 body) (.refl c);generalize (if 0<=c.find p.name then c.aE 41 body else c)=d at*;refine h1.trans ?_;exact Fw.trans (b:={ d with vars:=d.vars++[⟨p.name,p.ty,i⟩],more:=d.more.drop 1,size:=d.size+1 }) (vG rfl rfl) (HD body ps _ _)
def Oe(c:Ck)(k:Nat):∀x∈(gQ c k).aw,x∈c.aw\/x=(k:Int):=by
 have h:Fw { c with fn:=(k:Int),vars:=[],more:=[],size:=0 } (gQ c k):=by unfold gQ;simp only;exact((HD _ _ _ _).trans (uM (EU (Ey _) _ _) (.refl _))).trans (vG rfl rfl)
 exact fun x hx=>h.aw x hx
theorem Ft:∀(n i:Nat) (c:Ck),∀x∈(gz c i n).aw,x∈c.aw\/((i:Int)<=x/\x<(i:Int)+n)
 |0,i,c,x,hx=>by unfold gz at hx;exact .inl hx
 |n+1,i,c,x,hx=>by
  unfold gz at hx;split at hx
  ·rcases Ft n (i+1) _ x hx with h|h
   ·rcases Oe c i x h with h|h
    ·exact .inl h
    ·right;omega
   ·right;omega
  ·exact .inl hx
theorem IC(x:bh):∀(l:List bh) (c:Ck),Fw c (kU x c l)
 |[],c=>by unfold kU;exact .refl c
 |f::l,c=>by unfold kU;exact(uM (qu _ _ _) (.refl _):Fw c (if f.name=x.name then c.aE 41 x.body else c)).trans (IC x l _)
theorem Bb(aw:List bh):∀(n i:Nat) (c:Ck) (m:Bool),Fw c (jX aw c m i n).1
 |0,i,c,m=>by unfold jX;exact .refl c
 |n+1,i,c,m=>by unfold jX;exact(IC _ _ c).trans (Bb aw n (i+1) _ _)
def SK(c:Ck):Fw c (jd c):=by unfold jd;simp only;exact uM (Bb _ _ _ _ _) ((Bb _ _ _ _ _).trans (qu _ _ _))
def Pf{t:aH}(ht:aR t)(he:(iy t).2.2=0)(h1:0<t.aw.length):∀x∈(iy t).1.fn,0<=x/\x<t.aw.length:=fun x hx=>by
 unfold iy at he hx;split at he
 ·rename_i h;exact(h he).elim
 rename_i h;rw[if_neg h]at hx;have hx:x∈(gz (jd (js t)) 0 t.aw.length).aw:=hx;rcases Ft t.aw.length 0 _ x hx with g|g
 ·rcases(SK (js t)).aw x g with g|g
  ·have g:x∈t.nodes.map fun _=>(0:Int):=g
   obtain⟨_,_,rfl⟩:=List.mem_map.1 g;omega
  ·have g:x=0:=g;omega
 ·omega
variable{s:UI}
def M9(he:(gh s).2.2=0):∀k,k<(gh s).1.aa.nodes.length->0<=nth (gh s).1.fn k/\nth (gh s).1.fn k<(gh s).1.aa.aw.length:=by
 have hok:=Jc he;obtain⟨j,hj,_⟩:=(zi he).names.main;unfold gh at he hok hj ⊢;split at he
 ·rename_i h;exact(h he).elim
 rename_i h;rw[if_neg h]at hok hj ⊢;have h:(gV s).2.2=0:=jB;simp only at he hok hj ⊢;split at he
 ·cases he
 rename_i h2;split at he
 ·rename_i h3;exact(h3 he).elim
 rename_i h3;rw[if_neg h2,if_neg h3]at hok hj ⊢;have ht:=(Ad (vD h) jB).2;simp only at hok hj ⊢;rw[ht]at hj ⊢;exact fun k hk=>Pf (vD h) jB jB _ (ff (by rw[hok.fn,ht];exact hk))
structure Ns(c c':Ck):Prop where
 aa:c'.aa=c.aa
 slots:∀k,¬ju (nth c.aa.nodes k).kind->nth c'.slots k=nth c.slots k
def Ns.refl(c:Ck):Ns c c:=⟨rfl,fun _ _=>rfl⟩
theorem Ns.trans{a b c:Ck}(h:Ns a b)(k:Ns b c):Ns a c:=⟨k.aa.trans h.aa,fun j hj=>(k.slots j (by rw[h.aa];exact hj)).trans (h.slots j hj)⟩
def vH{c c':Ck}(h1:c'.aa=c.aa)(h2:c'.slots=c.slots):Ns c c':=⟨h1,fun _ _=>by rw[h2]⟩
def J2(c:Ck)(a s:Int)(h:ju (c.node a).kind):Ns c (c.slot a s):=⟨rfl,fun k hk=>by
 show nth (c.slots.set a.toNat s) k=_;unfold nth;rw[List.getD_eq_getElem?_getD,List.getElem?_set,List.getD_eq_getElem?_getD];by_cases e:a.toNat=k
 ·subst e;exact(hk h).elim
 ·rw[if_neg e]⟩
def p6(c:Ck)(e a:Int):Ns c (c.aE e a):=by unfold Ck.aE;split<;>exact vH rfl rfl
def oA(c:Ck)(b:Bool)(a:Int):Ns c (c.ap b a):=by unfold Ck.ap;split;exact .refl _;exact p6 _ _ _
def zh(c:Ck)(a:Int)(h:ju (c.node a).kind):Ns c (c.named a).1:=by unfold Ck.named;split;exact p6 _ _ _;exact J2 c a _ h
def MH(c:Ck)(a t:Int):Ns c (c.note a t):=⟨rfl,fun _ _=>rfl⟩
def IH(c:Ck)(a:Int):Ns c (c.ai a):=⟨rfl,fun _ _=>rfl⟩
def ud{c x y:Ck}{q:Prop}[Decidable q](h:Ns c x)(k:Ns c y):Ns c (if q then x else y):=by split;exact h;exact k
theorem FM{ex:Ck->Int->Ck×Int}(hx:∀c a,Ns c (ex c a).1):∀(L:UG) (c:Ck) (ts:UG),Ns c (gD ex c L ts).1
 |[],c,ts=>by unfold gD;exact .refl c
 |a::L,c,ts=>by
  unfold gD;split
  ·exact(hx c a).trans (FM hx L _ _)
  ·exact .refl c
theorem I5(a:Int):∀(ts:UG) (ps:List bI) (c:Ck),Ns c (iG a c ts ps)
 |[],ps,c=>by rw[uv];exact .refl c
 |_::_,[],c=>by rw[tY];exact .refl c
 |x::ts,p::ps,c=>by
  unfold iG;split
  ·exact(oA _ _ _).trans (I5 a ts ps _)
  ·exact .refl c
def P0(hx:∀c a,Ns c (ex c a).1)(c:Ck)(a:Int):Ns c (iX ex c a).1:=by
 unfold iX;split
 ·exact p6 _ _ _
 ·simp only;exact((FM hx _ c _).trans (ud (p6 _ _ _) (.refl _))).trans (I5 _ _ _ _)
def Ox(hx:∀c a,Ns c (ex c a).1)(c:Ck)(a:Int):Ns c (cw ex c a).1:=by
 unfold cw;simp only;split
 ·exact .refl c
 split
 ·exact .refl c
 split
 ·exact .refl c
 split
 ·rename_i e;exact zh _ _ (.inl e)
 split
 ·exact P0 hx c a
 split
 ·rename_i e;exact((zh _ _ (.inr (.inl e))).trans (hx _ _)).trans (oA _ _ _)
 split
 ·exact((hx _ _).trans (hx _ _)).trans (oA _ _ _)
 split
 ·exact(hx _ _).trans (oA _ _ _)
 split
 ·exact(hx _ _).trans (oA _ _ _)
 split
 ·exact(hx _ _).trans (oA _ _ _)
 ·exact(hx _ _).trans (oA _ _ _)
theorem rf:∀(n:Nat) (c:Ck) (a:Int),Ns c (az n c a).1
 |0,c,a=>by unfold az;exact .refl c
 |n+1,c,a=>by
  unfold az;split
  ·exact .refl c
  ·exact(Ox (rf n) c a).trans (MH _ _ _)
def Tu(hx:∀c a,Ns c (ex c a).1)(c:Ck)(a:Int)(hk:ju (c.node a).kind):Ns c (o3 ex c a):=by have hA:Ns c (iN ex c a):=(hx c _).trans (oA _ _ _);have hB:Ns (iN ex c a) (jO ex c a):=ud (p6 _ _ _) (.refl _);have hC:Ns (jO ex c a) (eJ ex c a):=ud (p6 _ _ _) (.refl _);rw[ub];have haD:=(hA.trans hB).trans hC;exact haD.trans ((J2 (eJ ex c a) a _ (by unfold Ck.node;rw[haD.aa];exact hk)).trans (vH rfl rfl))
def OU(hx:∀c a,Ns c (ex c a).1)(c:Ck)(a:Int):Ns c (kH ex c a):=by
 unfold kH;simp only;split
 ·exact p6 _ _ _
 split
 ·exact(hx _ _).trans (oA _ _ _)
 ·exact .refl c
theorem CQ{st:Ck->Int->Ck}(hs:∀c a,Ns c (st c a)):∀(L:UG) (c:Ck),Ns c (dP st c L)
 |[],c=>by unfold dP;exact .refl c
 |a::L,c=>by
  unfold dP;split
  ·exact(hs c a).trans (CQ hs L _)
  ·exact .refl c
def EZ(hs:∀c a,Ns c (st c a))(c:Ck)(a:Int):Ns c (fl st c a):=by unfold fl;simp only;exact((IH c a).trans (CQ hs _ _)).trans (vH rfl rfl)
theorem IU:∀(n:Nat) (c:Ck) (a:Int),Ns c (bT n c a)
 |0,c,a=>by unfold bT;exact .refl c
 |n+1,c,a=>by
  unfold bT;simp only;refine(IH c a).trans ?_;split
  ·rename_i e;exact Tu (rf n) _ _ (.inr (.inr (.inl e)))
  split
  ·rename_i e;exact((zh _ _ (.inr (.inr (.inr (.inl e))))).trans (rf n _ _)).trans (oA _ _ _)
  split
  ·rename_i e;exact(((zh _ _ (.inr (.inr (.inr (.inr e))))).trans (rf n _ _)).trans (rf n _ _)).trans (oA _ _ _)
  split
  ·exact rf n _ _
  split
  ·exact(rf n _ _).trans (oA _ _ _)
  split
  ·exact OU (rf n) _ _
  ·exact((rf n _ _).trans (oA _ _ _)).trans (CQ (fun c a=>EZ (IU n) c a) _ _)
theorem J3(body:Int):∀(ps:List bI) (c:Ck) (i:Int),Ns c (fB body c ps i)
 |[],c,i=>by unfold fB;exact .refl c
 |p::ps,c,i=>by unfold fB;simp only;have h1:Ns c (if 0<=c.find p.name then c.aE 41 body else c):=ud (p6 c 41 body) (.refl c);generalize (if 0<=c.find p.name then c.aE 41 body else c)=d at*;refine h1.trans ?_;exact Ns.trans (b:={ d with vars:=d.vars++[⟨p.name,p.ty,i⟩],more:=d.more.drop 1,size:=d.size+1 }) (vH rfl rfl) (J3 body ps _ _)
def MJ(c:Ck)(k:Nat):Ns c (gQ c k):=by
 have h:Ns { c with fn:=(k:Int),vars:=[],more:=[],size:=0 } (gQ c k):=by unfold gQ;simp only;exact((J3 _ _ _ _).trans (ud (EZ (IU _) _ _) (.refl _))).trans (vH rfl rfl)
 exact Ns.trans (b:={ c with fn:=(k:Int),vars:=[],more:=[],size:=0 }) (vH rfl rfl) h
theorem EH:∀(n i:Nat) (c:Ck),Ns c (gz c i n)
 |0,i,c=>by unfold gz;exact .refl c
 |n+1,i,c=>by
  unfold gz;split
  ·exact(MJ c i).trans (EH n (i+1) _)
  ·exact .refl c
theorem Gb(x:bh):∀(l:List bh) (c:Ck),Ns c (kU x c l)
 |[],c=>by unfold kU;exact .refl c
 |f::l,c=>by unfold kU;exact(ud (p6 _ _ _) (.refl _):Ns c (if f.name=x.name then c.aE 41 x.body else c)).trans (Gb x l _)
theorem Dg(aw:List bh):∀(n i:Nat) (c:Ck) (m:Bool),Ns c (jX aw c m i n).1
 |0,i,c,m=>by unfold jX;exact .refl c
 |n+1,i,c,m=>by unfold jX;exact(Gb _ _ c).trans (Dg aw n (i+1) _ _)
def Om(c:Ck):Ns c (jd c):=by unfold jd;simp only;exact ud (Dg _ _ _ _ _) ((Dg _ _ _ _ _).trans (p6 _ _ _))
def Ma{t:aH}(he:(iy t).2.2=0):∀k,k<t.nodes.length->¬ju (nth t.nodes k).kind->nth (iy t).1.slots k<=0:=fun k hk hn=>by
 unfold iy at he ⊢;split at he
 ·rename_i h;exact(h he).elim
 rename_i h;rw[if_neg h];have h1:=(Om (js t)).trans (EH t.aw.length 0 _);show nth (gz (jd (js t)) 0 t.aw.length).slots k<=0;rw[h1.slots k hn];show nth (t.nodes.map fun _=>(-1:Int)) k<=0;unfold nth;rw[List.getD_eq_getElem?_getD,List.getElem?_map,List.getElem?_eq_getElem hk];show(-1:Int)<=0;omega
def PI{t:List bq}{lo hi:Nat}{L:UG}(h:aL t lo L hi):∀k,lo<=k->k<hi->∃j,j<L.length/\k<=(nth L j).toNat/\(if j=0 then lo else(nth L (j-1)).toNat+1)<=k:=by
 induction h with
 |nil=>intro k h1 h2;omega
 |@cons lo c hi L hc h1 h2 i1 i2=>
  intro k U8 Uy;by_cases e:k<=c
  ·exact⟨0,jE,by show k<=(c:Int).toNat;omega,by rw[if_pos rfl];exact U8⟩
  ·obtain⟨j,g1,g2,g3⟩:=i2 k jB Uy;refine⟨j+1,by simp;omega,g2,?_⟩;rw[jN];by_cases e0:j=0
   ·subst e0;show(c:Int).toNat+1<=k;omega
   ·rw[if_neg e0]at g3;rw[show j+1-1=(j-1)+1 from jB];exact g3
def Qe(h:fX p):∀k,k<p.aa.nodes.length->ju (nth p.aa.nodes k).kind->0<=nth p.slots k:=fun k hk hs=>by
 obtain⟨j,g1,g2,g3⟩:=PI h.ok.aa.chain k (Nat.zero_le _) hk;have g1:j<p.aa.aw.length:=by simpa using g1
 have e:∀i,i<p.aa.aw.length->nth (p.aa.aw.map (·.body)) i=(nth p.aa.aw i).body:=fun i hi=>by unfold nth;rw[List.getD_eq_getElem?_getD,List.getElem?_map,List.getD_eq_getElem?_getD,List.getElem?_eq_getElem hi];rfl
 rw[e j g1]at g2;have hf:=h.aw j g1;refine(hf.all k ?_ jB hs).1;unfold kS;split at g3
 ·rename_i e0;rw[if_pos e0];exact g3
 ·rename_i e0;rw[if_neg e0];rw[e (j-1) jB]at g3;exact g3
def OG(he:(gh s).2.2=0):∀k,k<(gh s).1.aa.nodes.length->¬ju (nth (gh s).1.aa.nodes k).kind->nth (gh s).1.slots k<=0:=by
 have hok:=Jc he;unfold gh at he hok ⊢;split at he
 ·rename_i h;exact(h he).elim
 rename_i h;rw[if_neg h]at hok ⊢;have h:(gV s).2.2=0:=jB;simp only at he hok ⊢;split at he
 ·cases he
 rename_i h2;split at he
 ·rename_i h3;exact(h3 he).elim
 rename_i h3;rw[if_neg h2,if_neg h3]at hok ⊢;have ht:=(Ad (vD h) jB).2;simp only at hok ⊢;rw[ht];exact Ma jB
attribute [local go_sem] iI
def Ld(hp:fw p):aC prog 109 [.agg (cn p)] (.agg (wR (bz p))):=by
 have ht:=hp.ok.ok.aa;have hm:=ht.many;have haY:=ht.aw;have eV:bz p=fj p p.aa.aw.length:=by unfold bz fj;rw[List.take_length]
 rw[eV];have Wi:=BZ hp.ok;have Wu:=yq p;rw[Bo];refine bQ func109 ntmps109 ?_;refine S ?_
 (repeat' (first|refine av fun K hK=>?_|refine au ?_|(refine hK _ _ ?_;clear hK K)|(refine ar ?_ ?_<;>intro hc<;>try exact jz)|refine aV 2 ?_|refine al 3 ?_|refine al 0 ?_|refine aq ?_|exact jI|(clear hK K)))
 refine jw (dV.gl 1 0 6 176 4 rfl jC rfl rfl) ?_
 (refine S ?_;try exact jI)
 refine jw (dV.nil 5 4 3 (sz:=1) rfl jC (Or.inl rfl)) ?_
 (refine S ?_;try exact jI)
 have Ux:=hK;clear hK;refine eN (S:=Nat) [(4,1),(6,1),(13,17)] (fun k=>k<=p.aa.aw.length) (fun k=>[(4,.rs 5 k 1 k),(13,rI k)])
  (fun k=>⟨[],[(2,.var 30 (ko p)),(3,.var 162 [.raw (.slice none 0 0),.raw (.slice none 0 0)]),(0,.var 202 (ko p++[.rs 1 (fj p k).ins.length 4 (fj p k).ins.length])),(1,.aG 176 4 ((fj p k).ins.map dq)),(5,.aG 3 1 ((fj p k).entry.map eI))]⟩)
  (fun k=>p.aa.aw.length-k) 0 jB (eR rfl cH) ?_
 rintro k hk Kr Ut;have XF:=Wi k hk;have hek:=Wu k hk;by_cases O':k<p.aa.aw.length
 ·have hs:=yL p k O';have VW:=o8 ht (k:=k) O';have Wh:=VW.1;have WA:=VW.2;have X9:=ht.body _ (ff O');have hbl:=zU ht (mO p) (nth p.aa.aw k).body (fj p k).ins.length jB jB X9;have hcb:=CN hp (wE hp (mO p)) (nth p.aa.aw k).body (fj p k).ins jB jB X9 (by show _<=p.aa.nodes.length;omega) (by have:mO p<=300:=hm;omega);change ab _ _ _ _ (fun r l=>r=.aQ []/\l=bU p ((fj p k).ins++qq p (mO p) (nth p.aa.aw k).body (fj p k).ins.length))at hcb
  change (qq p (mO p) (nth p.aa.aw k).body (fj p k).ins.length).length<=1200 at hbl
  have Yn:=iZ p ((fj p k).ins++qq p (mO p) (nth p.aa.aw k).body (fj p k).ins.length) 22 (nth p.aa.aw k).ret (by rw[List.length_append];omega);have e1:(fj p (k+1)).ins=(fj p k).ins++qq p (mO p) (nth p.aa.aw k).body (fj p k).ins.length++[iI 22 (nth p.aa.aw k).ret]:=by rw[hs];rfl
  have e2:(fj p (k+1)).entry=(fj p k).entry++[((fj p k).ins.length:Int)]:=by rw[hs];rfl
  generalize qq p (mO p) (nth p.aa.aw k).body (fj p k).ins.length=B at*;generalize hC':fj p (k+1)=C' at*;generalize fj p k=C at*;generalize hF:nth p.aa.aw k=F at*;refine S ?_
  (have W:=jA hF hek;repeat' (first|refine av fun K hK=>?_|refine au ?_|(refine hK _ _ ?_;clear hK K)|(refine ar ?_ ?_<;>intro hc<;>try exact jz)|refine al 6 ?_|refine cm (hcb) ?_|refine cm (Yn) ?_|refine aq ?_|exact jI|(clear hK K)))
  refine Ut _ _ (py [6] (k+1) jB (by show p.aa.aw.length-(k+1)<p.aa.aw.length-k;omega) rfl Sd (by rw[hC',e1,e2];simp only[ko,List.map_append,List.length_append,List.map_cons,List.map_nil,List.length_cons,List.length_nil];rfl) jL)
 ·have e:k=p.aa.aw.length:=jB;subst e;generalize fj p p.aa.aw.length=C at*;refine S ?_
  (have W:=hek;repeat' (first|refine av fun K hK=>?_|refine au ?_|(refine hK _ _ ?_;clear hK K)|(refine ar ?_ ?_<;>intro hc<;>try exact jz)|refine Ux _ _ ?_|refine aq ?_|exact jI|(clear hK K)))
  refine fF [.cell 2 162] ?_;exact bt.agg (ds:=[aP dq 4 C.ins,aP eI 1 C.entry]) (jA (cY.row (enc:=dq) C.ins rfl rfl jE) (jA (cY.row (enc:=eI) C.entry rfl rfl (by simp[hek])) trivial))
def Fv(he:(gh s).2.2=0):fw (gh s).1:=⟨zi he,OG he,Qe (zi he)⟩
def RF(f:bh):aC prog 128 [.agg (fZ f)] (rB (decide (f.name=(⟨#[109,97,105,110]⟩:UI)))):=by
 refine bQ func128 ntmps128 ?_
 (repeat' (first|refine av fun K hK=>?_|refine au ?_|(refine hK _ _ ?_;clear hK K)|(refine ar ?_ ?_<;>intro hc<;>try exact jz)|refine aV 4 ?_|refine aq ?_|exact jI|(clear hK K)))
 (refine ba [.tmp 2] ?_;try simp only[go_sem])
def Pa(L:List bh)(k:Nat)(hL:L.length<=1000)(hk:k<L.length)(US:(nth L k).name=(⟨#[109,97,105,110]⟩:UI))(WK:∀i,i<k->(nth L i).name≠(⟨#[109,97,105,110]⟩:UI)) :
  aC prog 127 [aP fZ 5 L,.raw (.func (.func 128) #[] #[])] (rI k):=by
 refine bQ func127 ntmps127 ?_
 (repeat' (first|refine av fun K hK=>?_|refine au ?_|(refine hK _ _ ?_;clear hK K)|(refine ar ?_ ?_<;>intro hc<;>try exact jz)|refine aq ?_|exact jI|(clear hK K)))
 refine eN (S:=Nat) [(4,2),(8,11)] (fun i=>i<=k) (fun i=>[(8,rI i)]) (fun i=>⟨[],[]⟩) (fun i=>k-i) 0 jB (eR rfl cH) ?_;rintro i hi Kr Ut;have W6:=RF (nth L i);by_cases e:i=k
 ·subst e;rw[decide_eq_true US]at W6;refine S ?_
  (repeat' (first|refine av fun K hK=>?_|refine au ?_|(refine hK _ _ ?_;clear hK K)|(refine ar ?_ ?_<;>intro hc<;>try exact jz)|refine cp (W6) ?_|refine aq ?_|exact jI|(clear hK K)))
  (refine ba [.tmp 4] ?_;try simp only[go_sem])
 ·rw[decide_eq_false (WK i jB)]at W6;refine S ?_
  (repeat' (first|refine av fun K hK=>?_|refine au ?_|(refine hK _ _ ?_;clear hK K)|(refine ar ?_ ?_<;>intro hc<;>try exact jz)|refine cp (W6) ?_|refine aq ?_|exact jI|(clear hK K)))
  refine Ut _ _ (eQ (i+1) jB jJ rfl cH)
def Oy(m:Nat)(hL:p.aa.aw.length<=1000)(hk:m<p.aa.aw.length)(US:(nth p.aa.aw m).name=(⟨#[109,97,105,110]⟩:UI))(WK:∀i,i<m->(nth p.aa.aw i).name≠(⟨#[109,97,105,110]⟩:UI)):aC prog 112 [.agg (cn p)] (rI m):=by
 have Xa:=Pa p.aa.aw m hL hk US WK;rw[Bo];refine bQ func112 ntmps112 ?_;refine S ?_
 (repeat' (first|refine av fun K hK=>?_|refine au ?_|(refine hK _ _ ?_;clear hK K)|(refine ar ?_ ?_<;>intro hc<;>try exact jz)|refine aV 2 ?_|refine cp (Xa) ?_|refine aq ?_|exact jI|(clear hK K)))
 (refine ba [.tmp 2] ?_;try simp only[go_sem])
end Go.Proofs.YtijdhbokcdpklaaGreatDoor