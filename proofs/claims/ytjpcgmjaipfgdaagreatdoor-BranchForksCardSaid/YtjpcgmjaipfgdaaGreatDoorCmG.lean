/- Lemmas. No conditions. -/
import Derived.Test.YtjpcgmjaipfgdaaGreatDoorViS
set_option linter.all false
set_option maxHeartbeats 4000000
set_option maxRecDepth 10000
namespace Go.Gd
open Go
def kT(h:UW)(k:Nat):Nat:=(h.take k).flatten.length
def lG(h:UW):UY:=(List.range h.length).map fun k=>((kT h (k+1):Nat):Int)
def vX(h:UW):(lG h).length=h.length:=by simp[lG]
variable{h:UW}{k:Nat}
def uG(hk:k<h.length):kT h (k+1)=kT h k+(nth h k).length:=by unfold kT;rw[List.take_succ,List.getElem?_eq_getElem hk,List.flatten_append,List.length_append,fA hk];simp
def vu(h:UW)(k:Nat):kT h k<=h.flatten.length:=by
 unfold kT;have:h.flatten=(h.take k).flatten++(h.drop k).flatten:=by rw[<-List.flatten_append,List.take_append_drop]
 rw[this,List.length_append];omega
def J3(hk:k<h.length):nth (lG h) k=(kT h (k+1):Nat):=by rw[fA (by rw[vX];exact hk)];simp[lG]
def Mi{i:Nat}(hk:k<h.length)(hi:i<(nth h k).length):nth h.flatten (kT h k+i)=nth (nth h k) i:=by
 have e:h.flatten=(h.take k).flatten++(nth h k++(h.drop (k+1)).flatten):=by rw[fA hk,<-List.flatten_cons,List.getElem_cons_drop,<-List.flatten_append,List.take_append_drop]
 rw[e];unfold kT;unfold nth at hi ⊢;rw[List.getD_eq_getElem?_getD,List.getElem?_append_right jB,Nat.add_sub_cancel_left,List.getElem?_append_left hi,<-List.getD_eq_getElem?_getD]
def OY{i:Nat}(n:Int)(hk:k<h.length)(hi:i<(nth h k).length):(h.set k ((nth h k).set i n)).flatten=h.flatten.set (kT h k+i) n:=by
 have e:h.flatten=(h.take k).flatten++(nth h k++(h.drop (k+1)).flatten):=by rw[fA hk,<-List.flatten_cons,List.getElem_cons_drop,<-List.flatten_append,List.take_append_drop]
 have e2:h.set k ((nth h k).set i n)=h.take k++((nth h k).set i n::h.drop (k+1)):=by rw[List.set_eq_take_append_cons_drop,if_pos hk]
 rw[e2,List.flatten_append,List.flatten_cons,e];unfold kT;rw[List.set_append_right _ _ jB,Nat.add_sub_cancel_left,List.set_append_left _ _ hi]
def NJ(l:UY)(hl:l.length=(nth h k).length)(hk:k<h.length):lG (h.set k l)=lG h:=by
 unfold lG;rw[List.length_set];apply List.map_congr_left;intro j _;congr 1
 unfold kT;rw[List.take_set,List.length_flatten,List.length_flatten,List.map_set];congr 1
 apply List.ext_getElem jE;intro i h1 h2;rw[List.getElem_set];split
 ·rename_i e;subst e;rw[List.getElem_map,List.getElem_take,hl,fA hk]
 ·rfl
def gO(h:UW):UT:=[(2,.var 269 [.rs 3 h.flatten.length 1 h.flatten.length,.rs 4 h.length 1 h.length]),(3,.aJ 3 1 (h.flatten.map eI)),(4,.aJ 3 1 ((lG h).map eI))]
attribute [go_sem] gO
def Qu(h:UW)(k:Nat):(h++[List.replicate k 0]).flatten=h.flatten++List.replicate k 0:=jE
def Om(h:UW)(k:Nat):lG (h++[List.replicate k 0])=lG h++[((h.flatten.length+k:Nat):Int)]:=by
 unfold lG;rw[List.length_append,List.length_singleton,List.range_succ,List.map_append,List.map_singleton];congr 1
 ·apply List.map_congr_left;intro j hj;have hj:j<h.length:=List.mem_range.1 hj;congr 1
  unfold kT;rw[List.take_append_of_le_length jB]
 ·congr 2
  unfold kT;rw[List.take_of_length_le jE];simp
def P8(k:Nat):(List.replicate k (0:Int)).map eI=List.replicate k [AV.raw (.int .i64 0)]:=by simp[eI]
def kH(p:ab):UU:=[aM eT 5 p.aa.nodes,aM gg 5 p.aa.ao,aM eI 1 p.types,aM eI 1 p.slots,aM eI 1 p.fn,aM eI 1 p.size]
def BY(p:ab):cY p=kH p:=rfl
def bW(p:ab)(L:List az):UT:=[(0,.var 267 (kH p++[.rs 1 L.length 4 L.length])),(1,.aJ 219 4 (L.map dw))]
attribute [go_sem] bW kH
def Ma(f:Int->Int->List az)(k:Int)(L:UY)(i:Nat):(bA f k (L.take i) []).length<=(bA f k L []).length:=by have e:=Bc f (L.take i) (L.drop i) k [];rw[List.take_append_drop]at e;rw[e,wA f (L.drop i)];simp
def Pr(f:Int->Int->List az)(k:Int)(L:UY)(i:Nat)(h:i<L.length):bA f k (L.take (i+1)) []=bA f k (L.take i) []++f (nth L i) (k+(bA f k (L.take i) []).length):=by rw[show L.take (i+1)=L.take i++[nth L i] by rw[List.take_succ,List.getElem?_eq_getElem h,fA h];rfl,Bc];rfl
end Go.Gd
namespace Go.Proofs.YtjpcgmjaipfgdaaGreatDoor
open Go Go.Gd Tryz
def Cz(h:UW)(a:Int)(hl:h.length<=1000)(ha:a<1\/(h.length:Int)<a):af prog 175 [.pt 2 0 0 0,rI a] (gO h) (fun r l=>r=.raw (.slice none 0 0)/\l=gO h):=by
 have Xt:=vX h;by_cases h1:a<1
 ·refine aQ func175 ntmps175 ?_;refine S ?_
  (repeat' (first|refine ar fun K hK=>?_|refine av ?_|(refine hK _ _ ?_;clear hK K)|(refine au ?_ ?_<;>intro hc<;>try exact jz)|refine aq ?_|exact jI|(clear hK K)))
  (refine cd [.tmp 4] ?_ ?_<;>(try simp only[go_sem]))
 ·refine aQ func175 ntmps175 ?_;refine S ?_
  (repeat' (first|refine ar fun K hK=>?_|refine av ?_|(refine hK _ _ ?_;clear hK K)|(refine au ?_ ?_<;>intro hc<;>try exact jz)|refine aq ?_|exact jI|(clear hK K)))
  (refine cd [.tmp 4] ?_ ?_<;>(try simp only[go_sem]))
def xQ(h:UW)(k:Nat)(a:Int)(ha:a=(k:Int)+1)(hl:h.length<=1000)(hf:h.flatten.length<=1000)(hk:k<h.length):af prog 175 [.pt 2 0 0 0,rI a] (gO h) (fun r l=>r=.rv 3 h.flatten.length 1 (kT h k) (nth h k).length/\l=gO h):=by
 have Xt:=vX h;have e1:nth (lG h) (a-1).toNat=(kT h k+(nth h k).length:Nat):=by rw[show(a-1).toNat=k from jB,J3 hk,uG hk]
 have e2:=uG hk;have e3:=vu h (k+1);generalize (nth h k).length=c at*;by_cases h1:k=0
 ·have e0:kT h k=0:=by subst h1;rfl
  rw[e0]at e1 e2;rw[e0];refine aQ func175 ntmps175 ?_;refine S ?_
  (have W:=jA Xt e1;repeat' (first|refine ar fun K hK=>?_|refine av ?_|(refine hK _ _ ?_;clear hK K)|(refine au ?_ ?_<;>intro hc<;>try exact jz)|refine aq ?_|exact jI|(clear hK K)))
  (refine cd [.tmp 4] ?_ ?_<;>(try simp only[go_sem]))
  rw[Nat.sub_zero]
 ·have e4:nth (lG h) (a-2).toNat=(kT h k:Nat):=by
   have e4:=J3 (h:=h) (k:=k-1) jB;rw[show k-1+1=k from jB]at e4;rw[show(a-2).toNat=k-1 from jB];exact e4
  generalize kT h k=o at*;refine aQ func175 ntmps175 ?_;refine S ?_
  (have W:=jA Xt (jA e1 (e4));repeat' (first|refine ar fun K hK=>?_|refine av ?_|(refine hK _ _ ?_;clear hK K)|(refine au ?_ ?_<;>intro hc<;>try exact jz)|refine aq ?_|exact jI|(clear hK K)))
  (refine cd [.tmp 4] ?_ ?_<;>(try simp only[go_sem]))
  rw[Nat.add_sub_cancel_left]
def Te(h:UW)(a:Int)(hl:h.length<=1000)(hf:h.flatten.length<=1000):af prog 212 [.pt 2 0 0 0,rI a] (gO h) (fun r l=>r=rI (MV.bo h a).length/\l=gO h):=by
 unfold MV.bo;by_cases e:a<1\/(h.length:Int)<a
 ·have VM:=Cz h a hl e;rw[if_pos e];refine aQ func212 ntmps212 ?_;refine S ?_
  (repeat' (first|refine ar fun K hK=>?_|refine av ?_|(refine hK _ _ ?_;clear hK K)|(refine au ?_ ?_<;>intro hc<;>try exact jz)|refine cm (VM) ?_|refine aq ?_|exact jI|(clear hK K)))
  (refine cd [.tmp 4] ?_ ?_<;>(try simp only[go_sem]))
 ·have VM:=xQ h (a-1).toNat a jB hl hf jB;rw[if_neg e];refine aQ func212 ntmps212 ?_;refine S ?_
  (repeat' (first|refine ar fun K hK=>?_|refine av ?_|(refine hK _ _ ?_;clear hK K)|(refine au ?_ ?_<;>intro hc<;>try exact jz)|refine cm (VM) ?_|refine aq ?_|exact jI|(clear hK K)))
  (refine cd [.tmp 4] ?_ ?_<;>(try simp only[go_sem]))
def OI(h:UW)(a i:Int)(hl:h.length<=1000)(hf:h.flatten.length<=1000):af prog 213 [.pt 2 0 0 0,rI a,rI i] (gO h) (fun r l=>r=.ba [rI (if i<0\/((MV.bo h a).length:Int)<=i then 0 else nth (MV.bo h a) i.toNat),rI (if i<0\/((MV.bo h a).length:Int)<=i then 2 else 0)]/\l=gO h):=by
 by_cases e:a<1\/(h.length:Int)<a
 ·have VM:=Cz h a hl e;have e2:MV.bo h a=[]:=by unfold MV.bo;rw[if_pos e]
  have e3:i<0\/(([]:UY).length:Int)<=i:=by simp only[List.length_nil];omega
  rw[e2,if_pos e3,if_pos e3];by_cases h0:i<0
  ·refine aQ func213 ntmps213 ?_;refine S ?_
   (repeat' (first|refine ar fun K hK=>?_|refine av ?_|(refine hK _ _ ?_;clear hK K)|(refine au ?_ ?_<;>intro hc<;>try exact jz)|refine cm (VM) ?_|refine aq ?_|exact jI|(clear hK K)))
   (refine cd [.tmp 6,.tmp 7] ?_ ?_<;>(try simp only[go_sem]))
  ·refine aQ func213 ntmps213 ?_;refine S ?_
   (repeat' (first|refine ar fun K hK=>?_|refine av ?_|(refine hK _ _ ?_;clear hK K)|(refine au ?_ ?_<;>intro hc<;>try exact jz)|refine cm (VM) ?_|refine aq ?_|exact jI|(clear hK K)))
   (refine cd [.tmp 6,.tmp 7] ?_ ?_<;>(try simp only[go_sem]))
 ·have VM:=xQ h (a-1).toNat a jB hl hf jB;have e2:MV.bo h a=nth h (a-1).toNat:=by unfold MV.bo;rw[if_neg e]
  rw[e2];have hk:(a-1).toNat<h.length:=jB;generalize (a-1).toNat=k at*;have hof:=uG hk;have Vd:=vu h (k+1);by_cases e3:i<0\/((nth h k).length:Int)<=i
  ·rw[if_pos e3,if_pos e3];by_cases h0:i<0
   ·refine aQ func213 ntmps213 ?_;refine S ?_
    (repeat' (first|refine ar fun K hK=>?_|refine av ?_|(refine hK _ _ ?_;clear hK K)|(refine au ?_ ?_<;>intro hc<;>try exact jz)|refine cm (VM) ?_|refine aq ?_|exact jI|(clear hK K)))
    (refine cd [.tmp 6,.tmp 7] ?_ ?_<;>(try simp only[go_sem]))
   ·refine aQ func213 ntmps213 ?_;refine S ?_
    (repeat' (first|refine ar fun K hK=>?_|refine av ?_|(refine hK _ _ ?_;clear hK K)|(refine au ?_ ?_<;>intro hc<;>try exact jz)|refine cm (VM) ?_|refine aq ?_|exact jI|(clear hK K)))
    (refine cd [.tmp 6,.tmp 7] ?_ ?_<;>(try simp only[go_sem]))
  ·rw[if_neg e3,if_neg e3];have hn:=Mi (i:=i.toNat) hk jB;refine aQ func213 ntmps213 ?_;refine S ?_
   (have W:=hn;repeat' (first|refine ar fun K hK=>?_|refine av ?_|(refine hK _ _ ?_;clear hK K)|(refine au ?_ ?_<;>intro hc<;>try exact jz)|refine cm (VM) ?_|refine aq ?_|exact jI|(clear hK K)))
   (refine cd [.tmp 6,.tmp 7] ?_ ?_<;>(try simp only[go_sem]))
def L8(h:UW)(a i n:Int)(hl:h.length<=1000)(hf:h.flatten.length<=1000)(hi:¬(i<0\/((MV.bo h a).length:Int)<=i)):af prog 214 [.pt 2 0 0 0,rI a,rI i,rI n] (gO h) (fun r l=>r=rI 0/\l=gO (h.set (a-1).toNat ((nth h (a-1).toNat).set i.toNat n))):=by
 have e:¬(a<1\/(h.length:Int)<a):=fun e=>hi (by unfold MV.bo;rw[if_pos e];simp only[List.length_nil];omega)
 have e2:MV.bo h a=nth h (a-1).toNat:=by unfold MV.bo;rw[if_neg e]
 rw[e2]at hi;have VM:=xQ h (a-1).toNat a jB hl hf jB;have hk:(a-1).toNat<h.length:=jB;generalize (a-1).toNat=k at*;have hof:=uG hk;have Vd:=vu h (k+1);have hn:=OY n hk (i:=i.toNat) jB;have Zy:=NJ (h:=h) (k:=k) ((nth h k).set i.toNat n) (by rw[List.length_set]) hk;have Wp:(h.flatten.set (kT h k+i.toNat) n).length=h.flatten.length:=List.length_set;unfold gO;rw[hn,Zy];simp only[List.length_set,List.map_set];refine aQ func214 ntmps214 ?_;refine S ?_
 (repeat' (first|refine ar fun K hK=>?_|refine av ?_|(refine hK _ _ ?_;clear hK K)|(refine au ?_ ?_<;>intro hc<;>try exact jz)|refine cm (VM) ?_|refine aq ?_|exact jI|(clear hK K)))
 (refine cd [.tmp 8] ?_ ?_<;>(try simp only[go_sem]))
def TD(h:UW)(a i n:Int)(hl:h.length<=1000)(hf:h.flatten.length<=1000)(hi:i<0\/((MV.bo h a).length:Int)<=i):af prog 214 [.pt 2 0 0 0,rI a,rI i,rI n] (gO h) (fun r l=>r=rI 2/\l=gO h):=by
 by_cases e:a<1\/(h.length:Int)<a
 ·have VM:=Cz h a hl e;by_cases h0:i<0
  ·refine aQ func214 ntmps214 ?_;refine S ?_
   (repeat' (first|refine ar fun K hK=>?_|refine av ?_|(refine hK _ _ ?_;clear hK K)|(refine au ?_ ?_<;>intro hc<;>try exact jz)|refine cm (VM) ?_|refine aq ?_|exact jI|(clear hK K)))
   (refine cd [.tmp 8] ?_ ?_<;>(try simp only[go_sem]))
  ·refine aQ func214 ntmps214 ?_;refine S ?_
   (repeat' (first|refine ar fun K hK=>?_|refine av ?_|(refine hK _ _ ?_;clear hK K)|(refine au ?_ ?_<;>intro hc<;>try exact jz)|refine cm (VM) ?_|refine aq ?_|exact jI|(clear hK K)))
   (refine cd [.tmp 8] ?_ ?_<;>(try simp only[go_sem]))
 ·have VM:=xQ h (a-1).toNat a jB hl hf jB;have e2:MV.bo h a=nth h (a-1).toNat:=by unfold MV.bo;rw[if_neg e]
  rw[e2]at hi;have hk:(a-1).toNat<h.length:=jB;generalize (a-1).toNat=k at*;have hof:=uG hk;have Vd:=vu h (k+1);by_cases h0:i<0
  ·refine aQ func214 ntmps214 ?_;refine S ?_
   (repeat' (first|refine ar fun K hK=>?_|refine av ?_|(refine hK _ _ ?_;clear hK K)|(refine au ?_ ?_<;>intro hc<;>try exact jz)|refine cm (VM) ?_|refine aq ?_|exact jI|(clear hK K)))
   (refine cd [.tmp 8] ?_ ?_<;>(try simp only[go_sem]))
  ·refine aQ func214 ntmps214 ?_;refine S ?_
   (repeat' (first|refine ar fun K hK=>?_|refine av ?_|(refine hK _ _ ?_;clear hK K)|(refine au ?_ ?_<;>intro hc<;>try exact jz)|refine cm (VM) ?_|refine aq ?_|exact jI|(clear hK K)))
   (refine cd [.tmp 8] ?_ ?_<;>(try simp only[go_sem]))
def Qa(h:UW)(n:Int)(hn:n<0\/16<n)(hl:h.length<=40)(hf:h.flatten.length<=40):af prog 216 [.pt 2 0 0 0,rI n] (gO h) (fun r l=>r=.ba [rI 0,rI 7]/\l=gO h):=by
 have Xt:=vX h;refine aQ func216 ntmps216 ?_
 (refine S ?_;try exact jI)
 by_cases h0:n<0
 ·(repeat' (first|refine ar fun K hK=>?_|refine av ?_|(refine hK _ _ ?_;clear hK K)|(refine au ?_ ?_<;>intro hc<;>try exact jz)|refine aq ?_|exact jI|(clear hK K)))
  (refine cd [.tmp 4,.tmp 5] ?_ ?_<;>(try simp only[go_sem]))
 ·(repeat' (first|refine ar fun K hK=>?_|refine av ?_|(refine hK _ _ ?_;clear hK K)|(refine au ?_ ?_<;>intro hc<;>try exact jz)|refine aq ?_|exact jI|(clear hK K)))
  (refine cd [.tmp 4,.tmp 5] ?_ ?_<;>(try simp only[go_sem]))
def NP(h:UW)(n:Int)(hn:0<=n/\n<=16)(hc:40<(h.length:Int)+h.flatten.length+n+1)(hl:h.length<=40)(hf:h.flatten.length<=40):af prog 216 [.pt 2 0 0 0,rI n] (gO h) (fun r l=>r=.ba [rI 0,rI 4]/\l=gO h):=by
 have Xt:=vX h;refine aQ func216 ntmps216 ?_;refine S ?_
 (repeat' (first|refine ar fun K hK=>?_|refine av ?_|(with_reducible refine gR 3 ?_);refine dE 3 (bf 0 16) mixed ?_|(refine hK _ _ ?_;clear hK K)|(refine au ?_ ?_<;>intro hc<;>try exact jz)|refine aq ?_|exact jI|(clear hK K)))
 (refine cd [.tmp 4,.tmp 5] ?_ ?_<;>(try simp only[go_sem]))
def Qi(h:UW)(k:Nat)(hn:k<=16)(hc:h.length+h.flatten.length+k+1<=40):af prog 216 [.pt 2 0 0 0,rI k] (gO h) (fun r l=>r=.ba [rI (h.length+1:Nat),rI 0]/\l=gO (h++[List.replicate k 0])):=by
 have Xt:=vX h;unfold gO;rw[Qu,Om,List.map_append,P8];refine aQ func216 ntmps216 ?_;refine S ?_
 (repeat' (first|refine ar fun K hK=>?_|refine av ?_|(with_reducible refine gR 3 ?_);refine dE 3 (bf 0 16) mixed ?_|(with_reducible refine gR 6 ?_);refine dE 6 (bf 0 15) mixed ?_|(refine hK _ _ ?_;clear hK K)|(refine au ?_ ?_<;>intro hc<;>try exact jz)|(refine P6 (e:=3) (z0:=.int .i64 0) (css:=h.flatten.map eI) jG ⟨.i64,jG⟩ jG jG rfl (by simp only[go_sem];rfl) (by rw[List.length_map]) (by rw[List.length_map]) (by simp only[go_sem,room,List.length_map];omega) ?_;simp only[List.length_map];try refine S ?_)|refine aq ?_|exact jI|(clear hK K)))
 (refine cd [.tmp 4,.tmp 5] ?_ ?_<;>(try simp only[go_sem]))
 simp[eI]
def oK(p:ab)(L:List az)(a:Int)(h0:0<=a)(h1:a.toNat<p.aa.nodes.length):af prog 201 [.pt 0 0 0 0,rI a] (bW p L) (fun r l=>r=.agg (eT (ak p a))/\l=bW p L):=by
 unfold ak;refine aQ func201 ntmps201 ?_;refine S ?_
 (repeat' (first|refine ar fun K hK=>?_|refine av ?_|(refine hK _ _ ?_;clear hK K)|(refine au ?_ ?_<;>intro hc<;>try exact jz)|refine al 5 ?_|refine aq ?_|exact jI|(clear hK K)))
 (refine bq [.cell 4 116] ?_;try simp only[go_sem])
def ju(p:ab)(L:List az)(op a:Int)(hL:L.length<=1000000):af prog 160 [.pt 0 0 0 0,rI op,rI a] (bW p L) (fun r l=>r=rI L.length/\l=bW p (L++[⟨op,a,0,sE⟩])):=by
 refine aQ func160 ntmps160 ?_;refine S ?_
 (repeat' (first|refine ar fun K hK=>?_|refine av ?_|(refine hK _ _ ?_;clear hK K)|(refine au ?_ ?_<;>intro hc<;>try exact jz)|refine aq ?_|exact jI|(clear hK K)))
 (refine bq [.tmp 6] ?_;try simp only[go_sem])
 rw[show((L.length+1:Nat):Int)-1=(L.length:Int) from jB]
def AY(p:ab)(L:List az)(k:Nat)(hk:k<L.length)(hL:L.length<=1000000):af prog 258 [.pt 0 0 0 0,rI k] (bW p L) (fun r l=>r=.ba []/\l=bW p (L.set k { nth L k with a:=L.length })):=by
 refine aQ func258 ntmps258 ?_;refine S ?_
 (repeat' (first|refine ar fun K hK=>?_|refine av ?_|(with_reducible refine gR 0 ?_);refine dE 0 (bf 0 13) mixed ?_|(refine hK _ _ ?_;clear hK K)|(refine au ?_ ?_<;>intro hc<;>try exact jz)|refine aq ?_|exact jI|(clear hK K)))
 (refine cd [] ?_ ?_<;>(try simp only[go_sem]))
def zD(p:ab)(a:Int):List az:=if(ak p a).kind=1 then[iI 2 (ak p a).n]else if(ak p a).kind=2 then[iI 3 (ak p a).n]else if(ak p a).kind=3 then[⟨4,0,0,(ak p a).name⟩]else if(ak p a).kind=4 then[⟨5,nth p.slots a.toNat,nth p.types a.toNat,sE⟩]else if(ak p a).kind=19 then[iI 14 0]else[]
def S6(p:ab)(L:List az)(a:Int)(h0:0<=a)(h2:a.toNat<p.slots.length)(h3:a.toNat<p.types.length)(hL:L.length<=1000000) :
  af prog 261 [.pt 0 0 0 0,.agg (eT (ak p a)),rI a] (bW p L) (fun r l=>r=.ba []/\l=bW p (L++zD p a)):=by
 unfold zD;have Wn:=ju p L 2 (ak p a).n hL;have YE:=ju p L 3 (ak p a).n hL;have hp3:=ju p L 14 0 hL;generalize ak p a=nd at*;by_cases k1:nd.kind=1
 ·rw[if_pos k1];refine aQ func261 ntmps261 ?_;refine S ?_
  (have W:=k1;repeat' (first|refine ar fun K hK=>?_|refine av ?_|(refine hK _ _ ?_;clear hK K)|(refine au ?_ ?_<;>intro hc<;>try exact jz)|refine bx 5 ?_|refine cm (Wn) ?_|refine aq ?_|exact jI|(clear hK K)))
  (refine bq [] ?_;try simp only[go_sem])
 rw[if_neg k1];have n1:=eq_false k1;by_cases k2:nd.kind=2
 ·rw[if_pos k2];refine aQ func261 ntmps261 ?_;refine S ?_
  (have W:=k2;repeat' (first|refine ar fun K hK=>?_|refine av ?_|(refine hK _ _ ?_;clear hK K)|(refine au ?_ ?_<;>intro hc<;>try exact jz)|refine bx 5 ?_|refine cm (YE) ?_|refine aq ?_|exact jI|(clear hK K)))
  (refine bq [] ?_;try simp only[go_sem])
 rw[if_neg k2];have n2:=eq_false k2;by_cases k3:nd.kind=3
 ·rw[if_pos k3];refine aQ func261 ntmps261 ?_;refine S ?_
  (have W:=k3;repeat' (first|refine ar fun K hK=>?_|refine av ?_|(with_reducible refine gR 7 ?_);refine dE 7 (bf 0 13) mixed ?_|(refine hK _ _ ?_;clear hK K)|(refine au ?_ ?_<;>intro hc<;>try exact jz)|refine bx 5 ?_|refine aq ?_|exact jI|(clear hK K)))
  (refine bq [] ?_;try simp only[go_sem])
 rw[if_neg k3];have n3:=eq_false k3;by_cases k4:nd.kind=4
 ·rw[if_pos k4];refine aQ func261 ntmps261 ?_;refine S ?_
  (have W:=k4;repeat' (first|refine ar fun K hK=>?_|refine av ?_|(with_reducible refine gR 9 ?_);refine dE 9 (bf 0 27) mixed ?_|(refine hK _ _ ?_;clear hK K)|(refine au ?_ ?_<;>intro hc<;>try exact jz)|refine bx 5 ?_|refine aq ?_|exact jI|(clear hK K)))
  (refine bq [] ?_;try simp only[go_sem])
 rw[if_neg k4];have n4:=eq_false k4;by_cases k5:nd.kind=19
 ·rw[if_pos k5];refine aQ func261 ntmps261 ?_;refine S ?_
  (have W:=k5;repeat' (first|refine ar fun K hK=>?_|refine av ?_|(refine hK _ _ ?_;clear hK K)|(refine au ?_ ?_<;>intro hc<;>try exact jz)|refine bx 5 ?_|refine cm (hp3) ?_|refine aq ?_|exact jI|(clear hK K)))
  (refine bq [] ?_;try simp only[go_sem])
 rw[if_neg k5,List.append_nil];have n5:=eq_false k5;refine aQ func261 ntmps261 ?_;refine S ?_
 (have W:=jA n1 (jA n2 (jA n3 (jA n4 (n5))));repeat' (first|refine ar fun K hK=>?_|refine av ?_|(refine hK _ _ ?_;clear hK K)|(refine au ?_ ?_<;>intro hc<;>try exact jz)|refine bx 5 ?_|refine aq ?_|exact jI|(clear hK K)))
 (refine bq [] ?_;try simp only[go_sem])
attribute [local go_sem] iI
theorem Dc{p:ab}(ht:aS p.aa):∀(n m:Nat) (a k:Int),0<=a->a.toNat<p.aa.nodes.length->cW (bX p.aa.nodes a)->a.toNat<n->a.toNat<m->br p n a k=br p m a k
 |0,m,a,k,_,_,_,hn,_=>by omega
 |n+1,0,a,k,_,_,_,_,hm=>jB
 |n+1,m+1,a,k,h0,hl,hk,hn,hm=>by
  have sh:=(ht.shape a.toNat hl).1;have hb:=(ht.shape a.toNat hl).2.1;have Vv:cW (ak p a).kind:=hk;unfold cW at Vv;have aH:∀x k,x∈(ak p a).l->cW (bX p.aa.nodes x)->br p n x k=br p m x k:=fun x k hx Vw=>by have:=hb x hx;exact Dc ht n m x k this.1 jB Vw jB jB
  rw[l5,l5];have VP:(ak p a).kind=1\/(ak p a).kind=2\/(ak p a).kind=3\/(ak p a).kind=4\/((ak p a).kind=5\/(ak p a).kind=6\/(ak p a).kind=7\/(ak p a).kind=8)\/(ak p a).kind=9:=jB;rcases VP with e|e|e|e|e|e
  ·rw[if_pos e,if_pos e]
  ·rw[jN,if_pos e,jN,if_pos e]
  ·rw[jN,jN,if_pos e,jN,jN,if_pos e]
  ·rw[jN,jN,jN,if_pos e,jN,jN,jN,if_pos e]
  ·obtain⟨x,u',hx⟩:=sh.one (by have e:(nth p.aa.nodes a.toNat).kind=5\/(nth p.aa.nodes a.toNat).kind=6\/(nth p.aa.nodes a.toNat).kind=7\/(nth p.aa.nodes a.toNat).kind=8:=e;omega);have u':(ak p a).l=[x]:=u';have Wh:nth (ak p a).l 0=x:=by rw[u'];rfl
   have e1:=aH x k (by rw[u'];simp) hx;rw[Wh,e1];rcases e with e|e|e|e<;>simp only[e,Int.reduceEq,↓reduceIte]
  ·obtain⟨x,y,u',hx,hy⟩:=sh.two (.inl e);have u':(ak p a).l=[x,y]:=u';have Wh:nth (ak p a).l 0=x:=by rw[u'];rfl
   have Zb:nth (ak p a).l 1=y:=by rw[u'];rfl
   have e1:=fun k=>aH x k (by rw[u'];simp) hx
   have e2:=fun k=>aH y k (by rw[u'];simp) hy
   rw[Wh,Zb];simp only[e,e1,e2,Int.reduceEq,↓reduceIte]
structure gG(p:ab):Prop where
 ok:fO p
 neg:∀k,k<p.aa.nodes.length->¬jM (nth p.aa.nodes k).kind->nth p.slots k<=0
 pos:∀k,k<p.aa.nodes.length->jM (nth p.aa.nodes k).kind->0<=nth p.slots k
def Cq(p:ab)(n:Nat):Prop:=∀(a:Int) (L:List az),0<=a->a.toNat<p.aa.nodes.length->fz (bX p.aa.nodes a)->a.toNat<n->¬(1000000<L.length+3000*n)->af prog 241 [.pt 0 0 0 0,rI a] (bW p L) (fun r l=>r=.ba []/\l=bW p (L++j3 p n a L.length))
variable{p:ab}{n:Nat}
def nN{a k:Int}(h:cW (bX p.aa.nodes a)):j3 p n a k=br p n a k:=by have h:cW (ak p a).kind:=h;unfold cW at h;rw[uV,jN,jN,jN]
def QS(hp:gG p)(hx:Cq p n)(a:Int)(L:List az)(h0:0<=a)(hl:a.toNat<p.aa.nodes.length)(hk:(ak p a).kind=9)(hn:a.toNat<n+1)(hL:¬(1000000<L.length+3000*(n+1))):af prog 259 [.pt 0 0 0 0,.agg (eT (ak p a))] (bW p L) (fun r l=>r=.ba []/\l=bW p (L++br p (n+1) a L.length)):=by
 have ht:=hp.ok.ok.aa;have hb:=(ht.shape a.toNat hl).2.1;obtain⟨x,y,u',VE,YF⟩:=(ht.shape a.toNat hl).1.two (.inl hk);have u':(ak p a).l=[x,y]:=u';have Wh:nth (ak p a).l 0=x:=by rw[u'];rfl
 have Zb:nth (ak p a).l 1=y:=by rw[u'];rfl
 have bx:=hb x (by show x∈(ak p a).l;rw[u'];simp);have by_:=hb y (by show y∈(ak p a).l;rw[u'];simp);have O':=fun(z:Int) (k:Int) (lo:Nat)=>@mL p ht n z k lo
 obtain⟨lo,U'⟩:=(ht.shape a.toNat hl).2.2;have U':aP p.aa.nodes lo (ak p a).l a.toNat:=U';rw[u']at U';obtain⟨c1,c2,c3,c4,c5,c6⟩:=kQ U';obtain⟨d1,d2,d3,d4,d5⟩:=kX c6;have lx:=fun k=>O' x k lo c1 jB VE c5
 have ly:=fun k=>O' y k _ d1 jB YF d5
 have hm:=ht.many;have ex:=hx x L bx.1 jB (.inl VE) jB jB;rw[nN VE]at ex;have ey:=fun(M:List az) (hM:M.length<=L.length+2900)=>hx y M by_.1 jB (.inl YF) jB jB
 have hL:¬(997000<L.length):=jB;clear hx;rename_i hL0;clear hL0;simp only[nN YF]at ey;have e9:br p (n+1) a L.length=(let x:=br p n x L.length;if lD (ak p a).name=7 then x++br p n y (L.length+x.length)++[⟨7,0,0,(ak p a).name⟩]else let y:=br p n y (L.length+x.length+1);x++[iI (lD (ak p a).name) (L.length+x.length+1+y.length)]++y):=by rw[l5];simp only[hk,Wh,Zb,Int.reduceEq,↓reduceIte]
 rw[e9];clear e9;generalize hX:br p n x (L.length:Int)=X at*;have lX:X.length<=1300:=by have:=lx L.length;rw[hX]at this;omega
 have pt:=fun op=>ju p (L++X) op 0 (by simp only[List.length_append];omega)
 have ey1:=ey (L++X) (by simp only[List.length_append];omega);generalize ak p a=nd at*;by_cases k1:nd.name=(⟨#[38,38]⟩:U0)
 ·rw[k1];have hs:lD (⟨#[38,38]⟩:U0)=18:=by unfold lD;rw[if_pos rfl]
  simp only[hs,Int.reduceEq,↓reduceIte];rw[show(L.length:Int)+X.length+1=((L++X++[iI 18 0]).length:Nat) by simp;omega];have ey2:=ey (L++X++[iI 18 0]) (by simp only[List.length_append,List.length_singleton];omega);generalize hY:br p n y ((L++X++[iI 18 0]).length:Int)=Y at*;have lY:Y.length<=1300:=by have:=ly (L++X++[iI 18 0]).length;rw[hY]at this;omega
  have hh:=AY p (L++X++[iI 18 0]++Y) (L++X).length (by simp only[List.length_append,List.length_singleton];omega) (by simp only[List.length_append,List.length_singleton];omega);rw[show nth (L++X++[iI 18 0]++Y) (L++X).length=iI 18 0 by rw[List.append_assoc];simp[nth]]at hh;have e8:(L++X++[iI 18 0]++Y).set (L++X).length ⟨18,((L++X++[iI 18 0]++Y).length:Nat),0,sE⟩=L++(X++[iI 18 (((L++X++[iI 18 0]).length:Nat)+Y.length)]++Y):=by rw[List.append_assoc,List.set_append_right _ _ jl,Nat.sub_self];simp[iI];omega
  have e8:bW p ((L++X++[iI 18 0]++Y).set (L++X).length { iI 18 0 with a:=((L++X++[iI 18 0]++Y).length:Nat) })=bW p (L++(X++[iI 18 (((L++X++[iI 18 0]).length:Nat)+Y.length)]++Y)):=by rw[<-e8];rfl
  rw[e8,show(L++X).length=L.length+X.length from List.length_append]at hh;clear e8;have YS:=pt 18;refine aQ func259 ntmps259 ?_
  (refine S ?_;try exact jI)
  have d1:(((⟨#[124,124]⟩:U0):U0)=(⟨#[38,38]⟩:U0))=False:=eq_false jC;have k1':(nd.name=(⟨#[38,38]⟩:U0))=True:=eq_true k1
  (have W:=jA k1' (jA u' (d1));repeat' (first|refine ar fun K hK=>?_|refine av ?_|(refine hK _ _ ?_;clear hK K)|(refine au ?_ ?_<;>intro hc<;>try exact jz)|refine cm (ex) ?_|refine tI 6 ?_|refine vN [] rm ?_|refine vN [(⟨#[38,38]⟩:U0)] rm ?_|refine p6 (n:=nd.name) (vs:=[rI 18,rI 19]) [(⟨#[38,38]⟩:U0),(⟨#[124,124]⟩:U0)] (.int .i64 0) (.ba [rI 18,rB true]) rm jG (by unfold mG;rw[if_pos rfl];simp only[oM,k1,↓reduceIte]) ?_|refine cm (YS) ?_|refine cm (ey2) ?_|refine cm (hh) ?_|refine aq ?_|exact jI|(clear hK K)))
  (refine bq [] ?_;try simp only[go_sem])
 by_cases k2:nd.name=(⟨#[124,124]⟩:U0)
 ·rw[k2];have hs:lD (⟨#[124,124]⟩:U0)=19:=by unfold lD;rw[if_neg jC,if_pos rfl]
  simp only[hs,Int.reduceEq,↓reduceIte];rw[show(L.length:Int)+X.length+1=((L++X++[iI 19 0]).length:Nat) by simp;omega];have ey2:=ey (L++X++[iI 19 0]) (by simp only[List.length_append,List.length_singleton];omega);generalize hY:br p n y ((L++X++[iI 19 0]).length:Int)=Y at*;have lY:Y.length<=1300:=by have:=ly (L++X++[iI 19 0]).length;rw[hY]at this;omega
  have hh:=AY p (L++X++[iI 19 0]++Y) (L++X).length (by simp only[List.length_append,List.length_singleton];omega) (by simp only[List.length_append,List.length_singleton];omega);rw[show nth (L++X++[iI 19 0]++Y) (L++X).length=iI 19 0 by rw[List.append_assoc];simp[nth]]at hh;have e8:(L++X++[iI 19 0]++Y).set (L++X).length ⟨19,((L++X++[iI 19 0]++Y).length:Nat),0,sE⟩=L++(X++[iI 19 (((L++X++[iI 19 0]).length:Nat)+Y.length)]++Y):=by rw[List.append_assoc,List.set_append_right _ _ jl,Nat.sub_self];simp[iI];omega
  have e8:bW p ((L++X++[iI 19 0]++Y).set (L++X).length { iI 19 0 with a:=((L++X++[iI 19 0]++Y).length:Nat) })=bW p (L++(X++[iI 19 (((L++X++[iI 19 0]).length:Nat)+Y.length)]++Y)):=by rw[<-e8];rfl
  rw[e8,show(L++X).length=L.length+X.length from List.length_append]at hh;clear e8;have YS:=pt 19;refine aQ func259 ntmps259 ?_
  (refine S ?_;try exact jI)
  have d1:(((⟨#[124,124]⟩:U0):U0)=(⟨#[38,38]⟩:U0))=False:=eq_false jC;have k2':(nd.name=(⟨#[124,124]⟩:U0))=True:=eq_true k2
  (have W:=jA k2' (jA u' (d1));repeat' (first|refine ar fun K hK=>?_|refine av ?_|(refine hK _ _ ?_;clear hK K)|(refine au ?_ ?_<;>intro hc<;>try exact jz)|refine cm (ex) ?_|refine tI 6 ?_|refine vN [] rm ?_|refine vN [(⟨#[38,38]⟩:U0)] rm ?_|refine p6 (n:=nd.name) (vs:=[rI 18,rI 19]) [(⟨#[38,38]⟩:U0),(⟨#[124,124]⟩:U0)] (.int .i64 0) (.ba [rI 19,rB true]) rm jG (by unfold mG;rw[if_pos rfl];simp only[oM,k2,d1,↓reduceIte]) ?_|refine cm (YS) ?_|refine cm (ey2) ?_|refine cm (hh) ?_|refine aq ?_|exact jI|(clear hK K)))
  (refine bq [] ?_;try simp only[go_sem])
 have n1:=eq_false k1;have n2:=eq_false k2;have hs:lD nd.name=7:=by unfold lD;rw[if_neg k1,if_neg k2]
 simp only[hs,↓reduceIte];rw[show(L.length:Int)+X.length=((L++X).length:Nat) from jE];generalize hY:br p n y ((L++X).length:Int)=Y at*;have lY:Y.length<=1300:=by have:=ly (L++X).length;rw[hY]at this;omega
 simp only[<-List.append_assoc];refine aQ func259 ntmps259 ?_
 (refine S ?_;try exact jI)
 have d1:(((⟨#[124,124]⟩:U0):U0)=(⟨#[38,38]⟩:U0))=False:=eq_false jC
 (have W:=jA n1 (jA n2 (jA u' (d1)));repeat' (first|refine ar fun K hK=>?_|refine av ?_|(with_reducible refine gR 6 ?_);refine dE 6 (bf 0 13) mixed ?_|(refine hK _ _ ?_;clear hK K)|(refine au ?_ ?_<;>intro hc<;>try exact jz)|refine cm (ex) ?_|refine tI 6 ?_|refine vN [] rm ?_|refine vN [(⟨#[38,38]⟩:U0)] rm ?_|refine p6 (n:=nd.name) (vs:=[rI 18,rI 19]) [(⟨#[38,38]⟩:U0),(⟨#[124,124]⟩:U0)] (.int .i64 0) (.ba [rI 0,rB false]) rm jG (by unfold mG;rw[if_pos rfl];simp only[oM,k1,k2,↓reduceIte]) ?_|refine cm (ey1) ?_|refine aq ?_|exact jI|(clear hK K)))
 (refine bq [] ?_;try simp only[go_sem])
def CN(p:ab)(f:FuncId)(hf:aX prog f=true)(g:Int->Int->List az)(l:UY)(L:List az)(hl:l.length<=1000)(B:Nat)(hB:¬(B<L.length+(bA g L.length l []).length))
  (hc:∀x∈l,∀M:List az,¬(B<M.length)->af prog f [.pt 0 0 0 0,rI x] (bW p M) (fun r l=>r=.ba []/\l=bW p (M++g x M.length))) :
  af prog 200 [aM eI 1 l,.bd f [.pt 0 0 0 0]] (bW p L) (fun r l'=>r=.ba []/\l'=bW p (L++bA g L.length l [])):=by
 refine aQ func200 ntmps200 ?_;generalize hE:bW p (L++bA g L.length l [])=E;refine S ?_
 (repeat' (first|refine ar fun K hK=>?_|refine av ?_|(refine hK _ _ ?_;clear hK K)|(refine au ?_ ?_<;>intro hc<;>try exact jz)|refine aq ?_|exact jI|(clear hK K)))
 refine dJ (S:=Nat) [(5,1),(8,8)] (fun k=>k<=l.length) (fun k=>[(8,rI k)]) (fun k=>⟨[0,1],bW p (L++bA g L.length (l.take k) [])⟩) (fun k=>l.length-k) 0 jB (dK (by show _=Hp.mk _ (bW p (L++[]));rw[List.append_nil];rfl) bU) ?_;rintro k hk Kr Vb;have Vd:=Ma g L.length l k;by_cases D':k<l.length
 ·have Yp:=hc (nth l k) (fc D') (L++bA g L.length (l.take k) []) (by rw[List.length_append];omega);have hs:=Pr g L.length l k D';rw[List.append_assoc,show((L++bA g L.length (l.take k) []).length:Int)=L.length+(bA g L.length (l.take k) []).length by rw[List.length_append];rfl,<-hs]at Yp;generalize hX:bA g L.length (l.take k) []=X at*;generalize hY:bA g L.length (l.take (k+1)) []=Y at*;refine S ?_
  (have W:=hf;repeat' (first|refine ar fun K hK=>?_|refine av ?_|(refine hK _ _ ?_;clear hK K)|(refine au ?_ ?_<;>intro hc<;>try exact jz)|refine bm Yp ?_|refine aq ?_|exact jI|(clear hK K)))
  refine Vb _ _ (dT (k+1) jB jJ (by rw[hY];simp only[bW,kH,List.length_append,List.map_append,List.cons_append,List.nil_append]) bU)
 ·have e:k=l.length:=jB;subst e;rw[List.take_length,hE];refine S ?_
  (repeat' (first|refine ar fun K hK=>?_|refine av ?_|(refine hK _ _ ?_;clear hK K)|(refine au ?_ ?_<;>intro hc<;>try exact jz)|refine aq ?_|exact jI|(clear hK K)))
  (refine cd [] ?_ ?_<;>(try simp only[go_sem]))
def Sx(n:bw)(f:bk):af prog 273 [.agg (gg f),.pt 4 0 0 0] [(4,.var 116 (eT n))] (fun r l=>r=rB (decide (f.name=n.name))/\l=[(4,.var 116 (eT n))]):=by
 refine aQ func273 ntmps273 ?_
 (repeat' (first|refine ar fun K hK=>?_|refine av ?_|(refine hK _ _ ?_;clear hK K)|(refine au ?_ ?_<;>intro hc<;>try exact jz)|refine bx 5 ?_|refine aq ?_|exact jI|(clear hK K)))
 (refine bq [.tmp 3] ?_;try simp only[go_sem])
def RU(n:bw)(L:List bk)(k:Nat)(hL:L.length<=1000)(hk:k<L.length)(Vm:(nth L k).name=n.name)(Xg:∀i,i<k->(nth L i).name≠n.name) :
  af prog 161 [aM gg 5 L,.eW 273 [.pt 4 0 0 0]] [(4,.var 116 (eT n))] (fun r l=>r=rI k/\l=[(4,.var 116 (eT n))]):=by
 refine aQ func161 ntmps161 ?_
 (repeat' (first|refine ar fun K hK=>?_|refine av ?_|(refine hK _ _ ?_;clear hK K)|(refine au ?_ ?_<;>intro hc<;>try exact jz)|refine aq ?_|exact jI|(clear hK K)))
 refine dJ (S:=Nat) [(4,2),(8,11)] (fun i=>i<=k) (fun i=>[(8,rI i)]) (fun i=>⟨[4],[(4,.var 116 (eT n))]⟩) (fun i=>k-i) 0 jB (dK rfl bU) ?_;rintro i hi Kr Vb;have Xw:=Sx n (nth L i);by_cases e:i=k
 ·subst e;rw[decide_eq_true Vm]at Xw;refine S ?_
  (repeat' (first|refine ar fun K hK=>?_|refine av ?_|(refine hK _ _ ?_;clear hK K)|(refine au ?_ ?_<;>intro hc<;>try exact jz)|refine cl Xw ?_|refine aq ?_|exact jI|(clear hK K)))
  (refine bq [.tmp 4] ?_;try simp only[go_sem])
 ·rw[decide_eq_false (Xg i jB)]at Xw;refine S ?_
  (repeat' (first|refine ar fun K hK=>?_|refine av ?_|(refine hK _ _ ?_;clear hK K)|(refine au ?_ ?_<;>intro hc<;>try exact jz)|refine cl Xw ?_|refine aq ?_|exact jI|(clear hK K)))
  refine Vb _ _ (dT (i+1) jB jJ rfl bU)
def RC(hp:gG p)(hx:Cq p n)(a:Int)(L:List az)(h0:0<=a)(hl:a.toNat<p.aa.nodes.length)(hk:(ak p a).kind=21)(hn:a.toNat<n+1)(hL:¬(1000000<L.length+3000*(n+1))):af prog 260 [.pt 0 0 0 0,.agg (eT (ak p a))] (bW p L) (fun r l=>r=.ba []/\l=bW p (L++cM p n a L.length)):=by
 have ht:=hp.ok.ok.aa;have hbv:=ht.ao;have hm:=ht.many;have hb:=(ht.shape a.toNat hl).2.1;have VI:=(ht.shape a.toNat hl).1.call hk;obtain⟨lo,U'⟩:=(ht.shape a.toNat hl).2.2;have O':=Bt ht n (L.length:Int) lo hl hk U';obtain⟨k,hc⟩:=callee hp.ok hl hk;have XC:=RU (ak p a) p.aa.ao k jB hc.lt hc.name (fun i hi=>by have:=hp.ok.names.one i k hi hc.lt;rwa [hc.name]at this);have hlc:(cM p n a L.length).length=(bA (br p n) (L.length:Int) (ak p a).l []).length+1:=by unfold cM;simp
 have WQ:=CN p 241 jD (br p n) (ak p a).l L (by have:=hc.C1;omega) (1000000-3000*n) jB (fun x XD M hM=>by have Zm:=hb x XD;have Vw:=VI x XD;have:=hx x M Zm.1 jB (.inl Vw) jB jB;rwa [nN Vw]at this)
 have VM:BX p a=k:=hc.last;unfold cM;rw[VM];have hL:¬(997000<L.length):=jB;rename_i hL0;clear hx hL0;have hbA:=hc.C1;generalize ak p a=nd at*;generalize hX:bA (br p n) (L.length:Int) nd.l []=X at*;simp only[<-List.append_assoc];refine aQ func260 ntmps260 ?_;refine S ?_
 (repeat' (first|refine ar fun K hK=>?_|refine av ?_|(with_reducible refine gR 3 ?_);refine dE 3 (bf 0 15) mixed ?_|(refine hK _ _ ?_;clear hK K)|(refine au ?_ ?_<;>intro hc<;>try exact jz)|refine bv 4 ?_|refine cm (WQ) ?_|refine cm (XC) ?_|refine aq ?_|exact jI|(clear hK K)))
 (refine bq [] ?_;try simp only[go_sem])
attribute [local go_sem] iI
def Ti(a x:Int)(L X:List az)(op:Int)(h0:0<=a)(hl:a.toNat<p.aa.nodes.length)(hs:a.toNat<p.slots.length)(u':(ak p a).l=[x])(hL:¬(1000000<(L++X).length))
  (hm:mG (ak p a).kind [6,7,8,20,5] [rI 10,rI 8,rI 9,rI 13,rI 11] (.raw (.int .i64 0)) true=.ba [rI op,rB true])
  (ex:af prog 241 [.pt 0 0 0 0,rI x] (bW p L) (fun r l=>r=.ba []/\l=bW p (L++X))) :
  af prog 241 [.pt 0 0 0 0,rI a] (bW p L) (fun r l=>r=.ba []/\l=bW p (L++X++[iI op (if nth p.slots a.toNat<0 then 0 else nth p.slots a.toNat)])):=by
 have p':=oK p L a h0 hl;have YS:=fun v=>ju p (L++X) op v jB
 generalize ak p a=nd at*;refine aQ func241 ntmps241 ?_;refine S ?_
 (have W:=u';repeat' (first|refine ar fun K hK=>?_|refine av ?_|(refine hK _ _ ?_;clear hK K)|(refine au ?_ ?_<;>intro hc<;>try exact jz)|refine al 5 ?_|refine cm (p') ?_|refine tI 6 ?_|refine k9 [] iG ?_|refine k9 [6] iG ?_|refine k9 [6,7] iG ?_|refine k9 [6,7,8] iG ?_|refine k9 [6,7,8,20] iG ?_|refine sX (n:=nd.kind) (vs:=[rI 10,rI 8,rI 9,rI 13,rI 11]) [6,7,8,20,5] (.int .i64 0) (.ba [rI op,rB true]) iG jG hm ?_|refine cm (ex) ?_|refine cm (YS _) ?_|refine aq ?_|exact jI|(clear hK K)))
 (refine bq [] ?_;try simp only[go_sem])
def Ut(a:Int)(L X:List az)(h0:0<=a)(hl:a.toNat<p.aa.nodes.length)
  (hm:mG (ak p a).kind [6,7,8,20,5] [rI 10,rI 8,rI 9,rI 13,rI 11] (.raw (.int .i64 0)) true=.ba [rI 0,rB false]) (hk:(ak p a).kind=9)
  (ex:af prog 259 [.pt 0 0 0 0,.agg (eT (ak p a))] (bW p L) (fun r l=>r=.ba []/\l=bW p (L++X))) :
  af prog 241 [.pt 0 0 0 0,rI a] (bW p L) (fun r l=>r=.ba []/\l=bW p (L++X)):=by
 have p':=oK p L a h0 hl;generalize ak p a=nd at*;rw[hk]at hm;refine aQ func241 ntmps241 ?_;refine S ?_
 (have W:=hk;repeat' (first|refine ar fun K hK=>?_|refine av ?_|(refine hK _ _ ?_;clear hK K)|(refine au ?_ ?_<;>intro hc<;>try exact jz)|refine al 5 ?_|refine cm (p') ?_|refine tI 6 ?_|refine k9 [] iG ?_|refine k9 [6] iG ?_|refine k9 [6,7] iG ?_|refine k9 [6,7,8] iG ?_|refine k9 [6,7,8,20] iG ?_|refine sX (n:=9) (vs:=[rI 10,rI 8,rI 9,rI 13,rI 11]) [6,7,8,20,5] (.int .i64 0) (.ba [rI 0,rB false]) iG jG hm ?_|refine cm (ex) ?_|refine aq ?_|exact jI|(clear hK K)))
 (refine bq [] ?_;try simp only[go_sem])
def PS(a:Int)(L X:List az)(h0:0<=a)(hl:a.toNat<p.aa.nodes.length)
  (hm:mG (ak p a).kind [6,7,8,20,5] [rI 10,rI 8,rI 9,rI 13,rI 11] (.raw (.int .i64 0)) true=.ba [rI 0,rB false]) (hk:(ak p a).kind=21)
  (ex:af prog 260 [.pt 0 0 0 0,.agg (eT (ak p a))] (bW p L) (fun r l=>r=.ba []/\l=bW p (L++X))) :
  af prog 241 [.pt 0 0 0 0,rI a] (bW p L) (fun r l=>r=.ba []/\l=bW p (L++X)):=by
 have p':=oK p L a h0 hl;generalize ak p a=nd at*;rw[hk]at hm;refine aQ func241 ntmps241 ?_;refine S ?_
 (have W:=hk;repeat' (first|refine ar fun K hK=>?_|refine av ?_|(refine hK _ _ ?_;clear hK K)|(refine au ?_ ?_<;>intro hc<;>try exact jz)|refine al 5 ?_|refine cm (p') ?_|refine tI 6 ?_|refine k9 [] iG ?_|refine k9 [6] iG ?_|refine k9 [6,7] iG ?_|refine k9 [6,7,8] iG ?_|refine k9 [6,7,8,20] iG ?_|refine sX (n:=21) (vs:=[rI 10,rI 8,rI 9,rI 13,rI 11]) [6,7,8,20,5] (.int .i64 0) (.ba [rI 0,rB false]) iG jG hm ?_|refine cm (ex) ?_|refine aq ?_|exact jI|(clear hK K)))
 (refine bq [] ?_;try simp only[go_sem])
def OQ(a:Int)(L X:List az)(h0:0<=a)(hl:a.toNat<p.aa.nodes.length)
  (hm:mG (ak p a).kind [6,7,8,20,5] [rI 10,rI 8,rI 9,rI 13,rI 11] (.raw (.int .i64 0)) true=.ba [rI 0,rB false]) (hk:(ak p a).kind≠9) (Vk:(ak p a).kind≠21)
  (ex:af prog 261 [.pt 0 0 0 0,.agg (eT (ak p a)),rI a] (bW p L) (fun r l=>r=.ba []/\l=bW p (L++X))) :
  af prog 241 [.pt 0 0 0 0,rI a] (bW p L) (fun r l=>r=.ba []/\l=bW p (L++X)):=by
 have p':=oK p L a h0 hl;generalize ak p a=nd at*;have n1:=eq_false hk;have n2:=eq_false Vk;refine aQ func241 ntmps241 ?_;refine S ?_
 (have W:=jA n1 n2;repeat' (first|refine ar fun K hK=>?_|refine av ?_|(refine hK _ _ ?_;clear hK K)|(refine au ?_ ?_<;>intro hc<;>try exact jz)|refine al 5 ?_|refine cm (p') ?_|refine tI 6 ?_|refine k9 [] iG ?_|refine k9 [6] iG ?_|refine k9 [6,7] iG ?_|refine k9 [6,7,8] iG ?_|refine k9 [6,7,8,20] iG ?_|refine sX (n:=nd.kind) (vs:=[rI 10,rI 8,rI 9,rI 13,rI 11]) [6,7,8,20,5] (.int .i64 0) (.ba [rI 0,rB false]) iG jG hm ?_|refine cm (ex) ?_|refine aq ?_|exact jI|(clear hK K)))
 (refine bq [] ?_;try simp only[go_sem])
def QG(ht:aS p.aa)(n m:Nat)(a k:Int)(hl:a.toNat<p.aa.nodes.length)(hk:(ak p a).kind=21)(hn:a.toNat<=n)(hm:a.toNat<=m):cM p n a k=cM p m a k:=by
 have hb:=(ht.shape a.toNat hl).2.1;have VI:=(ht.shape a.toNat hl).1.call hk;unfold cM;rw[HR (ak p a).l k [] fun x hx j=>by have Zm:=hb x hx;exact Dc ht n m x j Zm.1 jB (VI x hx) jB jB]
theorem Jx{p:ab}(hp:gG p):∀n,Cq p n
 |0=>fun a L h0 hl hk hn hL=>by omega
 |n+1=>fun a L h0 hl hk hn hL=>by
  have hx:=Jx hp n;have ht:=hp.ok.ok.aa;have hm:=ht.many;have hb:=(ht.shape a.toNat hl).2.1;have V5:p.slots.length=p.aa.nodes.length:=hp.ok.ok.slots;have XK:p.types.length=p.aa.nodes.length:=hp.ok.ok.types;have sh:=(ht.shape a.toNat hl).1;have Vv:fz (ak p a).kind:=hk;unfold fz cW at Vv;have aH:∀x k,x∈(ak p a).l->cW (bX p.aa.nodes x)->br p (n+1) x k=br p n x k:=fun x k hx Vw=>by have:=hb x hx;exact Dc ht (n+1) n x k this.1 jB Vw jB jB
  by_cases e21:(ak p a).kind=21
  ·have h1:=RC hp hx a L h0 hl e21 hn jB;rw[show j3 p (n+1) a L.length=cM p n a L.length by rw[uV,jN,jN,if_pos e21];exact QG ht _ _ a _ hl e21 jB jB];exact PS a L _ h0 hl (by rw[e21];rfl) e21 h1
  by_cases e9:(ak p a).kind=9
  ·have h1:=QS hp hx a L h0 hl e9 hn jB;rw[nN (show cW _ by unfold cW;show 1<=(ak p a).kind/\(ak p a).kind<=9;omega)];exact Ut a L _ h0 hl (by rw[e9];rfl) e9 h1
  have XL:∀op k,(ak p a).kind=k->(k=5\/k=6\/k=7\/k=8\/k=20)->mG k [6,7,8,20,5] [rI 10,rI 8,rI 9,rI 13,rI 11] (.raw (.int .i64 0)) true=.ba [rI op,rB true]->∃x X,(ak p a).l=[x]/\br p n x L.length=X/\br p (n+1) x L.length=X/\
    af prog 241 [.pt 0 0 0 0,rI a] (bW p L) (fun r l=>r=.ba []/\l=bW p (L++(X++[iI op (if nth p.slots a.toNat<0 then 0 else nth p.slots a.toNat)]))):=fun op k e hk5 hm5=>by
   obtain⟨x,u',VE⟩:=sh.one (by have e:(nth p.aa.nodes a.toNat).kind=k:=e;omega);have u':(ak p a).l=[x]:=u';have Zm:=hb x (by show x∈(ak p a).l;rw[u'];simp);obtain⟨lo,U'⟩:=(ht.shape a.toNat hl).2.2;have U':aP p.aa.nodes lo (ak p a).l a.toNat:=U';rw[u']at U';obtain⟨d1,d2,d3,d4,d5⟩:=kX U';have lx:=mL ht n x L.length lo d1 jB VE d5;have ex:=hx x L Zm.1 jB (.inl VE) jB jB;rw[nN VE]at ex;refine⟨x,br p n x L.length,u',rfl,aH x _ (by rw[u'];simp) VE,?_⟩;rw[<-List.append_assoc];exact Ti a x L _ op h0 hl jB u' (by rw[List.length_append];omega) (by rw[e];exact hm5) ex
  have neg:(ak p a).kind=6\/(ak p a).kind=7\/(ak p a).kind=8\/(ak p a).kind=20->(if nth p.slots a.toNat<0 then 0 else nth p.slots a.toNat)=0:=fun e=>by have:=hp.neg a.toNat hl (by unfold jM;have e:(nth p.aa.nodes a.toNat).kind=6\/(nth p.aa.nodes a.toNat).kind=7\/(nth p.aa.nodes a.toNat).kind=8\/(nth p.aa.nodes a.toNat).kind=20:=e;omega);split<;>omega
  by_cases e5:(ak p a).kind=5
  ·obtain⟨x,X,h1,h2,ZM,h3⟩:=XL 11 5 e5 jB rfl;have hps:=hp.pos a.toNat hl (by unfold jM;have e:(nth p.aa.nodes a.toNat).kind=5:=e5;omega);rw[jN]at h3;rw[nN (show cW _ by unfold cW;show 1<=(ak p a).kind/\(ak p a).kind<=9;omega),l5];simp only[e5,h1,Int.reduceEq,↓reduceIte];rw[show nth [x] 0=x from rfl,h2];exact h3
  by_cases e6:(ak p a).kind=6
  ·obtain⟨x,X,h1,h2,ZM,h3⟩:=XL 10 6 e6 jB rfl;rw[neg jB]at h3;rw[nN (show cW _ by unfold cW;show 1<=(ak p a).kind/\(ak p a).kind<=9;omega),l5];simp only[e6,h1,Int.reduceEq,↓reduceIte];rw[show nth [x] 0=x from rfl,h2];exact h3
  by_cases e7:(ak p a).kind=7
  ·obtain⟨x,X,h1,h2,ZM,h3⟩:=XL 8 7 e7 jB rfl;rw[neg jB]at h3;rw[nN (show cW _ by unfold cW;show 1<=(ak p a).kind/\(ak p a).kind<=9;omega),l5];simp only[e7,h1,Int.reduceEq,↓reduceIte];rw[show nth [x] 0=x from rfl,h2];exact h3
  by_cases e8:(ak p a).kind=8
  ·obtain⟨x,X,h1,h2,ZM,h3⟩:=XL 9 8 e8 jB rfl;rw[neg jB]at h3;rw[nN (show cW _ by unfold cW;show 1<=(ak p a).kind/\(ak p a).kind<=9;omega),l5];simp only[e8,h1,Int.reduceEq,↓reduceIte];rw[show nth [x] 0=x from rfl,h2];exact h3
  by_cases e20:(ak p a).kind=20
  ·obtain⟨x,X,h1,h2,ZM,h3⟩:=XL 13 20 e20 jB rfl;rw[neg jB]at h3;rw[uV];simp only[e20,h1,Int.reduceEq,↓reduceIte];rw[show nth [x] 0=x from rfl,ZM];exact h3
  have hlf:=S6 p L a h0 jB jB jB;rw[show j3 p (n+1) a L.length=zD p a by unfold zD;have VP:(ak p a).kind=1\/(ak p a).kind=2\/(ak p a).kind=3\/(ak p a).kind=4\/(ak p a).kind=19:=jB;rcases VP with e|e|e|e|e<;>(rw[uV,l5 p n a];simp only[e,Int.reduceEq,↓reduceIte])]
  exact OQ a L _ h0 hl (by have VP:(ak p a).kind=1\/(ak p a).kind=2\/(ak p a).kind=3\/(ak p a).kind=4\/(ak p a).kind=19:=jB;rcases VP with e|e|e|e|e<;>(rw[e];rfl)) e9 e21 hlf
attribute [local go_sem] iI
def JZ(p:ab)(n:Nat):Prop:=∀(a:Int) (L:List az),0<=a->a.toNat<p.aa.nodes.length->fF (bX p.aa.nodes a)->a.toNat<n->¬(1000000<L.length+3000*n)->af prog 202 [.pt 0 0 0 0,rI a] (bW p L) (fun r l=>r=.ba []/\l=bW p (L++gv p n a L.length))
def Gz(ht:aS p.aa)(n:Nat)(b:Int)(k:Int)(lo:Nat)(b0:0<=b)(b1:b.toNat<p.aa.nodes.length)(b2:bX p.aa.nodes b=18)(b3:aP p.aa.nodes lo (ak p b).l b.toNat):(bA (gv p n) k (ak p b).l []).length+4*lo<=4*b.toNat:=
 xT (f:=gv p n) (ak p b).l k lo b.toNat b3 fun x hx k lo Yp=>by have hb:=(ht.shape b.toNat b1).2.1 x hx;exact C7 ht n x k lo hb.1 jB ((ht.shape b.toNat b1).1.block b2 x hx) Yp
def zM(ht:aS p.aa)(n:Nat)(b:Int)(k:Int)(b0:0<=b)(b1:b.toNat<p.aa.nodes.length)(b2:bX p.aa.nodes b=18):(bA (gv p n) k (ak p b).l []).length<=1200:=by obtain⟨lo,b3⟩:=(ht.shape b.toNat b1).2.2;have hm:=ht.many;have:=Gz ht n b k lo b0 b1 b2 b3;omega
def Ba(hp:gG p)(hs:JZ p n)(b:Int)(L:List az)(h0:0<=b)(hl:b.toNat<p.aa.nodes.length)(hk:bX p.aa.nodes b=18)(hn:b.toNat<=n)(hL:¬(998700<L.length+3000*n)) :
  af prog 159 [.pt 0 0 0 0,rI b] (bW p L) (fun r l=>r=.ba []/\l=bW p (L++bA (gv p n) L.length (ak p b).l [])):=by
 have ht:=hp.ok.ok.aa;have hm:=ht.many;have hb:=(ht.shape b.toNat hl).2.1;have VI:=(ht.shape b.toNat hl).1.block hk;have O':=zM ht n b L.length h0 hl hk;obtain⟨lo,U'⟩:=(ht.shape b.toNat hl).2.2;have Vf:lo+(ak p b).l.length<=b.toNat:=DB U';have p':=oK p L b h0 hl;have WQ:=CN p 202 jD (gv p n) (ak p b).l L jB (1000000-3000*n) jB (fun x XD M hM=>by have Zm:=hb x XD;exact hs x M Zm.1 jB (VI x XD) jB jB)
 clear hs;generalize ak p b=nd at*;generalize hX:bA (gv p n) L.length nd.l []=X at*;refine aQ func159 ntmps159 ?_;refine S ?_
 (repeat' (first|refine ar fun K hK=>?_|refine av ?_|(refine hK _ _ ?_;clear hK K)|(refine au ?_ ?_<;>intro hc<;>try exact jz)|refine cm (p') ?_|refine cm (WQ) ?_|refine aq ?_|exact jI|(clear hK K)))
 (refine bq [] ?_;try simp only[go_sem])
def Q0(L X Y:List az)(op v:Int)(k:Nat)(hk:k=L.length+X.length):(L++X++[iI op 0]++Y).set k { iI op 0 with a:=v }=L++X++[iI op v]++Y:=by subst hk;rw[List.append_assoc (L++X),List.set_append_right _ _ jE];simp[iI]
def QA(L X Y:List az)(x:az)(k:Nat)(hk:k=L.length+X.length):nth (L++X++[x]++Y) k=x:=by subst hk;rw[List.append_assoc (L++X)];simp[nth]
def yt(p:ab)(L X Y:List az)(op:Int)(k:Nat)(hk:k=L.length+X.length)(hL:¬(1000000<L.length+X.length+1+Y.length)) :
  af prog 258 [.pt 0 0 0 0,rI k] (bW p (L++X++[iI op 0]++Y)) (fun r l=>r=.ba []/\l=bW p (L++X++[iI op (L.length+X.length+1+Y.length:Nat)]++Y)):=by
 have h:=AY p (L++X++[iI op 0]++Y) k (by simp only[List.length_append,List.length_singleton];omega) (by simp only[List.length_append,List.length_singleton];omega);rw[QA L X Y _ k hk,Q0 L X Y op _ k hk]at h;rwa [show(L++X++[iI op 0]++Y).length=L.length+X.length+1+Y.length by simp only[List.length_append,List.length_singleton]]at h
def S5(nd:bw)(x b:Int)(L X B:List az)(mark:Int)(hL:¬(999700<L.length+X.length+B.length))(hk:nd.kind=16)(u':nd.l=[x,b])
  (ex:af prog 241 [.pt 0 0 0 0,rI x] (bW p L) (fun r l=>r=.ba []/\l=bW p (L++X)))
  (eb:af prog 159 [.pt 0 0 0 0,rI b] (bW p (L++X++[iI 17 0])) (fun r l=>r=.ba []/\l=bW p (L++X++[iI 17 0]++B))) :
  af prog 240 [.pt 0 0 0 0,.agg (eT nd),rI mark] (bW p L) (fun r l=>r=.ba []/\l=bW p (L++X++[iI 17 (L.length+X.length+1+(B.length+1):Nat)]++(B++[iI 16 mark]))):=by
 have h1:=ju p (L++X) 17 0 (by simp only[List.length_append];omega);have h2:=ju p (L++X++[iI 17 0]++B) 16 mark (by simp only[List.length_append,List.length_singleton];omega);have h3:=yt p L X (B++[iI 16 mark]) 17 (L.length+X.length) rfl (by simp only[List.length_append,List.length_singleton];omega);rw[show(B++[iI 16 mark]).length=B.length+1 from jE]at h3;simp only[<-List.append_assoc]at h3 ⊢;refine aQ func240 ntmps240 ?_;refine S ?_
 (have W:=jA hk u';repeat' (first|refine ar fun K hK=>?_|refine av ?_|(refine hK _ _ ?_;clear hK K)|(refine au ?_ ?_<;>intro hc<;>try exact jz)|refine bx 5 ?_|refine cm (ex) ?_|refine cm (h1) ?_|refine cm (eb) ?_|refine cm (h2) ?_|refine cm (h3) ?_|refine aq ?_|exact jI|(clear hK K)))
 (refine bq [] ?_;try simp only[go_sem])
def Mb(nd:bw)(x b:Int)(L X B:List az)(mark:Int)(hL:¬(999700<L.length+X.length+B.length))(hk:nd.kind≠16)(u':nd.l=[x,b])
  (ex:af prog 241 [.pt 0 0 0 0,rI x] (bW p L) (fun r l=>r=.ba []/\l=bW p (L++X)))
  (eb:af prog 159 [.pt 0 0 0 0,rI b] (bW p (L++X++[iI 17 0])) (fun r l=>r=.ba []/\l=bW p (L++X++[iI 17 0]++B))) :
  af prog 240 [.pt 0 0 0 0,.agg (eT nd),rI mark] (bW p L) (fun r l=>r=.ba []/\l=bW p (L++X++[iI 17 (L.length+X.length+1+B.length:Nat)]++B)):=by
 have h1:=ju p (L++X) 17 0 (by simp only[List.length_append];omega);have h3:=yt p L X B 17 (L.length+X.length) rfl jB;have n1:=eq_false hk;refine aQ func240 ntmps240 ?_;refine S ?_
 (have W:=jA n1 u';repeat' (first|refine ar fun K hK=>?_|refine av ?_|(refine hK _ _ ?_;clear hK K)|(refine au ?_ ?_<;>intro hc<;>try exact jz)|refine bx 5 ?_|refine cm (ex) ?_|refine cm (h1) ?_|refine cm (eb) ?_|refine cm (h3) ?_|refine aq ?_|exact jI|(clear hK K)))
 (refine bq [] ?_;try simp only[go_sem])
def KU(nd:bw)(x b d:Int)(L X B D:List az)(mark:Int)(hL:¬(999700<L.length+X.length+B.length+D.length))(hk:nd.kind≠16)(u':nd.l=[x,b,d])
  (ex:af prog 241 [.pt 0 0 0 0,rI x] (bW p L) (fun r l=>r=.ba []/\l=bW p (L++X)))
  (eb:af prog 159 [.pt 0 0 0 0,rI b] (bW p (L++X++[iI 17 0])) (fun r l=>r=.ba []/\l=bW p (L++X++[iI 17 0]++B)))
  (ed:af prog 159 [.pt 0 0 0 0,rI d] (bW p (L++X++[iI 17 (L.length+X.length+1+(B.length+1):Nat)]++B++[iI 16 0])) (fun r l=>r=.ba []/\l=bW p (L++X++[iI 17 (L.length+X.length+1+(B.length+1):Nat)]++B++[iI 16 0]++D))) :
  af prog 240 [.pt 0 0 0 0,.agg (eT nd),rI mark] (bW p L) (fun r l=>r=.ba []/\l=bW p (L++X++[iI 17 (L.length+X.length+1+(B.length+1):Nat)]++(B++[iI 16 (L.length+X.length+1+B.length+1+D.length:Nat)])++D)):=by
 have h1:=ju p (L++X) 17 0 (by simp only[List.length_append];omega);have h2:=ju p (L++X++[iI 17 0]++B) 16 0 (by simp only[List.length_append,List.length_singleton];omega);have h3:=yt p L X (B++[iI 16 0]) 17 (L.length+X.length) rfl (by simp only[List.length_append,List.length_singleton];omega);rw[show(B++[iI 16 0]).length=B.length+1 from jE]at h3;have h4:=yt p (L++X++[iI 17 (L.length+X.length+1+(B.length+1):Nat)]) B D 16 (L.length+X.length+1+B.length) (by simp only[List.length_append,List.length_singleton]) (by simp only[List.length_append,List.length_singleton];omega);rw[show(L++X++[iI 17 (L.length+X.length+1+(B.length+1):Nat)]).length=L.length+X.length+1 by simp only[List.length_append,List.length_singleton]]at h4;simp only[<-List.append_assoc]at h3 h4 ⊢;have n1:=eq_false hk;refine aQ func240 ntmps240 ?_;refine S ?_
 (have W:=jA n1 u';repeat' (first|refine ar fun K hK=>?_|refine av ?_|(refine hK _ _ ?_;clear hK K)|(refine au ?_ ?_<;>intro hc<;>try exact jz)|refine bx 5 ?_|refine cm (ex) ?_|refine cm (h1) ?_|refine cm (eb) ?_|refine cm (h2) ?_|refine cm (h3) ?_|refine cm (ed) ?_|refine cm (h4) ?_|refine aq ?_|exact jI|(clear hK K)))
 (refine bq [] ?_;try simp only[go_sem])
attribute [local go_sem] iI
def TB(a:Int)(L Y:List az)(h0:0<=a)(hl:a.toNat<p.aa.nodes.length)(hs:a.toNat<p.slots.length)(hL:¬(999900<L.length+Y.length))(hk:(ak p a).kind=10)
  (WQ:af prog 200 [aM eI 1 (ak p a).l,.bd 241 [.pt 0 0 0 0]] (bW p (L++[iI 1 a])) (fun r l=>r=.ba []/\l=bW p (L++[iI 1 a]++Y))) :
  af prog 202 [.pt 0 0 0 0,rI a] (bW p L) (fun r l=>r=.ba []/\l=bW p (L++[iI 1 a]++Y++[iI 6 (nth p.slots a.toNat)])):=by
 have p':=oK p L a h0 hl;have h1:=ju p L 1 a jB;have h2:=ju p (L++[iI 1 a]++Y) 6 (nth p.slots a.toNat) (by simp only[List.length_append,List.length_singleton];omega);generalize ak p a=nd at*;refine aQ func202 ntmps202 ?_;refine S ?_
 (have W:=hk;repeat' (first|refine ar fun K hK=>?_|refine av ?_|(refine hK _ _ ?_;clear hK K)|(refine au ?_ ?_<;>intro hc<;>try exact jz)|refine al 5 ?_|refine cm (p') ?_|refine cm (h1) ?_|refine cm (WQ) ?_|refine cm (h2) ?_|refine aq ?_|exact jI|(clear hK K)))
 (refine bq [] ?_;try simp only[go_sem])
def Tr(a:Int)(L Y:List az)(h0:0<=a)(hl:a.toNat<p.aa.nodes.length)(hs:a.toNat<p.slots.length)(hL:¬(999900<L.length+Y.length))(hk:(ak p a).kind=11)
  (WQ:af prog 200 [aM eI 1 (ak p a).l,.bd 241 [.pt 0 0 0 0]] (bW p (L++[iI 1 a])) (fun r l=>r=.ba []/\l=bW p (L++[iI 1 a]++Y))) :
  af prog 202 [.pt 0 0 0 0,rI a] (bW p L) (fun r l=>r=.ba []/\l=bW p (L++[iI 1 a]++Y++[iI 6 (nth p.slots a.toNat)])):=by
 have p':=oK p L a h0 hl;have h1:=ju p L 1 a jB;have h2:=ju p (L++[iI 1 a]++Y) 6 (nth p.slots a.toNat) (by simp only[List.length_append,List.length_singleton];omega);generalize ak p a=nd at*;refine aQ func202 ntmps202 ?_;refine S ?_
 (have W:=hk;repeat' (first|refine ar fun K hK=>?_|refine av ?_|(refine hK _ _ ?_;clear hK K)|(refine au ?_ ?_<;>intro hc<;>try exact jz)|refine al 5 ?_|refine cm (p') ?_|refine cm (h1) ?_|refine cm (WQ) ?_|refine cm (h2) ?_|refine aq ?_|exact jI|(clear hK K)))
 (refine bq [] ?_;try simp only[go_sem])
def Qt(a:Int)(L Y:List az)(h0:0<=a)(hl:a.toNat<p.aa.nodes.length)(hs:a.toNat<p.slots.length)(hL:¬(999900<L.length+Y.length))(hk:(ak p a).kind=12)
  (WQ:af prog 200 [aM eI 1 (ak p a).l,.bd 241 [.pt 0 0 0 0]] (bW p (L++[iI 1 a])) (fun r l=>r=.ba []/\l=bW p (L++[iI 1 a]++Y))) :
  af prog 202 [.pt 0 0 0 0,rI a] (bW p L) (fun r l=>r=.ba []/\l=bW p (L++[iI 1 a]++Y++[iI 12 (nth p.slots a.toNat)])):=by
 have p':=oK p L a h0 hl;have h1:=ju p L 1 a jB;have h2:=ju p (L++[iI 1 a]++Y) 12 (nth p.slots a.toNat) (by simp only[List.length_append,List.length_singleton];omega);generalize ak p a=nd at*;refine aQ func202 ntmps202 ?_;refine S ?_
 (have W:=hk;repeat' (first|refine ar fun K hK=>?_|refine av ?_|(refine hK _ _ ?_;clear hK K)|(refine au ?_ ?_<;>intro hc<;>try exact jz)|refine al 5 ?_|refine cm (p') ?_|refine cm (h1) ?_|refine cm (WQ) ?_|refine cm (h2) ?_|refine aq ?_|exact jI|(clear hK K)))
 (refine bq [] ?_;try simp only[go_sem])
def UG(a:Int)(L Y:List az)(h0:0<=a)(hl:a.toNat<p.aa.nodes.length)(hs:a.toNat<p.slots.length)(hL:¬(999900<L.length+Y.length))(hk:(ak p a).kind=13)
  (WQ:af prog 200 [aM eI 1 (ak p a).l,.bd 241 [.pt 0 0 0 0]] (bW p (L++[iI 1 a])) (fun r l=>r=.ba []/\l=bW p (L++[iI 1 a]++Y))) :
  af prog 202 [.pt 0 0 0 0,rI a] (bW p L) (fun r l=>r=.ba []/\l=bW p (L++[iI 1 a]++Y++[iI 23 (0)])):=by
 have p':=oK p L a h0 hl;have h1:=ju p L 1 a jB;have h2:=ju p (L++[iI 1 a]++Y) 23 (0) (by simp only[List.length_append,List.length_singleton];omega);generalize ak p a=nd at*;refine aQ func202 ntmps202 ?_;refine S ?_
 (have W:=hk;repeat' (first|refine ar fun K hK=>?_|refine av ?_|(refine hK _ _ ?_;clear hK K)|(refine au ?_ ?_<;>intro hc<;>try exact jz)|refine al 5 ?_|refine cm (p') ?_|refine cm (h1) ?_|refine cm (WQ) ?_|refine cm (h2) ?_|refine aq ?_|exact jI|(clear hK K)))
 (refine bq [] ?_;try simp only[go_sem])
def NR(a:Int)(L Y:List az)(h0:0<=a)(hl:a.toNat<p.aa.nodes.length)(hs:a.toNat<p.slots.length)(hL:¬(999900<L.length+Y.length))(hk:(ak p a).kind=14)
  (WQ:af prog 200 [aM eI 1 (ak p a).l,.bd 241 [.pt 0 0 0 0]] (bW p (L++[iI 1 a])) (fun r l=>r=.ba []/\l=bW p (L++[iI 1 a]++Y))) :
  af prog 202 [.pt 0 0 0 0,rI a] (bW p L) (fun r l=>r=.ba []/\l=bW p (L++[iI 1 a]++Y++[iI 15 (0)])):=by
 have p':=oK p L a h0 hl;have h1:=ju p L 1 a jB;have h2:=ju p (L++[iI 1 a]++Y) 15 (0) (by simp only[List.length_append,List.length_singleton];omega);generalize ak p a=nd at*;refine aQ func202 ntmps202 ?_;refine S ?_
 (have W:=hk;repeat' (first|refine ar fun K hK=>?_|refine av ?_|(refine hK _ _ ?_;clear hK K)|(refine au ?_ ?_<;>intro hc<;>try exact jz)|refine al 5 ?_|refine cm (p') ?_|refine cm (h1) ?_|refine cm (WQ) ?_|refine cm (h2) ?_|refine aq ?_|exact jI|(clear hK K)))
 (refine bq [] ?_;try simp only[go_sem])
def Lc(a:Int)(L Y:List az)(h0:0<=a)(hl:a.toNat<p.aa.nodes.length)(hs:a.toNat<p.slots.length)(hL:¬(999900<L.length+Y.length))(hk:(ak p a).kind=17)(W8:(ak p a).l=[])
  (WQ:af prog 200 [aM eI 1 (ak p a).l,.bd 241 [.pt 0 0 0 0]] (bW p (L++[iI 1 a])) (fun r l=>r=.ba []/\l=bW p (L++[iI 1 a]++Y))) :
  af prog 202 [.pt 0 0 0 0,rI a] (bW p L) (fun r l=>r=.ba []/\l=bW p (L++[iI 1 a]++Y++[iI 22 (0)])):=by
 have p':=oK p L a h0 hl;have h1:=ju p L 1 a jB;have h2:=ju p (L++[iI 1 a]++Y) 22 (0) (by simp only[List.length_append,List.length_singleton];omega);generalize ak p a=nd at*;rw[W8]at WQ;refine aQ func202 ntmps202 ?_;refine S ?_
 (have W:=jA hk W8;repeat' (first|refine ar fun K hK=>?_|refine av ?_|(refine hK _ _ ?_;clear hK K)|(refine au ?_ ?_<;>intro hc<;>try exact jz)|refine al 5 ?_|refine cm (p') ?_|refine cm (h1) ?_|refine cm (WQ) ?_|refine cm (h2) ?_|refine aq ?_|exact jI|(clear hK K)))
 (refine bq [] ?_;try simp only[go_sem])
def Rw(a:Int)(L Y:List az)(h0:0<=a)(hl:a.toNat<p.aa.nodes.length)(hs:a.toNat<p.slots.length)(hL:¬(999900<L.length+Y.length))(hk:(ak p a).kind=17)(x:Int)(W8:(ak p a).l=[x])
  (WQ:af prog 200 [aM eI 1 (ak p a).l,.bd 241 [.pt 0 0 0 0]] (bW p (L++[iI 1 a])) (fun r l=>r=.ba []/\l=bW p (L++[iI 1 a]++Y))) :
  af prog 202 [.pt 0 0 0 0,rI a] (bW p L) (fun r l=>r=.ba []/\l=bW p (L++[iI 1 a]++Y++[iI 21 (0)])):=by
 have p':=oK p L a h0 hl;have h1:=ju p L 1 a jB;have h2:=ju p (L++[iI 1 a]++Y) 21 (0) (by simp only[List.length_append,List.length_singleton];omega);generalize ak p a=nd at*;rw[W8]at WQ;refine aQ func202 ntmps202 ?_;refine S ?_
 (have W:=jA hk W8;repeat' (first|refine ar fun K hK=>?_|refine av ?_|(refine hK _ _ ?_;clear hK K)|(refine au ?_ ?_<;>intro hc<;>try exact jz)|refine al 5 ?_|refine cm (p') ?_|refine cm (h1) ?_|refine cm (WQ) ?_|refine cm (h2) ?_|refine aq ?_|exact jI|(clear hK K)))
 (refine bq [] ?_;try simp only[go_sem])
def DI(a:Int)(L Y:List az)(h0:0<=a)(hl:a.toNat<p.aa.nodes.length)(hL:¬(999900<L.length+Y.length))(hk:(ak p a).kind=15\/(ak p a).kind=16)
  (ht:af prog 240 [.pt 0 0 0 0,.agg (eT (ak p a)),rI L.length] (bW p (L++[iI 1 a])) (fun r l=>r=.ba []/\l=bW p (L++[iI 1 a]++Y))) :
  af prog 202 [.pt 0 0 0 0,rI a] (bW p L) (fun r l=>r=.ba []/\l=bW p (L++[iI 1 a]++Y)):=by
 have p':=oK p L a h0 hl;have h1:=ju p L 1 a jB;generalize ak p a=nd at*;rcases hk with hk|hk
 ·refine aQ func202 ntmps202 ?_;refine S ?_
  (have W:=hk;repeat' (first|refine ar fun K hK=>?_|refine av ?_|(refine hK _ _ ?_;clear hK K)|(refine au ?_ ?_<;>intro hc<;>try exact jz)|refine al 5 ?_|refine cm (p') ?_|refine cm (h1) ?_|refine cm (ht) ?_|refine aq ?_|exact jI|(clear hK K)))
  (refine bq [] ?_;try simp only[go_sem])
 ·refine aQ func202 ntmps202 ?_;refine S ?_
  (have W:=hk;repeat' (first|refine ar fun K hK=>?_|refine av ?_|(refine hK _ _ ?_;clear hK K)|(refine au ?_ ?_<;>intro hc<;>try exact jz)|refine al 5 ?_|refine cm (p') ?_|refine cm (h1) ?_|refine cm (ht) ?_|refine aq ?_|exact jI|(clear hK K)))
  (refine bq [] ?_;try simp only[go_sem])
def QM{a k:Int}(h:bX p.aa.nodes a=21):j3 p n a k=cM p n a k:=by have h:(ak p a).kind=21:=h;rw[uV,jN,jN,if_pos h]
def MJ(p:ab)(n:Nat)(bl:Int->Int->List az)(a from_:Int):sD p n bl a from_=(
  if(ak p a).kind=16 then br p n (nth (ak p a).l 0) from_++[iI 17 (from_+(br p n (nth (ak p a).l 0) from_).length+1+((bl (nth (ak p a).l 1) (from_+(br p n (nth (ak p a).l 0) from_).length+1)).length+1))]++(bl (nth (ak p a).l 1) (from_+(br p n (nth (ak p a).l 0) from_).length+1)++[iI 16 (from_-1)])
  else if(ak p a).l.length=3 then
   br p n (nth (ak p a).l 0) from_++[iI 17 (from_+(br p n (nth (ak p a).l 0) from_).length+1+((bl (nth (ak p a).l 1) (from_+(br p n (nth (ak p a).l 0) from_).length+1)).length+1))]++(bl (nth (ak p a).l 1) (from_+(br p n (nth (ak p a).l 0) from_).length+1)++[iI 16 (from_+(br p n (nth (ak p a).l 0) from_).length+1+(bl (nth (ak p a).l 1) (from_+(br p n (nth (ak p a).l 0) from_).length+1)).length+1+(bl (nth (ak p a).l 2) (from_+(br p n (nth (ak p a).l 0) from_).length+1+(bl (nth (ak p a).l 1) (from_+(br p n (nth (ak p a).l 0) from_).length+1)).length+1)).length)])++bl (nth (ak p a).l 2) (from_+(br p n (nth (ak p a).l 0) from_).length+1+(bl (nth (ak p a).l 1) (from_+(br p n (nth (ak p a).l 0) from_).length+1)).length+1)
  else br p n (nth (ak p a).l 0) from_++[iI 17 (from_+(br p n (nth (ak p a).l 0) from_).length+1+(bl (nth (ak p a).l 1) (from_+(br p n (nth (ak p a).l 0) from_).length+1)).length)]++bl (nth (ak p a).l 1) (from_+(br p n (nth (ak p a).l 0) from_).length+1)):=rfl
def wP(f:Int->Int->List az)(k x:Int):bA f k [x] []=f x k:=by show[]++f x (k+((0:Nat):Int))=_;rw[Int.natCast_zero,Int.add_zero,List.nil_append]
def NL(f:Int->Int->List az)(k x y:Int):bA f k [x,y] []=f x k++f y (k+(f x k).length):=by show bA f k [y] ([]++f x (k+((0:Nat):Int)))=_;rw[Int.natCast_zero,Int.add_zero,List.nil_append];rfl
def uL(L Y:List az)(a b:az):L++a::(Y++[b])=L++[a]++Y++[b]:=jE
def MN(L Y:List az)(a:az):L++a::Y=L++[a]++Y:=jE
theorem xJ{p:ab}(hp:gG p):∀n,JZ p n
 |0=>fun a L h0 hl hk hn hL=>by omega
 |n+1=>fun a L h0 hl hk hn hL=>by
  have hs:=xJ hp n;have hx:=Jx hp n;have ht:=hp.ok.ok.aa;have hm:=ht.many;have hb:=(ht.shape a.toNat hl).2.1;have V5:p.slots.length=p.aa.nodes.length:=hp.ok.ok.slots;have sh:=(ht.shape a.toNat hl).1;obtain⟨lo,U'⟩:=(ht.shape a.toNat hl).2.2;have U':aP p.aa.nodes lo (ak p a).l a.toNat:=U';have Vf:lo+(ak p a).l.length<=a.toNat:=DB U';have Vv:fF (ak p a).kind:=hk;unfold fF at Vv;have l1:(L++[iI 1 a]).length=L.length+1:=jE;have WV:∀x k,x∈(ak p a).l->fz (bX p.aa.nodes x)->(j3 p n x k).length<=1200:=fun x k XD YC=>by have Zm:=hb x XD;obtain⟨lo',hc⟩:=(ht.shape x.toNat jB).2.2;have:=HP ht n k lo' Zm.1 jB YC hc;omega
  have WQ:∀Y,(∀x∈(ak p a).l,fz (bX p.aa.nodes x))->bA (j3 p n) (L.length+1) (ak p a).l []=Y->Y.length<=2500->af prog 200 [aM eI 1 (ak p a).l,.bd 241 [.pt 0 0 0 0]] (bW p (L++[iI 1 a])) (fun r l=>r=.ba []/\l=bW p (L++[iI 1 a]++Y)):=fun Y hr hY hYl=>by have:=CN p 241 jD (j3 p n) (ak p a).l (L++[iI 1 a]) jB (1000000-3000*n) (by rw[l1,Int.natCast_add];show¬(_<L.length+1+(bA (j3 p n) (L.length+1) (ak p a).l []).length);rw[hY];omega) (fun x XD M hM=>hx x M (hb x XD).1 (by have:=hb x XD;omega) (hr x XD) (by have:=hb x XD;omega) jB);rw[l1,Int.natCast_add]at this;rw[show bA (j3 p n) ((L.length:Int)+((1:Nat):Int)) (ak p a).l []=Y from hY]at this;exact this
  rw[ym];by_cases e10:(ak p a).kind=10
  ·obtain⟨x,u',Zz⟩:=sh.right (by have e:(nth p.aa.nodes a.toNat).kind=10:=e10;omega);have u':(ak p a).l=[x]:=u';have Xd:=WV x (L.length+1) (by rw[u'];simp) Zz;have h:=WQ (j3 p n x (L.length+1)) (by rw[u'];intro y hy;simp only[List.mem_singleton]at hy;subst hy;exact Zz) (by rw[u',wP]) jB;rw[jP,u',show nth [x] 0=x from rfl,uL];exact TB a L _ h0 hl jB jB e10 h
  by_cases e11:(ak p a).kind=11
  ·obtain⟨x,u',Zz⟩:=sh.right (by have e:(nth p.aa.nodes a.toNat).kind=11:=e11;omega);have u':(ak p a).l=[x]:=u';have Xd:=WV x (L.length+1) (by rw[u'];simp) Zz;have h:=WQ (j3 p n x (L.length+1)) (by rw[u'];intro y hy;simp only[List.mem_singleton]at hy;subst hy;exact Zz) (by rw[u',wP]) jB;rw[jP,u',show nth [x] 0=x from rfl,uL];exact Tr a L _ h0 hl jB jB e11 h
  rw[jN];by_cases e12:(ak p a).kind=12
  ·obtain⟨x,y,u',VE,YF⟩:=sh.two (.inr e12);have u':(ak p a).l=[x,y]:=u';have Xd:=WV x (L.length+1) (by rw[u'];simp) (.inl VE);have hy1:=WV y (L.length+1+(j3 p n x (L.length+1)).length) (by rw[u'];simp) (.inl YF);have h:=WQ (j3 p n x (L.length+1)++j3 p n y (L.length+1+(j3 p n x (L.length+1)).length)) (by rw[u'];intro z hz;simp only[List.mem_cons,List.not_mem_nil,or_false]at hz;rcases hz with rfl|rfl<;>exact .inl (by assumption)) (by rw[u',NL]) (by rw[List.length_append];omega);rw[if_pos e12,u',show nth [x,y] 0=x from rfl,show nth [x,y] 1=y from rfl,<-nN VE,<-nN YF,uL];exact Qt a L _ h0 hl jB (by rw[List.length_append];omega) e12 h
  rw[if_neg e12];by_cases e13:(ak p a).kind=13
  ·obtain⟨x,u',hxC⟩:=sh.sU e13;have u':(ak p a).l=[x]:=u';have Zz:fz (bX p.aa.nodes x):=.inr (.inr (.inr hxC));have Xd:=WV x (L.length+1) (by rw[u'];simp) Zz;have h:=WQ (j3 p n x (L.length+1)) (by rw[u'];intro y hy;simp only[List.mem_singleton]at hy;subst hy;exact Zz) (by rw[u',wP]) jB;rw[if_pos e13,u',show nth [x] 0=x from rfl,<-QM hxC,uL];exact UG a L _ h0 hl jB jB e13 h
  rw[if_neg e13];by_cases e14:(ak p a).kind=14
  ·obtain⟨x,u',VE⟩:=sh.one (by have e:(nth p.aa.nodes a.toNat).kind=14:=e14;omega);have u':(ak p a).l=[x]:=u';have Xd:=WV x (L.length+1) (by rw[u'];simp) (.inl VE);have h:=WQ (j3 p n x (L.length+1)) (by rw[u'];intro y hy;simp only[List.mem_singleton]at hy;subst hy;exact .inl VE) (by rw[u',wP]) jB;rw[if_pos e14,u',show nth [x] 0=x from rfl,<-nN VE,uL];exact NR a L _ h0 hl jB jB e14 h
  rw[if_neg e14];by_cases e17:(ak p a).kind=17
  ·rw[if_pos e17];rcases sh.ret e17 with u'|⟨x,u',VE⟩
   ·have u':(ak p a).l=[]:=u';have h:=WQ [] (by rw[u'];intro y hy;simp at hy) (by rw[u'];rfl) jE;rw[u',if_pos (show([]:UY).length=0 from rfl),show([iI 22 0]:List az)=[]++[iI 22 0] from rfl,uL];exact Lc a L _ h0 hl jB (by simp only[List.length_nil];omega) e17 u' h
   ·have u':(ak p a).l=[x]:=u';have Xd:=WV x (L.length+1) (by rw[u'];simp) (.inl VE);have h:=WQ (j3 p n x (L.length+1)) (by rw[u'];intro y hy;simp only[List.mem_singleton]at hy;subst hy;exact .inl VE) (by rw[u',wP]) jB;rw[u',if_neg (show¬([x]:UY).length=0 from jE),show nth [x] 0=x from rfl,<-nN VE,uL];exact Rw a L _ h0 hl jB jB e17 x u' h
  rw[if_neg e17];have expL:∀x lo,aP p.aa.nodes lo (ak p x).l x.toNat->0<=x->x.toNat<p.aa.nodes.length->cW (bX p.aa.nodes x)->∀k,(br p n x k).length<=1200:=fun x lo c h0 h1 h2 k=>by have:=mL ht n x k lo h0 h1 h2 c;omega
  have tst:∀x b,x∈(ak p a).l->b∈(ak p a).l->cW (bX p.aa.nodes x)->bX p.aa.nodes b=18->∃X B,br p n x (L.length+1)=X/\X.length<=1200/\B.length<=1200/\bA (gv p n) (L.length+1+X.length+1) (ak p b).l []=B/\
    af prog 241 [.pt 0 0 0 0,rI x] (bW p (L++[iI 1 a])) (fun r l=>r=.ba []/\l=bW p (L++[iI 1 a]++X))/\
    af prog 159 [.pt 0 0 0 0,rI b] (bW p (L++[iI 1 a]++X++[iI 17 0])) (fun r l=>r=.ba []/\l=bW p (L++[iI 1 a]++X++[iI 17 0]++B)):=fun x b XD hbm VE XM=>by
   have Zm:=hb x XD;have YM:=hb b hbm;have hX:=WV x (L.length+1) XD (.inl VE);rw[nN VE]at hX;have ex:=hx x (L++[iI 1 a]) Zm.1 jB (.inl VE) jB jB;rw[nN VE,l1,Int.natCast_add]at ex;refine⟨_,_,rfl,hX,zM ht n b _ YM.1 jB XM,rfl,ex,?_⟩;have eb:=Ba hp hs b (L++[iI 1 a]++br p n x (L.length+1)++[iI 17 0]) YM.1 jB XM jB (by simp only[List.length_append,List.length_singleton];omega);rw[show((L++[iI 1 a]++br p n x (L.length+1)++[iI 17 0]).length:Int)=L.length+1+(br p n x (L.length+1)).length+1 by simp only[List.length_append,List.length_singleton];omega]at eb;exact eb
  rw[MN,MJ];by_cases e16:(ak p a).kind=16
  ·obtain⟨x,b,u',VE,XM⟩:=sh.ee e16;have u':(ak p a).l=[x,b]:=u';obtain⟨X,B,t1,t2,t3,t4,t5,t6⟩:=tst x b (by rw[u'];simp) (by rw[u'];simp) VE XM;have hw:=S5 (ak p a) x b (L++[iI 1 a]) X B L.length jB e16 u' t5 t6;rw[if_pos e16,u',show nth [x,b] 0=x from rfl,show nth [x,b] 1=b from rfl,t1,t4];rw[show((L.length:Int)+1+X.length+1+(B.length+1))=(((L++[iI 1 a]).length+X.length+1+(B.length+1):Nat):Int) by rw[l1];omega,show(L.length:Int)+1-1=L.length from jB];refine DI a L _ h0 hl (by simp only[List.length_append,List.length_singleton];omega) (.inr e16) ?_;simp only[List.append_assoc]at hw ⊢;exact hw
  rw[if_neg e16];have e15:(ak p a).kind=15:=jB;obtain⟨x,b,VE,XM,u'|⟨d,u',haX⟩⟩:=sh.lg e15
  ·have u':(ak p a).l=[x,b]:=u';obtain⟨X,B,t1,t2,t3,t4,t5,t6⟩:=tst x b (by rw[u'];simp) (by rw[u'];simp) VE XM;have hw:=Mb (ak p a) x b (L++[iI 1 a]) X B L.length jB e16 u' t5 t6;rw[u',if_neg (show¬([x,b]:UY).length=3 from jE),show nth [x,b] 0=x from rfl,show nth [x,b] 1=b from rfl,t1,t4];rw[show((L.length:Int)+1+X.length+1+B.length)=(((L++[iI 1 a]).length+X.length+1+B.length:Nat):Int) by rw[l1];omega];refine DI a L _ h0 hl (by simp only[List.length_append,List.length_singleton];omega) (.inl e15) ?_;simp only[List.append_assoc]at hw ⊢;exact hw
  ·have u':(ak p a).l=[x,b,d]:=u';obtain⟨X,B,t1,t2,t3,t4,t5,t6⟩:=tst x b (by rw[u'];simp) (by rw[u'];simp) VE XM;have hbd:=hb d (by show d∈(ak p a).l;rw[u'];simp);have hD:=zM ht n d (L.length+1+X.length+1+B.length+1) hbd.1 jB haX;have hsum:X.length+B.length<=1200:=by
    have U':=U';rw[u']at U';obtain⟨c1,c2,c3,c4,c5,c6⟩:=kQ U';obtain⟨d1,d2,d3,d4,d5,d6⟩:=kQ c6;have q1:=mL ht n x (L.length+1) lo c1 jB VE c5;have q2:=Gz ht n b (L.length+1+X.length+1) _ d1 jB XM d5;rw[t1]at q1;rw[t4]at q2;omega
   have ed:=Ba hp hs d (L++[iI 1 a]++X++[iI 17 ((L++[iI 1 a]).length+X.length+1+(B.length+1):Nat)]++B++[iI 16 0]) hbd.1 jB haX jB (by simp only[List.length_append,List.length_singleton];omega);rw[show((L++[iI 1 a]++X++[iI 17 ((L++[iI 1 a]).length+X.length+1+(B.length+1):Nat)]++B++[iI 16 0]).length:Int)=L.length+1+X.length+1+B.length+1 by simp only[List.length_append,List.length_singleton];omega]at ed;rw[u',if_pos (show([x,b,d]:UY).length=3 from rfl),show nth [x,b,d] 0=x from rfl,show nth [x,b,d] 1=b from rfl,show nth [x,b,d] 2=d from rfl,t1,t4];generalize hDD:bA (gv p n) (L.length+1+X.length+1+B.length+1) (ak p d).l []=D at*;have hw:=KU (ak p a) x b d (L++[iI 1 a]) X B D L.length jB e16 u' t5 t6 ed;rw[show((L.length:Int)+1+X.length+1+(B.length+1))=(((L++[iI 1 a]).length+X.length+1+(B.length+1):Nat):Int) by rw[l1];omega,show((L.length:Int)+1+X.length+1+B.length+1+D.length)=(((L++[iI 1 a]).length+X.length+1+B.length+1+D.length:Nat):Int) by rw[l1];omega];refine DI a L _ h0 hl (by simp only[List.length_append,List.length_singleton];omega) (.inl e15) ?_;simp only[List.append_assoc]at hw ⊢;exact hw
structure Fw(c c':Ck):Prop where
 fn:c'.fn=c.fn
 ao:∀x∈c'.ao,x∈c.ao\/x=c.fn
def Fw.refl(c:Ck):Fw c c:=⟨rfl,fun _ h=>.inl h⟩
theorem Fw.trans{a b c:Ck}(h:Fw a b)(k:Fw b c):Fw a c:=⟨k.fn.trans h.fn,fun x hx=>by
 rcases k.ao x hx with e|e
 ·exact h.ao x e
 ·right;rw[e,h.fn]⟩
def vR{c c':Ck}(h1:c'.fn=c.fn)(h2:c'.ao=c.ao):Fw c c':=⟨h1,fun x hx=>by rw[h2]at hx;exact .inl hx⟩
def He{l:UY}{i:Nat}{x y:Int}(h:x∈l.set i y):x∈l\/x=y:=by
 rcases List.mem_or_eq_of_mem_set h with h|h
 ·exact .inl h
 ·exact .inr h
def qM(c:Ck)(e a:Int):Fw c (c.aG e a):=by unfold Ck.aG;split<;>exact vR rfl rfl
def oY(c:Ck)(b:Bool)(a:Int):Fw c (c.ap b a):=by unfold Ck.ap;split;exact .refl _;exact qM _ _ _
def yP(c:Ck)(a:Int):Fw c (c.named a).1:=by unfold Ck.named;split;exact qM _ _ _;exact vR rfl rfl
def Tl(c:Ck)(a t:Int):Fw c (c.note a t):=⟨rfl,fun _ h=>He h⟩
def KN(c:Ck)(a:Int):Fw c (c.ai a):=⟨rfl,fun _ h=>He h⟩
def uU{c x y:Ck}{q:Prop}[Decidable q](h:Fw c x)(k:Fw c y):Fw c (if q then x else y):=by split;exact h;exact k
theorem IP{ex:Ck->Int->Ck×Int}(hx:∀c a,Fw c (ex c a).1):∀(L:UY) (c:Ck) (ts:UY),Fw c (gM ex c L ts).1
 |[],c,ts=>by unfold gM;exact .refl c
 |a::L,c,ts=>by
  unfold gM;split
  ·exact(hx c a).trans (IP hx L _ _)
  ·exact .refl c
theorem KM(a:Int):∀(ts:UY) (ps:List bI) (c:Ck),Fw c (iP a c ts ps)
 |[],ps,c=>by rw[uz];exact .refl c
 |_::_,[],c=>by rw[uK];exact .refl c
 |x::ts,p::ps,c=>by
  unfold iP;split
  ·exact(oY _ _ _).trans (KM a ts ps _)
  ·exact .refl c
variable{ex:Ck->Int->Ck×Int}
def L3(hx:∀c a,Fw c (ex c a).1)(c:Ck)(a:Int):Fw c (jq ex c a).1:=by
 unfold jq;split
 ·exact qM _ _ _
 ·simp only;exact((IP hx _ c _).trans (uU (qM _ _ _) (.refl _))).trans (KM _ _ _ _)
def OT(hx:∀c a,Fw c (ex c a).1)(c:Ck)(a:Int):Fw c (cz ex c a).1:=by
 unfold cz;simp only;split
 ·exact .refl c
 split
 ·exact .refl c
 split
 ·exact .refl c
 split
 ·exact yP _ _
 split
 ·exact L3 hx c a
 split
 ·exact((yP _ _).trans (hx _ _)).trans (oY _ _ _)
 split
 ·exact((hx _ _).trans (hx _ _)).trans (oY _ _ _)
 split
 ·exact(hx _ _).trans (oY _ _ _)
 split
 ·exact(hx _ _).trans (oY _ _ _)
 split
 ·exact(hx _ _).trans (oY _ _ _)
 ·exact(hx _ _).trans (oY _ _ _)
theorem rR:∀(n:Nat) (c:Ck) (a:Int),Fw c (aB n c a).1
 |0,c,a=>by unfold aB;exact .refl c
 |n+1,c,a=>by
  unfold aB;split
  ·exact .refl c
  ·exact(OT (rR n) c a).trans (Tl _ _ _)
def R6(hx:∀c a,Fw c (ex c a).1)(c:Ck)(a:Int):Fw c (pm ex c a):=by have hA:Fw c (iX ex c a):=(hx c _).trans (oY _ _ _);have hB:Fw (iX ex c a) (jX ex c a):=uU (qM _ _ _) (.refl _);have hC:Fw (jX ex c a) (fa ex c a):=uU (qM _ _ _) (.refl _);rw[uE];exact((hA.trans hB).trans hC).trans (vR rfl rfl)
def QK(hx:∀c a,Fw c (ex c a).1)(c:Ck)(a:Int):Fw c (kP ex c a):=by
 unfold kP;simp only;split
 ·exact qM _ _ _
 split
 ·exact(hx _ _).trans (oY _ _ _)
 ·exact .refl c
theorem BI{st:Ck->Int->Ck}(hs:∀c a,Fw c (st c a)):∀(L:UY) (c:Ck),Fw c (dW st c L)
 |[],c=>by unfold dW;exact .refl c
 |a::L,c=>by
  unfold dW;split
  ·exact(hs c a).trans (BI hs L _)
  ·exact .refl c
variable{st:Ck->Int->Ck}
def Ft(hs:∀c a,Fw c (st c a))(c:Ck)(a:Int):Fw c (fw st c a):=by unfold fw;simp only;exact((KN c a).trans (BI hs _ _)).trans (vR rfl rfl)
theorem Kd:∀(n:Nat) (c:Ck) (a:Int),Fw c (bT n c a)
 |0,c,a=>by unfold bT;exact .refl c
 |n+1,c,a=>by
  unfold bT;simp only;refine(KN c a).trans ?_;split
  ·exact R6 (rR n) _ _
  split
  ·exact((yP _ _).trans (rR n _ _)).trans (oY _ _ _)
  split
  ·exact(((yP _ _).trans (rR n _ _)).trans (rR n _ _)).trans (oY _ _ _)
  split
  ·exact rR n _ _
  split
  ·exact(rR n _ _).trans (oY _ _ _)
  split
  ·exact QK (rR n) _ _
  ·exact((rR n _ _).trans (oY _ _ _)).trans (BI (fun c a=>Ft (Kd n) c a) _ _)
theorem GU(body:Int):∀(ps:List bI) (c:Ck) (i:Int),Fw c (fH body c ps i)
 |[],c,i=>by unfold fH;exact .refl c
 |p::ps,c,i=>by unfold fH;simp only;have h1:Fw c (if 0<=c.find p.name then c.aG 41 body else c):=uU (qM c 41 body) (.refl c);generalize (if 0<=c.find p.name then c.aG 41 body else c)=d at*;refine h1.trans ?_;exact Fw.trans (b:={ d with vars:=d.vars++[⟨p.name,p.ty,i⟩],more:=d.more.drop 1,size:=d.size+1 }) (vR rfl rfl) (GU body ps _ _)
def Qv(c:Ck)(k:Nat):∀x∈(gT c k).ao,x∈c.ao\/x=(k:Int):=by
 have h:Fw { c with fn:=(k:Int),vars:=[],more:=[],size:=0 } (gT c k):=by unfold gT;simp only;exact((GU _ _ _ _).trans (uU (Ft (Kd _) _ _) (.refl _))).trans (vR rfl rfl)
 exact fun x hx=>h.ao x hx
theorem Ky:∀(n i:Nat) (c:Ck),∀x∈(gN c i n).ao,x∈c.ao\/((i:Int)<=x/\x<(i:Int)+n)
 |0,i,c,x,hx=>by unfold gN at hx;exact .inl hx
 |n+1,i,c,x,hx=>by
  unfold gN at hx;split at hx
  ·rcases Ky n (i+1) _ x hx with h|h
   ·rcases Qv c i x h with h|h
    ·exact .inl h
    ·right;omega
   ·right;omega
  ·exact .inl hx
theorem Gj(x:bk):∀(l:List bk) (c:Ck),Fw c (kZ x c l)
 |[],c=>by unfold kZ;exact .refl c
 |f::l,c=>by unfold kZ;exact(uU (qM _ _ _) (.refl _):Fw c (if f.name=x.name then c.aG 41 x.body else c)).trans (Gj x l _)
theorem DV(ao:List bk):∀(n i:Nat) (c:Ck) (m:Bool),Fw c (ki ao c m i n).1
 |0,i,c,m=>by unfold ki;exact .refl c
 |n+1,i,c,m=>by unfold ki;exact(Gj _ _ c).trans (DV ao n (i+1) _ _)
def Nd(c:Ck):Fw c (ji c):=by unfold ji;simp only;exact uU (DV _ _ _ _ _) ((DV _ _ _ _ _).trans (qM _ _ _))
def PU{t:aK}(ht:aS t)(he:(iE t).2.2=0)(h1:0<t.ao.length):∀x∈(iE t).1.fn,0<=x/\x<t.ao.length:=fun x hx=>by
 unfold iE at he hx;split at he
 ·rename_i h;exact(h he).elim
 rename_i h;rw[if_neg h]at hx;have hx:x∈(gN (ji (jY t)) 0 t.ao.length).ao:=hx;rcases Ky t.ao.length 0 _ x hx with g|g
 ·rcases(Nd (jY t)).ao x g with g|g
  ·have g:x∈t.nodes.map fun _=>(0:Int):=g
   obtain⟨_,_,rfl⟩:=List.mem_map.1 g;omega
  ·have g:x=0:=g;omega
 ·omega
variable{s:U0}
def MT(he:(ga s).2.2=0):∀k,k<(ga s).1.aa.nodes.length->0<=nth (ga s).1.fn k/\nth (ga s).1.fn k<(ga s).1.aa.ao.length:=by
 have hok:=HV he;obtain⟨j,hj,_⟩:=(yV he).names.main;unfold ga at he hok hj ⊢;split at he
 ·rename_i h;exact(h he).elim
 rename_i h;rw[if_neg h]at hok hj ⊢;have h:(ik s).2.2=0:=jB;simp only at he hok hj ⊢;split at he
 ·cases he
 rename_i h2;split at he
 ·rename_i h3;exact(h3 he).elim
 rename_i h3;rw[if_neg h2,if_neg h3]at hok hj ⊢;have ht:=(zH (v8 h) jB).2;simp only at hok hj ⊢;rw[ht]at hj ⊢;exact fun k hk=>PU (v8 h) jB jB _ (fc (by rw[hok.fn,ht];exact hk))
structure Ns(c c':Ck):Prop where
 aa:c'.aa=c.aa
 slots:∀k,¬jM (nth c.aa.nodes k).kind->nth c'.slots k=nth c.slots k
def Ns.refl(c:Ck):Ns c c:=⟨rfl,fun _ _=>rfl⟩
theorem Ns.trans{a b c:Ck}(h:Ns a b)(k:Ns b c):Ns a c:=⟨k.aa.trans h.aa,fun j hj=>(k.slots j (by rw[h.aa];exact hj)).trans (h.slots j hj)⟩
def vz{c c':Ck}(h1:c'.aa=c.aa)(h2:c'.slots=c.slots):Ns c c':=⟨h1,fun _ _=>by rw[h2]⟩
def Jr(c:Ck)(a s:Int)(h:jM (c.node a).kind):Ns c (c.slot a s):=⟨rfl,fun k hk=>by
 show nth (c.slots.set a.toNat s) k=_;unfold nth;rw[List.getD_eq_getElem?_getD,List.getElem?_set,List.getD_eq_getElem?_getD];by_cases e:a.toNat=k
 ·subst e;exact(hk h).elim
 ·rw[if_neg e]⟩
def qX(c:Ck)(e a:Int):Ns c (c.aG e a):=by unfold Ck.aG;split<;>exact vz rfl rfl
def pd(c:Ck)(b:Bool)(a:Int):Ns c (c.ap b a):=by unfold Ck.ap;split;exact .refl _;exact qX _ _ _
def Am(c:Ck)(a:Int)(h:jM (c.node a).kind):Ns c (c.named a).1:=by unfold Ck.named;split;exact qX _ _ _;exact Jr c a _ h
def Ub(c:Ck)(a t:Int):Ns c (c.note a t):=⟨rfl,fun _ _=>rfl⟩
def Eg(c:Ck)(a:Int):Ns c (c.ai a):=⟨rfl,fun _ _=>rfl⟩
def uD{c x y:Ck}{q:Prop}[Decidable q](h:Ns c x)(k:Ns c y):Ns c (if q then x else y):=by split;exact h;exact k
theorem G8{ex:Ck->Int->Ck×Int}(hx:∀c a,Ns c (ex c a).1):∀(L:UY) (c:Ck) (ts:UY),Ns c (gM ex c L ts).1
 |[],c,ts=>by unfold gM;exact .refl c
 |a::L,c,ts=>by
  unfold gM;split
  ·exact(hx c a).trans (G8 hx L _ _)
  ·exact .refl c
theorem Gh(a:Int):∀(ts:UY) (ps:List bI) (c:Ck),Ns c (iP a c ts ps)
 |[],ps,c=>by rw[uz];exact .refl c
 |_::_,[],c=>by rw[uK];exact .refl c
 |x::ts,p::ps,c=>by
  unfold iP;split
  ·exact(pd _ _ _).trans (Gh a ts ps _)
  ·exact .refl c
def T6(hx:∀c a,Ns c (ex c a).1)(c:Ck)(a:Int):Ns c (jq ex c a).1:=by
 unfold jq;split
 ·exact qX _ _ _
 ·simp only;exact((G8 hx _ c _).trans (uD (qX _ _ _) (.refl _))).trans (Gh _ _ _ _)
def M7(hx:∀c a,Ns c (ex c a).1)(c:Ck)(a:Int):Ns c (cz ex c a).1:=by
 unfold cz;simp only;split
 ·exact .refl c
 split
 ·exact .refl c
 split
 ·exact .refl c
 split
 ·rename_i e;exact Am _ _ (.inl e)
 split
 ·exact T6 hx c a
 split
 ·rename_i e;exact((Am _ _ (.inr (.inl e))).trans (hx _ _)).trans (pd _ _ _)
 split
 ·exact((hx _ _).trans (hx _ _)).trans (pd _ _ _)
 split
 ·exact(hx _ _).trans (pd _ _ _)
 split
 ·exact(hx _ _).trans (pd _ _ _)
 split
 ·exact(hx _ _).trans (pd _ _ _)
 ·exact(hx _ _).trans (pd _ _ _)
theorem rQ:∀(n:Nat) (c:Ck) (a:Int),Ns c (aB n c a).1
 |0,c,a=>by unfold aB;exact .refl c
 |n+1,c,a=>by
  unfold aB;split
  ·exact .refl c
  ·exact(M7 (rQ n) c a).trans (Ub _ _ _)
def UA(hx:∀c a,Ns c (ex c a).1)(c:Ck)(a:Int)(hk:jM (c.node a).kind):Ns c (pm ex c a):=by have hA:Ns c (iX ex c a):=(hx c _).trans (pd _ _ _);have hB:Ns (iX ex c a) (jX ex c a):=uD (qX _ _ _) (.refl _);have hC:Ns (jX ex c a) (fa ex c a):=uD (qX _ _ _) (.refl _);rw[uE];have haY:=(hA.trans hB).trans hC;exact haY.trans ((Jr (fa ex c a) a _ (by unfold Ck.node;rw[haY.aa];exact hk)).trans (vz rfl rfl))
def SZ(hx:∀c a,Ns c (ex c a).1)(c:Ck)(a:Int):Ns c (kP ex c a):=by
 unfold kP;simp only;split
 ·exact qX _ _ _
 split
 ·exact(hx _ _).trans (pd _ _ _)
 ·exact .refl c
theorem A7{st:Ck->Int->Ck}(hs:∀c a,Ns c (st c a)):∀(L:UY) (c:Ck),Ns c (dW st c L)
 |[],c=>by unfold dW;exact .refl c
 |a::L,c=>by
  unfold dW;split
  ·exact(hs c a).trans (A7 hs L _)
  ·exact .refl c
def GQ(hs:∀c a,Ns c (st c a))(c:Ck)(a:Int):Ns c (fw st c a):=by unfold fw;simp only;exact((Eg c a).trans (A7 hs _ _)).trans (vz rfl rfl)
theorem Jp:∀(n:Nat) (c:Ck) (a:Int),Ns c (bT n c a)
 |0,c,a=>by unfold bT;exact .refl c
 |n+1,c,a=>by
  unfold bT;simp only;refine(Eg c a).trans ?_;split
  ·rename_i e;exact UA (rQ n) _ _ (.inr (.inr (.inl e)))
  split
  ·rename_i e;exact((Am _ _ (.inr (.inr (.inr (.inl e))))).trans (rQ n _ _)).trans (pd _ _ _)
  split
  ·rename_i e;exact(((Am _ _ (.inr (.inr (.inr (.inr e))))).trans (rQ n _ _)).trans (rQ n _ _)).trans (pd _ _ _)
  split
  ·exact rQ n _ _
  split
  ·exact(rQ n _ _).trans (pd _ _ _)
  split
  ·exact SZ (rQ n) _ _
  ·exact((rQ n _ _).trans (pd _ _ _)).trans (A7 (fun c a=>GQ (Jp n) c a) _ _)
theorem Jn(body:Int):∀(ps:List bI) (c:Ck) (i:Int),Ns c (fH body c ps i)
 |[],c,i=>by unfold fH;exact .refl c
 |p::ps,c,i=>by unfold fH;simp only;have h1:Ns c (if 0<=c.find p.name then c.aG 41 body else c):=uD (qX c 41 body) (.refl c);generalize (if 0<=c.find p.name then c.aG 41 body else c)=d at*;refine h1.trans ?_;exact Ns.trans (b:={ d with vars:=d.vars++[⟨p.name,p.ty,i⟩],more:=d.more.drop 1,size:=d.size+1 }) (vz rfl rfl) (Jn body ps _ _)
def LB(c:Ck)(k:Nat):Ns c (gT c k):=by
 have h:Ns { c with fn:=(k:Int),vars:=[],more:=[],size:=0 } (gT c k):=by unfold gT;simp only;exact((Jn _ _ _ _).trans (uD (GQ (Jp _) _ _) (.refl _))).trans (vz rfl rfl)
 exact Ns.trans (b:={ c with fn:=(k:Int),vars:=[],more:=[],size:=0 }) (vz rfl rfl) h
theorem Jg:∀(n i:Nat) (c:Ck),Ns c (gN c i n)
 |0,i,c=>by unfold gN;exact .refl c
 |n+1,i,c=>by
  unfold gN;split
  ·exact(LB c i).trans (Jg n (i+1) _)
  ·exact .refl c
theorem Hs(x:bk):∀(l:List bk) (c:Ck),Ns c (kZ x c l)
 |[],c=>by unfold kZ;exact .refl c
 |f::l,c=>by unfold kZ;exact(uD (qX _ _ _) (.refl _):Ns c (if f.name=x.name then c.aG 41 x.body else c)).trans (Hs x l _)
theorem A2(ao:List bk):∀(n i:Nat) (c:Ck) (m:Bool),Ns c (ki ao c m i n).1
 |0,i,c,m=>by unfold ki;exact .refl c
 |n+1,i,c,m=>by unfold ki;exact(Hs _ _ c).trans (A2 ao n (i+1) _ _)
def PZ(c:Ck):Ns c (ji c):=by unfold ji;simp only;exact uD (A2 _ _ _ _ _) ((A2 _ _ _ _ _).trans (qX _ _ _))
def Tf{t:aK}(he:(iE t).2.2=0):∀k,k<t.nodes.length->¬jM (nth t.nodes k).kind->nth (iE t).1.slots k<=0:=fun k hk hn=>by
 unfold iE at he ⊢;split at he
 ·rename_i h;exact(h he).elim
 rename_i h;rw[if_neg h];have h1:=(PZ (jY t)).trans (Jg t.ao.length 0 _);show nth (gN (ji (jY t)) 0 t.ao.length).slots k<=0;rw[h1.slots k hn];show nth (t.nodes.map fun _=>(-1:Int)) k<=0;unfold nth;rw[List.getD_eq_getElem?_getD,List.getElem?_map,List.getElem?_eq_getElem hk];show(-1:Int)<=0;omega
def K6{t:List bw}{lo hi:Nat}{L:UY}(h:aP t lo L hi):∀k,lo<=k->k<hi->∃j,j<L.length/\k<=(nth L j).toNat/\(if j=0 then lo else(nth L (j-1)).toNat+1)<=k:=by
 induction h with
 |nil=>intro k h1 h2;omega
 |@cons lo c hi L hc h1 h2 i1 i2=>
  intro k VA Vk;by_cases e:k<=c
  ·exact⟨0,jE,by show k<=(c:Int).toNat;omega,by rw[if_pos rfl];exact VA⟩
  ·obtain⟨j,g1,g2,g3⟩:=i2 k jB Vk;refine⟨j+1,by simp;omega,g2,?_⟩;rw[jN];by_cases e0:j=0
   ·subst e0;show(c:Int).toNat+1<=k;omega
   ·rw[if_neg e0]at g3;rw[show j+1-1=(j-1)+1 from jB];exact g3
def Sg(h:fO p):∀k,k<p.aa.nodes.length->jM (nth p.aa.nodes k).kind->0<=nth p.slots k:=fun k hk hs=>by
 obtain⟨j,g1,g2,g3⟩:=K6 h.ok.aa.chain k (Nat.zero_le _) hk;have g1:j<p.aa.ao.length:=by simpa using g1
 have e:∀i,i<p.aa.ao.length->nth (p.aa.ao.map (·.body)) i=(nth p.aa.ao i).body:=fun i hi=>by unfold nth;rw[List.getD_eq_getElem?_getD,List.getElem?_map,List.getD_eq_getElem?_getD,List.getElem?_eq_getElem hi];rfl
 rw[e j g1]at g2;have hf:=h.ao j g1;refine(hf.all k ?_ jB hs).1;unfold kW;split at g3
 ·rename_i e0;rw[if_pos e0];exact g3
 ·rename_i e0;rw[if_neg e0];rw[e (j-1) jB]at g3;exact g3
def O1(he:(ga s).2.2=0):∀k,k<(ga s).1.aa.nodes.length->¬jM (nth (ga s).1.aa.nodes k).kind->nth (ga s).1.slots k<=0:=by
 have hok:=HV he;unfold ga at he hok ⊢;split at he
 ·rename_i h;exact(h he).elim
 rename_i h;rw[if_neg h]at hok ⊢;have h:(ik s).2.2=0:=jB;simp only at he hok ⊢;split at he
 ·cases he
 rename_i h2;split at he
 ·rename_i h3;exact(h3 he).elim
 rename_i h3;rw[if_neg h2,if_neg h3]at hok ⊢;have ht:=(zH (v8 h) jB).2;simp only at hok ⊢;rw[ht];exact Tf jB
attribute [local go_sem] iI
def K0(hp:gG p):aD prog 110 [.agg (cY p)] (.agg (xP (bQ p))):=by
 have ht:=hp.ok.ok.aa;have hm:=ht.many;have hbv:=ht.ao;have eV:bQ p=fp p p.aa.ao.length:=by unfold bQ fp;rw[List.take_length]
 rw[eV];have WN:=CT hp.ok;have Xt:=zo p;rw[BY];refine cB func110 ntmps110 ?_;refine S ?_
 (repeat' (first|refine ar fun K hK=>?_|refine av ?_|(refine hK _ _ ?_;clear hK K)|(refine au ?_ ?_<;>intro hc<;>try exact jz)|refine bv 2 ?_|refine al 3 ?_|refine al 0 ?_|refine aq ?_|exact jI|(clear hK K)))
 refine iW (dI.fS 1 0 6 219 4 rfl jC rfl rfl) ?_
 (refine S ?_;try exact jI)
 refine iW (dI.nil 5 4 3 (sz:=1) rfl jC (Or.inl rfl)) ?_
 (refine S ?_;try exact jI)
 have Vc:=hK;clear hK;refine dJ (S:=Nat) [(4,1),(6,1),(13,17)] (fun k=>k<=p.aa.ao.length) (fun k=>[(4,.rs 5 k 1 k),(13,rI k)])
  (fun k=>⟨[],[(2,.var 32 (kH p)),(3,.var 199 [.raw (.slice none 0 0),.raw (.slice none 0 0)]),(0,.var 267 (kH p++[.rs 1 (fp p k).ins.length 4 (fp p k).ins.length])),(1,.aJ 219 4 ((fp p k).ins.map dw)),(5,.aJ 3 1 ((fp p k).entry.map eI))]⟩)
  (fun k=>p.aa.ao.length-k) 0 jB (dK rfl bU) ?_
 rintro k hk Kr Vb;have X8:=WN k hk;have hek:=Xt k hk;by_cases D':k<p.aa.ao.length
 ·have hs:=yX p k D';have Wf:=n7 ht (k:=k) D';have WD:=Wf.1;have Xc:=Wf.2;have YD:=ht.body _ (fc D');have hbl:=zM ht (mR p) (nth p.aa.ao k).body (fp p k).ins.length jB jB YD;have hcb:=Ba hp (xJ hp (mR p)) (nth p.aa.ao k).body (fp p k).ins jB jB YD (by show _<=p.aa.nodes.length;omega) (by have:mR p<=300:=hm;omega);change af _ _ _ _ (fun r l=>r=.ba []/\l=bW p ((fp p k).ins++qN p (mR p) (nth p.aa.ao k).body (fp p k).ins.length))at hcb
  change (qN p (mR p) (nth p.aa.ao k).body (fp p k).ins.length).length<=1200 at hbl
  have YS:=ju p ((fp p k).ins++qN p (mR p) (nth p.aa.ao k).body (fp p k).ins.length) 22 (nth p.aa.ao k).ret (by rw[List.length_append];omega);have e1:(fp p (k+1)).ins=(fp p k).ins++qN p (mR p) (nth p.aa.ao k).body (fp p k).ins.length++[iI 22 (nth p.aa.ao k).ret]:=by rw[hs];rfl
  have e2:(fp p (k+1)).entry=(fp p k).entry++[((fp p k).ins.length:Int)]:=by rw[hs];rfl
  generalize qN p (mR p) (nth p.aa.ao k).body (fp p k).ins.length=B at*;generalize hC':fp p (k+1)=C' at*;generalize fp p k=C at*;generalize hF:nth p.aa.ao k=F at*;refine S ?_
  (have W:=jA hF hek;repeat' (first|refine ar fun K hK=>?_|refine av ?_|(refine hK _ _ ?_;clear hK K)|(refine au ?_ ?_<;>intro hc<;>try exact jz)|refine al 6 ?_|refine cm (hcb) ?_|refine cm (YS) ?_|refine aq ?_|exact jI|(clear hK K)))
  refine Vb _ _ (nz [6] (k+1) jB (by show p.aa.ao.length-(k+1)<p.aa.ao.length-k;omega) rfl Sd (by rw[hC',e1,e2];simp only[kH,List.map_append,List.length_append,List.map_cons,List.map_nil,List.length_cons,List.length_nil];rfl) iQ)
 ·have e:k=p.aa.ao.length:=jB;subst e;generalize fp p p.aa.ao.length=C at*;refine S ?_
  (have W:=hek;repeat' (first|refine ar fun K hK=>?_|refine av ?_|(refine hK _ _ ?_;clear hK K)|(refine au ?_ ?_<;>intro hc<;>try exact jz)|refine Vc _ _ ?_|refine aq ?_|exact jI|(clear hK K)))
  refine fy [.cell 2 199] ?_;exact bD.agg (ds:=[aM dw 4 C.ins,aM eI 1 C.entry]) (jA (db.row (enc:=dw) C.ins rfl rfl jE) (jA (db.row (enc:=eI) C.entry rfl rfl (by simp[hek])) trivial))
def y5(he:(ga s).2.2=0):gG (ga s).1:=⟨yV he,O1 he,Sg (yV he)⟩
def OX(f:bk):aD prog 162 [.agg (gg f)] (rB (decide (f.name=(⟨#[109,97,105,110]⟩:U0)))):=by
 refine cB func162 ntmps162 ?_
 (repeat' (first|refine ar fun K hK=>?_|refine av ?_|(refine hK _ _ ?_;clear hK K)|(refine au ?_ ?_<;>intro hc<;>try exact jz)|refine bv 4 ?_|refine aq ?_|exact jI|(clear hK K)))
 (refine bq [.tmp 2] ?_;try simp only[go_sem])
def Mm(L:List bk)(k:Nat)(hL:L.length<=1000)(hk:k<L.length)(Vm:(nth L k).name=(⟨#[109,97,105,110]⟩:U0))(Xg:∀i,i<k->(nth L i).name≠(⟨#[109,97,105,110]⟩:U0)) :
  aD prog 161 [aM gg 5 L,.raw (.func (.func 162) #[] #[])] (rI k):=by
 refine cB func161 ntmps161 ?_
 (repeat' (first|refine ar fun K hK=>?_|refine av ?_|(refine hK _ _ ?_;clear hK K)|(refine au ?_ ?_<;>intro hc<;>try exact jz)|refine aq ?_|exact jI|(clear hK K)))
 refine dJ (S:=Nat) [(4,2),(8,11)] (fun i=>i<=k) (fun i=>[(8,rI i)]) (fun i=>⟨[],[]⟩) (fun i=>k-i) 0 jB (dK rfl bU) ?_;rintro i hi Kr Vb;have Xw:=OX (nth L i);by_cases e:i=k
 ·subst e;rw[decide_eq_true Vm]at Xw;refine S ?_
  (repeat' (first|refine ar fun K hK=>?_|refine av ?_|(refine hK _ _ ?_;clear hK K)|(refine au ?_ ?_<;>intro hc<;>try exact jz)|refine cp (Xw) ?_|refine aq ?_|exact jI|(clear hK K)))
  (refine bq [.tmp 4] ?_;try simp only[go_sem])
 ·rw[decide_eq_false (Xg i jB)]at Xw;refine S ?_
  (repeat' (first|refine ar fun K hK=>?_|refine av ?_|(refine hK _ _ ?_;clear hK K)|(refine au ?_ ?_<;>intro hc<;>try exact jz)|refine cp (Xw) ?_|refine aq ?_|exact jI|(clear hK K)))
  refine Vb _ _ (dT (i+1) jB jJ rfl bU)
def Rk(m:Nat)(hL:p.aa.ao.length<=1000)(hk:m<p.aa.ao.length)(Vm:(nth p.aa.ao m).name=(⟨#[109,97,105,110]⟩:U0))(Xg:∀i,i<m->(nth p.aa.ao i).name≠(⟨#[109,97,105,110]⟩:U0)):aD prog 113 [.agg (cY p)] (rI m):=by
 have XC:=Mm p.aa.ao m hL hk Vm Xg;rw[BY];refine cB func113 ntmps113 ?_;refine S ?_
 (repeat' (first|refine ar fun K hK=>?_|refine av ?_|(refine hK _ _ ?_;clear hK K)|(refine au ?_ ?_<;>intro hc<;>try exact jz)|refine bv 2 ?_|refine cp (XC) ?_|refine aq ?_|exact jI|(clear hK K)))
 (refine bq [.tmp 2] ?_;try simp only[go_sem])
end Go.Proofs.YtjpcgmjaipfgdaaGreatDoor