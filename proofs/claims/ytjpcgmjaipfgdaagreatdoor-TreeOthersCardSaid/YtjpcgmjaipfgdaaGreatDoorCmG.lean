/- Lemmas. No conditions. -/
import Derived.Test.YtjpcgmjaipfgdaaGreatDoorViA
set_option linter.all false
set_option maxHeartbeats 4000000
set_option maxRecDepth 10000
namespace Go.Gd
open Go
def kq(h:TF)(k:Nat):Nat:=(h.take k).flatten.length
def lD(h:TF):TG:=(List.range h.length).map fun k=>((kq h (k+1):Nat):Int)
def v6(h:TF):(lD h).length=h.length:=by simp[lD]
variable{h:TF}
def vN{k:Nat}(hk:k<h.length):kq h (k+1)=kq h k+(nth h k).length:=by unfold kq;rw[List.take_succ,List.getElem?_eq_getElem hk,List.flatten_append,List.length_append,fP hk];simp
def wC(h:TF)(k:Nat):kq h k<=h.flatten.length:=by
 unfold kq;have:h.flatten=(h.take k).flatten++(h.drop k).flatten:=by rw[<-List.flatten_append,List.take_append_drop]
 rw[this,List.length_append];omega
def FQ{k:Nat}(hk:k<h.length):nth (lD h) k=(kq h (k+1):Nat):=by rw[fP (by rw[v6];exact hk)];simp[lD]
def Rm{k i:Nat}(hk:k<h.length)(hi:i<(nth h k).length):nth h.flatten (kq h k+i)=nth (nth h k) i:=by
 have e:h.flatten=(h.take k).flatten++(nth h k++(h.drop (k+1)).flatten):=by rw[fP hk,<-List.flatten_cons,List.getElem_cons_drop,<-List.flatten_append,List.take_append_drop]
 rw[e];unfold kq;unfold nth at hi ⊢;rw[List.getD_eq_getElem?_getD,List.getElem?_append_right jB,Nat.add_sub_cancel_left,List.getElem?_append_left hi,<-List.getD_eq_getElem?_getD]
def J9{k i:Nat}(n:Int)(hk:k<h.length)(hi:i<(nth h k).length):(h.set k ((nth h k).set i n)).flatten=h.flatten.set (kq h k+i) n:=by
 have e:h.flatten=(h.take k).flatten++(nth h k++(h.drop (k+1)).flatten):=by rw[fP hk,<-List.flatten_cons,List.getElem_cons_drop,<-List.flatten_append,List.take_append_drop]
 have e2:h.set k ((nth h k).set i n)=h.take k++((nth h k).set i n::h.drop (k+1)):=by rw[List.set_eq_take_append_cons_drop,if_pos hk]
 rw[e2,List.flatten_append,List.flatten_cons,e];unfold kq;rw[List.set_append_right _ _ jB,Nat.add_sub_cancel_left,List.set_append_left _ _ hi]
def P2{k:Nat}(l:TG)(hl:l.length=(nth h k).length)(hk:k<h.length):lD (h.set k l)=lD h:=by
 unfold lD;rw[List.length_set];apply List.map_congr_left;intro j _;congr 1
 unfold kq;rw[List.take_set,List.length_flatten,List.length_flatten,List.map_set];congr 1
 apply List.ext_getElem jE;intro i h1 h2;rw[List.getElem_set];split
 ·rename_i e;subst e;rw[List.getElem_map,List.getElem_take,hl,fP hk]
 ·rfl
def gG(h:TF):TD:=[(2,.var 269 [.rs 3 h.flatten.length 1 h.flatten.length,.rs 4 h.length 1 h.length]),(3,.aG 3 1 (h.flatten.map eI)),(4,.aG 3 1 ((lD h).map eI))]
attribute [go_sem] gG
def LZ(h:TF)(k:Nat):(h++[List.replicate k 0]).flatten=h.flatten++List.replicate k 0:=jE
def Qm(h:TF)(k:Nat):lD (h++[List.replicate k 0])=lD h++[((h.flatten.length+k:Nat):Int)]:=by
 unfold lD;rw[List.length_append,List.length_singleton,List.range_succ,List.map_append,List.map_singleton];congr 1
 ·apply List.map_congr_left;intro j hj;have hj:j<h.length:=List.mem_range.1 hj;congr 1
  unfold kq;rw[List.take_append_of_le_length jB]
 ·congr 2
  unfold kq;rw[List.take_of_length_le jE];simp
def Sy(k:Nat):(List.replicate k (0:Int)).map eI=List.replicate k [AV.raw (.int .i64 0)]:=by simp[eI]
def kf(p:af):TE:=[aO eF 5 p.aa.nodes,aO fV 5 p.aa.aw,aO eI 1 p.types,aO eI 1 p.slots,aO eI 1 p.fn,aO eI 1 p.size]
def z8(p:af):cd p=kf p:=rfl
def bU(p:af)(L:List ay):TD:=[(0,.var 267 (kf p++[.rs 1 L.length 4 L.length])),(1,.aG 219 4 (L.map dn))]
attribute [go_sem] bU kf
def LJ(f:Int->Int->List ay)(k:Int)(L:TG)(i:Nat):(bv f k (L.take i) []).length<=(bv f k L []).length:=by have e:=B0 f (L.take i) (L.drop i) k [];rw[List.take_append_drop]at e;rw[e,uX f (L.drop i)];simp
def JE(f:Int->Int->List ay)(k:Int)(L:TG)(i:Nat)(h:i<L.length):bv f k (L.take (i+1)) []=bv f k (L.take i) []++f (nth L i) (k+(bv f k (L.take i) []).length):=by rw[show L.take (i+1)=L.take i++[nth L i] by rw[List.take_succ,List.getElem?_eq_getElem h,fP h];rfl,B0];rfl
end Go.Gd
namespace Go.Proofs.YtjpcgmjaipfgdaaGreatDoor
open Go Go.Gd Tryz
def CD(h:TF)(a:Int)(hl:h.length<=1000)(ha:a<1\/(h.length:Int)<a):ab prog 175 [.pt 2 0 0 0,rI a] (gG h) (fun r l=>r=.raw (.slice none 0 0)/\l=gG h):=by
 have VF:=v6 h;by_cases h1:a<1
 ·refine aM func175 ntmps175 ?_;refine S ?_
  (repeat' (first|refine aq fun K hK=>?_|refine ap ?_|(refine hK _ _ ?_;clear hK K)|(refine ao ?_ ?_<;>intro hc<;>try exact jz)|refine ar ?_|exact jI|(clear hK K)))
  (refine bV [.tmp 4] ?_ ?_<;>(try simp only[go_sem]))
 ·refine aM func175 ntmps175 ?_;refine S ?_
  (repeat' (first|refine aq fun K hK=>?_|refine ap ?_|(refine hK _ _ ?_;clear hK K)|(refine ao ?_ ?_<;>intro hc<;>try exact jz)|refine ar ?_|exact jI|(clear hK K)))
  (refine bV [.tmp 4] ?_ ?_<;>(try simp only[go_sem]))
def xj(h:TF)(k:Nat)(a:Int)(ha:a=(k:Int)+1)(hl:h.length<=1000)(hf:h.flatten.length<=1000)(hk:k<h.length):ab prog 175 [.pt 2 0 0 0,rI a] (gG h) (fun r l=>r=.rv 3 h.flatten.length 1 (kq h k) (nth h k).length/\l=gG h):=by
 have VF:=v6 h;have e1:nth (lD h) (a-1).toNat=(kq h k+(nth h k).length:Nat):=by rw[show(a-1).toNat=k from jB,FQ hk,vN hk]
 have e2:=vN hk;have e3:=wC h (k+1);generalize (nth h k).length=c at*;by_cases h1:k=0
 ·have e0:kq h k=0:=by subst h1;rfl
  rw[e0]at e1 e2;rw[e0];refine aM func175 ntmps175 ?_;refine S ?_
  (have W:=jA VF e1;repeat' (first|refine aq fun K hK=>?_|refine ap ?_|(refine hK _ _ ?_;clear hK K)|(refine ao ?_ ?_<;>intro hc<;>try exact jz)|refine ar ?_|exact jI|(clear hK K)))
  (refine bV [.tmp 4] ?_ ?_<;>(try simp only[go_sem]))
  rw[Nat.sub_zero]
 ·have e4:nth (lD h) (a-2).toNat=(kq h k:Nat):=by
   have e4:=FQ (h:=h) (k:=k-1) jB;rw[show k-1+1=k from jB]at e4;rw[show(a-2).toNat=k-1 from jB];exact e4
  generalize kq h k=o at*;refine aM func175 ntmps175 ?_;refine S ?_
  (have W:=jA VF (jA e1 (e4));repeat' (first|refine aq fun K hK=>?_|refine ap ?_|(refine hK _ _ ?_;clear hK K)|(refine ao ?_ ?_<;>intro hc<;>try exact jz)|refine ar ?_|exact jI|(clear hK K)))
  (refine bV [.tmp 4] ?_ ?_<;>(try simp only[go_sem]))
  rw[Nat.add_sub_cancel_left]
def LO(h:TF)(a:Int)(hl:h.length<=1000)(hf:h.flatten.length<=1000):ab prog 212 [.pt 2 0 0 0,rI a] (gG h) (fun r l=>r=rI (MV.bk h a).length/\l=gG h):=by
 unfold MV.bk;by_cases e:a<1\/(h.length:Int)<a
 ·have T9:=CD h a hl e;rw[if_pos e];refine aM func212 ntmps212 ?_;refine S ?_
  (repeat' (first|refine aq fun K hK=>?_|refine ap ?_|(refine hK _ _ ?_;clear hK K)|(refine ao ?_ ?_<;>intro hc<;>try exact jz)|refine cm (T9) ?_|refine ar ?_|exact jI|(clear hK K)))
  (refine bV [.tmp 4] ?_ ?_<;>(try simp only[go_sem]))
 ·have T9:=xj h (a-1).toNat a jB hl hf jB;rw[if_neg e];refine aM func212 ntmps212 ?_;refine S ?_
  (repeat' (first|refine aq fun K hK=>?_|refine ap ?_|(refine hK _ _ ?_;clear hK K)|(refine ao ?_ ?_<;>intro hc<;>try exact jz)|refine cm (T9) ?_|refine ar ?_|exact jI|(clear hK K)))
  (refine bV [.tmp 4] ?_ ?_<;>(try simp only[go_sem]))
def NT(h:TF)(a i:Int)(hl:h.length<=1000)(hf:h.flatten.length<=1000):ab prog 213 [.pt 2 0 0 0,rI a,rI i] (gG h) (fun r l=>r=.aQ [rI (if i<0\/((MV.bk h a).length:Int)<=i then 0 else nth (MV.bk h a) i.toNat),rI (if i<0\/((MV.bk h a).length:Int)<=i then 2 else 0)]/\l=gG h):=by
 by_cases e:a<1\/(h.length:Int)<a
 ·have T9:=CD h a hl e;have e2:MV.bk h a=[]:=by unfold MV.bk;rw[if_pos e]
  have e3:i<0\/(([]:TG).length:Int)<=i:=by simp only[List.length_nil];omega
  rw[e2,if_pos e3,if_pos e3];by_cases h0:i<0
  ·refine aM func213 ntmps213 ?_;refine S ?_
   (repeat' (first|refine aq fun K hK=>?_|refine ap ?_|(refine hK _ _ ?_;clear hK K)|(refine ao ?_ ?_<;>intro hc<;>try exact jz)|refine cm (T9) ?_|refine ar ?_|exact jI|(clear hK K)))
   (refine bV [.tmp 6,.tmp 7] ?_ ?_<;>(try simp only[go_sem]))
  ·refine aM func213 ntmps213 ?_;refine S ?_
   (repeat' (first|refine aq fun K hK=>?_|refine ap ?_|(refine hK _ _ ?_;clear hK K)|(refine ao ?_ ?_<;>intro hc<;>try exact jz)|refine cm (T9) ?_|refine ar ?_|exact jI|(clear hK K)))
   (refine bV [.tmp 6,.tmp 7] ?_ ?_<;>(try simp only[go_sem]))
 ·have T9:=xj h (a-1).toNat a jB hl hf jB;have e2:MV.bk h a=nth h (a-1).toNat:=by unfold MV.bk;rw[if_neg e]
  rw[e2];have hk:(a-1).toNat<h.length:=jB;generalize (a-1).toNat=k at*;have hof:=vN hk;have T3:=wC h (k+1);by_cases e3:i<0\/((nth h k).length:Int)<=i
  ·rw[if_pos e3,if_pos e3];by_cases h0:i<0
   ·refine aM func213 ntmps213 ?_;refine S ?_
    (repeat' (first|refine aq fun K hK=>?_|refine ap ?_|(refine hK _ _ ?_;clear hK K)|(refine ao ?_ ?_<;>intro hc<;>try exact jz)|refine cm (T9) ?_|refine ar ?_|exact jI|(clear hK K)))
    (refine bV [.tmp 6,.tmp 7] ?_ ?_<;>(try simp only[go_sem]))
   ·refine aM func213 ntmps213 ?_;refine S ?_
    (repeat' (first|refine aq fun K hK=>?_|refine ap ?_|(refine hK _ _ ?_;clear hK K)|(refine ao ?_ ?_<;>intro hc<;>try exact jz)|refine cm (T9) ?_|refine ar ?_|exact jI|(clear hK K)))
    (refine bV [.tmp 6,.tmp 7] ?_ ?_<;>(try simp only[go_sem]))
  ·rw[if_neg e3,if_neg e3];have hn:=Rm (i:=i.toNat) hk jB;refine aM func213 ntmps213 ?_;refine S ?_
   (have W:=hn;repeat' (first|refine aq fun K hK=>?_|refine ap ?_|(refine hK _ _ ?_;clear hK K)|(refine ao ?_ ?_<;>intro hc<;>try exact jz)|refine cm (T9) ?_|refine ar ?_|exact jI|(clear hK K)))
   (refine bV [.tmp 6,.tmp 7] ?_ ?_<;>(try simp only[go_sem]))
def J1(h:TF)(a i n:Int)(hl:h.length<=1000)(hf:h.flatten.length<=1000)(hi:¬(i<0\/((MV.bk h a).length:Int)<=i)):ab prog 214 [.pt 2 0 0 0,rI a,rI i,rI n] (gG h) (fun r l=>r=rI 0/\l=gG (h.set (a-1).toNat ((nth h (a-1).toNat).set i.toNat n))):=by
 have e:¬(a<1\/(h.length:Int)<a):=fun e=>hi (by unfold MV.bk;rw[if_pos e];simp only[List.length_nil];omega)
 have e2:MV.bk h a=nth h (a-1).toNat:=by unfold MV.bk;rw[if_neg e]
 rw[e2]at hi;have T9:=xj h (a-1).toNat a jB hl hf jB;have hk:(a-1).toNat<h.length:=jB;generalize (a-1).toNat=k at*;have hof:=vN hk;have T3:=wC h (k+1);have hn:=J9 n hk (i:=i.toNat) jB;have X3:=P2 (h:=h) (k:=k) ((nth h k).set i.toNat n) (by rw[List.length_set]) hk;have UU:(h.flatten.set (kq h k+i.toNat) n).length=h.flatten.length:=List.length_set;unfold gG;rw[hn,X3];simp only[List.length_set,List.map_set];refine aM func214 ntmps214 ?_;refine S ?_
 (repeat' (first|refine aq fun K hK=>?_|refine ap ?_|(refine hK _ _ ?_;clear hK K)|(refine ao ?_ ?_<;>intro hc<;>try exact jz)|refine cm (T9) ?_|refine ar ?_|exact jI|(clear hK K)))
 (refine bV [.tmp 8] ?_ ?_<;>(try simp only[go_sem]))
def PC(h:TF)(a i n:Int)(hl:h.length<=1000)(hf:h.flatten.length<=1000)(hi:i<0\/((MV.bk h a).length:Int)<=i):ab prog 214 [.pt 2 0 0 0,rI a,rI i,rI n] (gG h) (fun r l=>r=rI 2/\l=gG h):=by
 by_cases e:a<1\/(h.length:Int)<a
 ·have T9:=CD h a hl e;by_cases h0:i<0
  ·refine aM func214 ntmps214 ?_;refine S ?_
   (repeat' (first|refine aq fun K hK=>?_|refine ap ?_|(refine hK _ _ ?_;clear hK K)|(refine ao ?_ ?_<;>intro hc<;>try exact jz)|refine cm (T9) ?_|refine ar ?_|exact jI|(clear hK K)))
   (refine bV [.tmp 8] ?_ ?_<;>(try simp only[go_sem]))
  ·refine aM func214 ntmps214 ?_;refine S ?_
   (repeat' (first|refine aq fun K hK=>?_|refine ap ?_|(refine hK _ _ ?_;clear hK K)|(refine ao ?_ ?_<;>intro hc<;>try exact jz)|refine cm (T9) ?_|refine ar ?_|exact jI|(clear hK K)))
   (refine bV [.tmp 8] ?_ ?_<;>(try simp only[go_sem]))
 ·have T9:=xj h (a-1).toNat a jB hl hf jB;have e2:MV.bk h a=nth h (a-1).toNat:=by unfold MV.bk;rw[if_neg e]
  rw[e2]at hi;have hk:(a-1).toNat<h.length:=jB;generalize (a-1).toNat=k at*;have hof:=vN hk;have T3:=wC h (k+1);by_cases h0:i<0
  ·refine aM func214 ntmps214 ?_;refine S ?_
   (repeat' (first|refine aq fun K hK=>?_|refine ap ?_|(refine hK _ _ ?_;clear hK K)|(refine ao ?_ ?_<;>intro hc<;>try exact jz)|refine cm (T9) ?_|refine ar ?_|exact jI|(clear hK K)))
   (refine bV [.tmp 8] ?_ ?_<;>(try simp only[go_sem]))
  ·refine aM func214 ntmps214 ?_;refine S ?_
   (repeat' (first|refine aq fun K hK=>?_|refine ap ?_|(refine hK _ _ ?_;clear hK K)|(refine ao ?_ ?_<;>intro hc<;>try exact jz)|refine cm (T9) ?_|refine ar ?_|exact jI|(clear hK K)))
   (refine bV [.tmp 8] ?_ ?_<;>(try simp only[go_sem]))
def N5(h:TF)(n:Int)(hn:n<0\/16<n)(hl:h.length<=40)(hf:h.flatten.length<=40):ab prog 216 [.pt 2 0 0 0,rI n] (gG h) (fun r l=>r=.aQ [rI 0,rI 7]/\l=gG h):=by
 have VF:=v6 h;refine aM func216 ntmps216 ?_
 (refine S ?_;try exact jI)
 by_cases h0:n<0
 ·(repeat' (first|refine aq fun K hK=>?_|refine ap ?_|(refine hK _ _ ?_;clear hK K)|(refine ao ?_ ?_<;>intro hc<;>try exact jz)|refine ar ?_|exact jI|(clear hK K)))
  (refine bV [.tmp 4,.tmp 5] ?_ ?_<;>(try simp only[go_sem]))
 ·(repeat' (first|refine aq fun K hK=>?_|refine ap ?_|(refine hK _ _ ?_;clear hK K)|(refine ao ?_ ?_<;>intro hc<;>try exact jz)|refine ar ?_|exact jI|(clear hK K)))
  (refine bV [.tmp 4,.tmp 5] ?_ ?_<;>(try simp only[go_sem]))
def KG(h:TF)(n:Int)(hn:0<=n/\n<=16)(hc:40<(h.length:Int)+h.flatten.length+n+1)(hl:h.length<=40)(hf:h.flatten.length<=40):ab prog 216 [.pt 2 0 0 0,rI n] (gG h) (fun r l=>r=.aQ [rI 0,rI 4]/\l=gG h):=by
 have VF:=v6 h;refine aM func216 ntmps216 ?_;refine S ?_
 (repeat' (first|refine aq fun K hK=>?_|refine ap ?_|(with_reducible refine gR 3 ?_);refine dE 3 (aW 0 16) mixed ?_|(refine hK _ _ ?_;clear hK K)|(refine ao ?_ ?_<;>intro hc<;>try exact jz)|refine ar ?_|exact jI|(clear hK K)))
 (refine bV [.tmp 4,.tmp 5] ?_ ?_<;>(try simp only[go_sem]))
def OE(h:TF)(k:Nat)(hn:k<=16)(hc:h.length+h.flatten.length+k+1<=40):ab prog 216 [.pt 2 0 0 0,rI k] (gG h) (fun r l=>r=.aQ [rI (h.length+1:Nat),rI 0]/\l=gG (h++[List.replicate k 0])):=by
 have VF:=v6 h;unfold gG;rw[LZ,Qm,List.map_append,Sy];refine aM func216 ntmps216 ?_;refine S ?_
 (repeat' (first|refine aq fun K hK=>?_|refine ap ?_|(with_reducible refine gR 3 ?_);refine dE 3 (aW 0 16) mixed ?_|(with_reducible refine gR 6 ?_);refine dE 6 (aW 0 15) mixed ?_|(refine hK _ _ ?_;clear hK K)|(refine ao ?_ ?_<;>intro hc<;>try exact jz)|(refine Tm (e:=3) (z0:=.int .i64 0) (css:=h.flatten.map eI) jG ⟨.i64,jG⟩ jG jG rfl (by simp only[go_sem];rfl) (by rw[List.length_map]) (by rw[List.length_map]) (by simp only[go_sem,room,List.length_map];omega) ?_;simp only[List.length_map];try refine S ?_)|refine ar ?_|exact jI|(clear hK K)))
 (refine bV [.tmp 4,.tmp 5] ?_ ?_<;>(try simp only[go_sem]))
 simp[eI]
def oc(p:af)(L:List ay)(a:Int)(h0:0<=a)(h1:a.toNat<p.aa.nodes.length):ab prog 201 [.pt 0 0 0 0,rI a] (bU p L) (fun r l=>r=.agg (eF (au p a))/\l=bU p L):=by
 unfold au;refine aM func201 ntmps201 ?_;refine S ?_
 (repeat' (first|refine aq fun K hK=>?_|refine ap ?_|(refine hK _ _ ?_;clear hK K)|(refine ao ?_ ?_<;>intro hc<;>try exact jz)|refine al 5 ?_|refine ar ?_|exact jI|(clear hK K)))
 (refine aY [.cell 4 116] ?_;try simp only[go_sem])
def iV(p:af)(L:List ay)(op a:Int)(hL:L.length<=1000000):ab prog 160 [.pt 0 0 0 0,rI op,rI a] (bU p L) (fun r l=>r=rI L.length/\l=bU p (L++[⟨op,a,0,sE⟩])):=by
 refine aM func160 ntmps160 ?_;refine S ?_
 (repeat' (first|refine aq fun K hK=>?_|refine ap ?_|(refine hK _ _ ?_;clear hK K)|(refine ao ?_ ?_<;>intro hc<;>try exact jz)|refine ar ?_|exact jI|(clear hK K)))
 (refine aY [.tmp 6] ?_;try simp only[go_sem])
 rw[show((L.length+1:Nat):Int)-1=(L.length:Int) from jB]
def BO(p:af)(L:List ay)(k:Nat)(hk:k<L.length)(hL:L.length<=1000000):ab prog 258 [.pt 0 0 0 0,rI k] (bU p L) (fun r l=>r=.aQ []/\l=bU p (L.set k { nth L k with a:=L.length })):=by
 refine aM func258 ntmps258 ?_;refine S ?_
 (repeat' (first|refine aq fun K hK=>?_|refine ap ?_|(with_reducible refine gR 0 ?_);refine dE 0 (aW 0 13) mixed ?_|(refine hK _ _ ?_;clear hK K)|(refine ao ?_ ?_<;>intro hc<;>try exact jz)|refine ar ?_|exact jI|(clear hK K)))
 (refine bV [] ?_ ?_<;>(try simp only[go_sem]))
def zO(p:af)(a:Int):List ay:=if(au p a).kind=1 then[iI 2 (au p a).n]else if(au p a).kind=2 then[iI 3 (au p a).n]else if(au p a).kind=3 then[⟨4,0,0,(au p a).name⟩]else if(au p a).kind=4 then[⟨5,nth p.slots a.toNat,nth p.types a.toNat,sE⟩]else if(au p a).kind=19 then[iI 14 0]else[]
def OJ(p:af)(L:List ay)(a:Int)(h0:0<=a)(h2:a.toNat<p.slots.length)(h3:a.toNat<p.types.length)(hL:L.length<=1000000) :
  ab prog 261 [.pt 0 0 0 0,.agg (eF (au p a)),rI a] (bU p L) (fun r l=>r=.aQ []/\l=bU p (L++zO p a)):=by
 unfold zO;have U0:=iV p L 2 (au p a).n hL;have Xf:=iV p L 3 (au p a).n hL;have Zw:=iV p L 14 0 hL;generalize au p a=nd at*;by_cases k1:nd.kind=1
 ·rw[if_pos k1];refine aM func261 ntmps261 ?_;refine S ?_
  (have W:=k1;repeat' (first|refine aq fun K hK=>?_|refine ap ?_|(refine hK _ _ ?_;clear hK K)|(refine ao ?_ ?_<;>intro hc<;>try exact jz)|refine bx 5 ?_|refine cm (U0) ?_|refine ar ?_|exact jI|(clear hK K)))
  (refine aY [] ?_;try simp only[go_sem])
 rw[if_neg k1];have n1:=eq_false k1;by_cases k2:nd.kind=2
 ·rw[if_pos k2];refine aM func261 ntmps261 ?_;refine S ?_
  (have W:=k2;repeat' (first|refine aq fun K hK=>?_|refine ap ?_|(refine hK _ _ ?_;clear hK K)|(refine ao ?_ ?_<;>intro hc<;>try exact jz)|refine bx 5 ?_|refine cm (Xf) ?_|refine ar ?_|exact jI|(clear hK K)))
  (refine aY [] ?_;try simp only[go_sem])
 rw[if_neg k2];have n2:=eq_false k2;by_cases k3:nd.kind=3
 ·rw[if_pos k3];refine aM func261 ntmps261 ?_;refine S ?_
  (have W:=k3;repeat' (first|refine aq fun K hK=>?_|refine ap ?_|(with_reducible refine gR 7 ?_);refine dE 7 (aW 0 13) mixed ?_|(refine hK _ _ ?_;clear hK K)|(refine ao ?_ ?_<;>intro hc<;>try exact jz)|refine bx 5 ?_|refine ar ?_|exact jI|(clear hK K)))
  (refine aY [] ?_;try simp only[go_sem])
 rw[if_neg k3];have n3:=eq_false k3;by_cases k4:nd.kind=4
 ·rw[if_pos k4];refine aM func261 ntmps261 ?_;refine S ?_
  (have W:=k4;repeat' (first|refine aq fun K hK=>?_|refine ap ?_|(with_reducible refine gR 9 ?_);refine dE 9 (aW 0 27) mixed ?_|(refine hK _ _ ?_;clear hK K)|(refine ao ?_ ?_<;>intro hc<;>try exact jz)|refine bx 5 ?_|refine ar ?_|exact jI|(clear hK K)))
  (refine aY [] ?_;try simp only[go_sem])
 rw[if_neg k4];have n4:=eq_false k4;by_cases k5:nd.kind=19
 ·rw[if_pos k5];refine aM func261 ntmps261 ?_;refine S ?_
  (have W:=k5;repeat' (first|refine aq fun K hK=>?_|refine ap ?_|(refine hK _ _ ?_;clear hK K)|(refine ao ?_ ?_<;>intro hc<;>try exact jz)|refine bx 5 ?_|refine cm (Zw) ?_|refine ar ?_|exact jI|(clear hK K)))
  (refine aY [] ?_;try simp only[go_sem])
 rw[if_neg k5,List.append_nil];have n5:=eq_false k5;refine aM func261 ntmps261 ?_;refine S ?_
 (have W:=jA n1 (jA n2 (jA n3 (jA n4 (n5))));repeat' (first|refine aq fun K hK=>?_|refine ap ?_|(refine hK _ _ ?_;clear hK K)|(refine ao ?_ ?_<;>intro hc<;>try exact jz)|refine bx 5 ?_|refine ar ?_|exact jI|(clear hK K)))
 (refine aY [] ?_;try simp only[go_sem])
attribute [local go_sem] iI
theorem Bn{p:af}(ht:aR p.aa):∀(n m:Nat) (a k:Int),0<=a->a.toNat<p.aa.nodes.length->cQ (bW p.aa.nodes a)->a.toNat<n->a.toNat<m->bo p n a k=bo p m a k
 |0,m,a,k,_,_,_,hn,_=>by omega
 |n+1,0,a,k,_,_,_,_,hm=>jB
 |n+1,m+1,a,k,h0,hl,hk,hn,hm=>by
  have sh:=(ht.shape a.toNat hl).1;have hb:=(ht.shape a.toNat hl).2.1;have T4:cQ (au p a).kind:=hk;unfold cQ at T4;have aF:∀x k,x∈(au p a).l->cQ (bW p.aa.nodes x)->bo p n x k=bo p m x k:=fun x k hx Ua=>by have:=hb x hx;exact Bn ht n m x k this.1 jB Ua jB jB
  rw[lP,lP];have Ur:(au p a).kind=1\/(au p a).kind=2\/(au p a).kind=3\/(au p a).kind=4\/((au p a).kind=5\/(au p a).kind=6\/(au p a).kind=7\/(au p a).kind=8)\/(au p a).kind=9:=jB;rcases Ur with e|e|e|e|e|e
  ·rw[if_pos e,if_pos e]
  ·rw[jN,if_pos e,jN,if_pos e]
  ·rw[jN,jN,if_pos e,jN,jN,if_pos e]
  ·rw[jN,jN,jN,if_pos e,jN,jN,jN,if_pos e]
  ·obtain⟨x,u',hx⟩:=sh.one (by have e:(nth p.aa.nodes a.toNat).kind=5\/(nth p.aa.nodes a.toNat).kind=6\/(nth p.aa.nodes a.toNat).kind=7\/(nth p.aa.nodes a.toNat).kind=8:=e;omega);have u':(au p a).l=[x]:=u';have UO:nth (au p a).l 0=x:=by rw[u'];rfl
   have e1:=aF x k (by rw[u'];simp) hx;rw[UO,e1];rcases e with e|e|e|e<;>simp only[e,Int.reduceEq,↓reduceIte]
  ·obtain⟨x,y,u',hx,hy⟩:=sh.two (.inl e);have u':(au p a).l=[x,y]:=u';have UO:nth (au p a).l 0=x:=by rw[u'];rfl
   have XF:nth (au p a).l 1=y:=by rw[u'];rfl
   have e1:=fun k=>aF x k (by rw[u'];simp) hx
   have e2:=fun k=>aF y k (by rw[u'];simp) hy
   rw[UO,XF];simp only[e,e1,e2,Int.reduceEq,↓reduceIte]
structure fu(p:af):Prop where
 ok:gj p
 neg:∀k,k<p.aa.nodes.length->¬jm (nth p.aa.nodes k).kind->nth p.slots k<=0
 pos:∀k,k<p.aa.nodes.length->jm (nth p.aa.nodes k).kind->0<=nth p.slots k
def A4(p:af)(n:Nat):Prop:=∀(a:Int) (L:List ay),0<=a->a.toNat<p.aa.nodes.length->fq (bW p.aa.nodes a)->a.toNat<n->¬(1000000<L.length+3000*n)->ab prog 241 [.pt 0 0 0 0,rI a] (bU p L) (fun r l=>r=.aQ []/\l=bU p (L++jx p n a L.length))
variable{p:af}{n:Nat}
def mX{a k:Int}(h:cQ (bW p.aa.nodes a)):jx p n a k=bo p n a k:=by have h:cQ (au p a).kind:=h;unfold cQ at h;rw[tD,jN,jN,jN]
def Tn(hp:fu p)(hx:A4 p n)(a:Int)(L:List ay)(h0:0<=a)(hl:a.toNat<p.aa.nodes.length)(hk:(au p a).kind=9)(hn:a.toNat<n+1)(hL:¬(1000000<L.length+3000*(n+1))):ab prog 259 [.pt 0 0 0 0,.agg (eF (au p a))] (bU p L) (fun r l=>r=.aQ []/\l=bU p (L++bo p (n+1) a L.length)):=by
 have ht:=hp.ok.ok.aa;have hb:=(ht.shape a.toNat hl).2.1;obtain⟨x,y,u',Uh,Xg⟩:=(ht.shape a.toNat hl).1.two (.inl hk);have u':(au p a).l=[x,y]:=u';have UO:nth (au p a).l 0=x:=by rw[u'];rfl
 have XF:nth (au p a).l 1=y:=by rw[u'];rfl
 have bx:=hb x (by show x∈(au p a).l;rw[u'];simp);have by_:=hb y (by show y∈(au p a).l;rw[u'];simp);have I':=fun(z:Int) (k:Int) (lo:Nat)=>@l8 p ht n z k lo
 obtain⟨lo,Tv⟩:=(ht.shape a.toNat hl).2.2;have Tv:aL p.aa.nodes lo (au p a).l a.toNat:=Tv;rw[u']at Tv;obtain⟨c1,c2,c3,c4,c5,c6⟩:=kF Tv;obtain⟨d1,d2,d3,d4,d5⟩:=ko c6;have lx:=fun k=>I' x k lo c1 jB Uh c5
 have ly:=fun k=>I' y k _ d1 jB Xg d5
 have hm:=ht.many;have ex:=hx x L bx.1 jB (.inl Uh) jB jB;rw[mX Uh]at ex;have ey:=fun(M:List ay) (hM:M.length<=L.length+2900)=>hx y M by_.1 jB (.inl Xg) jB jB
 have hL:¬(997000<L.length):=jB;clear hx;rename_i Z6;clear Z6;simp only[mX Xg]at ey;have e9:bo p (n+1) a L.length=(let x:=bo p n x L.length;if kX (au p a).name=7 then x++bo p n y (L.length+x.length)++[⟨7,0,0,(au p a).name⟩]else let y:=bo p n y (L.length+x.length+1);x++[iI (kX (au p a).name) (L.length+x.length+1+y.length)]++y):=by rw[lP];simp only[hk,UO,XF,Int.reduceEq,↓reduceIte]
 rw[e9];clear e9;generalize hX:bo p n x (L.length:Int)=X at*;have lX:X.length<=1300:=by have:=lx L.length;rw[hX]at this;omega
 have pt:=fun op=>iV p (L++X) op 0 (by simp only[List.length_append];omega)
 have ey1:=ey (L++X) (by simp only[List.length_append];omega);generalize au p a=nd at*;by_cases k1:nd.name=(⟨#[38,38]⟩:TI)
 ·rw[k1];have hs:kX (⟨#[38,38]⟩:TI)=18:=by unfold kX;rw[if_pos rfl]
  simp only[hs,Int.reduceEq,↓reduceIte];rw[show(L.length:Int)+X.length+1=((L++X++[iI 18 0]).length:Nat) by simp;omega];have ey2:=ey (L++X++[iI 18 0]) (by simp only[List.length_append,List.length_singleton];omega);generalize hY:bo p n y ((L++X++[iI 18 0]).length:Int)=Y at*;have lY:Y.length<=1300:=by have:=ly (L++X++[iI 18 0]).length;rw[hY]at this;omega
  have hh:=BO p (L++X++[iI 18 0]++Y) (L++X).length (by simp only[List.length_append,List.length_singleton];omega) (by simp only[List.length_append,List.length_singleton];omega);rw[show nth (L++X++[iI 18 0]++Y) (L++X).length=iI 18 0 by rw[List.append_assoc];simp[nth]]at hh;have e8:(L++X++[iI 18 0]++Y).set (L++X).length ⟨18,((L++X++[iI 18 0]++Y).length:Nat),0,sE⟩=L++(X++[iI 18 (((L++X++[iI 18 0]).length:Nat)+Y.length)]++Y):=by rw[List.append_assoc,List.set_append_right _ _ jl,Nat.sub_self];simp[iI];omega
  have e8:bU p ((L++X++[iI 18 0]++Y).set (L++X).length { iI 18 0 with a:=((L++X++[iI 18 0]++Y).length:Nat) })=bU p (L++(X++[iI 18 (((L++X++[iI 18 0]).length:Nat)+Y.length)]++Y)):=by rw[<-e8];rfl
  rw[e8,show(L++X).length=L.length+X.length from List.length_append]at hh;clear e8;have Xs:=pt 18;refine aM func259 ntmps259 ?_
  (refine S ?_;try exact jI)
  have d1:(((⟨#[124,124]⟩:TI):TI)=(⟨#[38,38]⟩:TI))=False:=eq_false jC;have k1':(nd.name=(⟨#[38,38]⟩:TI))=True:=eq_true k1
  (have W:=jA k1' (jA u' (d1));repeat' (first|refine aq fun K hK=>?_|refine ap ?_|(refine hK _ _ ?_;clear hK K)|(refine ao ?_ ?_<;>intro hc<;>try exact jz)|refine cm (ex) ?_|refine uy 6 ?_|refine ve [] qW ?_|refine ve [(⟨#[38,38]⟩:TI)] qW ?_|refine py (n:=nd.name) (vs:=[rI 18,rI 19]) [(⟨#[38,38]⟩:TI),(⟨#[124,124]⟩:TI)] (.int .i64 0) (.aQ [rI 18,rB true]) qW jG (by unfold oz;rw[if_pos rfl];simp only[pv,k1,↓reduceIte]) ?_|refine cm (Xs) ?_|refine cm (ey2) ?_|refine cm (hh) ?_|refine ar ?_|exact jI|(clear hK K)))
  (refine aY [] ?_;try simp only[go_sem])
 by_cases k2:nd.name=(⟨#[124,124]⟩:TI)
 ·rw[k2];have hs:kX (⟨#[124,124]⟩:TI)=19:=by unfold kX;rw[if_neg jC,if_pos rfl]
  simp only[hs,Int.reduceEq,↓reduceIte];rw[show(L.length:Int)+X.length+1=((L++X++[iI 19 0]).length:Nat) by simp;omega];have ey2:=ey (L++X++[iI 19 0]) (by simp only[List.length_append,List.length_singleton];omega);generalize hY:bo p n y ((L++X++[iI 19 0]).length:Int)=Y at*;have lY:Y.length<=1300:=by have:=ly (L++X++[iI 19 0]).length;rw[hY]at this;omega
  have hh:=BO p (L++X++[iI 19 0]++Y) (L++X).length (by simp only[List.length_append,List.length_singleton];omega) (by simp only[List.length_append,List.length_singleton];omega);rw[show nth (L++X++[iI 19 0]++Y) (L++X).length=iI 19 0 by rw[List.append_assoc];simp[nth]]at hh;have e8:(L++X++[iI 19 0]++Y).set (L++X).length ⟨19,((L++X++[iI 19 0]++Y).length:Nat),0,sE⟩=L++(X++[iI 19 (((L++X++[iI 19 0]).length:Nat)+Y.length)]++Y):=by rw[List.append_assoc,List.set_append_right _ _ jl,Nat.sub_self];simp[iI];omega
  have e8:bU p ((L++X++[iI 19 0]++Y).set (L++X).length { iI 19 0 with a:=((L++X++[iI 19 0]++Y).length:Nat) })=bU p (L++(X++[iI 19 (((L++X++[iI 19 0]).length:Nat)+Y.length)]++Y)):=by rw[<-e8];rfl
  rw[e8,show(L++X).length=L.length+X.length from List.length_append]at hh;clear e8;have Xs:=pt 19;refine aM func259 ntmps259 ?_
  (refine S ?_;try exact jI)
  have d1:(((⟨#[124,124]⟩:TI):TI)=(⟨#[38,38]⟩:TI))=False:=eq_false jC;have k2':(nd.name=(⟨#[124,124]⟩:TI))=True:=eq_true k2
  (have W:=jA k2' (jA u' (d1));repeat' (first|refine aq fun K hK=>?_|refine ap ?_|(refine hK _ _ ?_;clear hK K)|(refine ao ?_ ?_<;>intro hc<;>try exact jz)|refine cm (ex) ?_|refine uy 6 ?_|refine ve [] qW ?_|refine ve [(⟨#[38,38]⟩:TI)] qW ?_|refine py (n:=nd.name) (vs:=[rI 18,rI 19]) [(⟨#[38,38]⟩:TI),(⟨#[124,124]⟩:TI)] (.int .i64 0) (.aQ [rI 19,rB true]) qW jG (by unfold oz;rw[if_pos rfl];simp only[pv,k2,d1,↓reduceIte]) ?_|refine cm (Xs) ?_|refine cm (ey2) ?_|refine cm (hh) ?_|refine ar ?_|exact jI|(clear hK K)))
  (refine aY [] ?_;try simp only[go_sem])
 have n1:=eq_false k1;have n2:=eq_false k2;have hs:kX nd.name=7:=by unfold kX;rw[if_neg k1,if_neg k2]
 simp only[hs,↓reduceIte];rw[show(L.length:Int)+X.length=((L++X).length:Nat) from jE];generalize hY:bo p n y ((L++X).length:Int)=Y at*;have lY:Y.length<=1300:=by have:=ly (L++X).length;rw[hY]at this;omega
 simp only[<-List.append_assoc];refine aM func259 ntmps259 ?_
 (refine S ?_;try exact jI)
 have d1:(((⟨#[124,124]⟩:TI):TI)=(⟨#[38,38]⟩:TI))=False:=eq_false jC
 (have W:=jA n1 (jA n2 (jA u' (d1)));repeat' (first|refine aq fun K hK=>?_|refine ap ?_|(with_reducible refine gR 6 ?_);refine dE 6 (aW 0 13) mixed ?_|(refine hK _ _ ?_;clear hK K)|(refine ao ?_ ?_<;>intro hc<;>try exact jz)|refine cm (ex) ?_|refine uy 6 ?_|refine ve [] qW ?_|refine ve [(⟨#[38,38]⟩:TI)] qW ?_|refine py (n:=nd.name) (vs:=[rI 18,rI 19]) [(⟨#[38,38]⟩:TI),(⟨#[124,124]⟩:TI)] (.int .i64 0) (.aQ [rI 0,rB false]) qW jG (by unfold oz;rw[if_pos rfl];simp only[pv,k1,k2,↓reduceIte]) ?_|refine cm (ey1) ?_|refine ar ?_|exact jI|(clear hK K)))
 (refine aY [] ?_;try simp only[go_sem])
def CJ(p:af)(f:FuncId)(hf:aU prog f=true)(g:Int->Int->List ay)(l:TG)(L:List ay)(hl:l.length<=1000)(B:Nat)(hB:¬(B<L.length+(bv g L.length l []).length))
  (hc:∀x∈l,∀M:List ay,¬(B<M.length)->ab prog f [.pt 0 0 0 0,rI x] (bU p M) (fun r l=>r=.aQ []/\l=bU p (M++g x M.length))) :
  ab prog 200 [aO eI 1 l,.bd f [.pt 0 0 0 0]] (bU p L) (fun r l'=>r=.aQ []/\l'=bU p (L++bv g L.length l [])):=by
 refine aM func200 ntmps200 ?_;generalize hE:bU p (L++bv g L.length l [])=E;refine S ?_
 (repeat' (first|refine aq fun K hK=>?_|refine ap ?_|(refine hK _ _ ?_;clear hK K)|(refine ao ?_ ?_<;>intro hc<;>try exact jz)|refine ar ?_|exact jI|(clear hK K)))
 refine dV (S:=Nat) [(5,1),(8,8)] (fun k=>k<=l.length) (fun k=>[(8,rI k)]) (fun k=>⟨[0,1],bU p (L++bv g L.length (l.take k) [])⟩) (fun k=>l.length-k) 0 jB (dS (by show _=Hp.mk _ (bU p (L++[]));rw[List.append_nil];rfl) cv) ?_;rintro k hk Kr TR;have T3:=LJ g L.length l k;by_cases O':k<l.length
 ·have WV:=hc (nth l k) (fg O') (L++bv g L.length (l.take k) []) (by rw[List.length_append];omega);have hs:=JE g L.length l k O';rw[List.append_assoc,show((L++bv g L.length (l.take k) []).length:Int)=L.length+(bv g L.length (l.take k) []).length by rw[List.length_append];rfl,<-hs]at WV;generalize hX:bv g L.length (l.take k) []=X at*;generalize hY:bv g L.length (l.take (k+1)) []=Y at*;refine S ?_
  (have W:=hf;repeat' (first|refine aq fun K hK=>?_|refine ap ?_|(refine hK _ _ ?_;clear hK K)|(refine ao ?_ ?_<;>intro hc<;>try exact jz)|refine bm WV ?_|refine ar ?_|exact jI|(clear hK K)))
  refine TR _ _ (eu (k+1) jB jJ (by rw[hY];simp only[bU,kf,List.length_append,List.map_append,List.cons_append,List.nil_append]) cv)
 ·have e:k=l.length:=jB;subst e;rw[List.take_length,hE];refine S ?_
  (repeat' (first|refine aq fun K hK=>?_|refine ap ?_|(refine hK _ _ ?_;clear hK K)|(refine ao ?_ ?_<;>intro hc<;>try exact jz)|refine ar ?_|exact jI|(clear hK K)))
  (refine bV [] ?_ ?_<;>(try simp only[go_sem]))
def QK(n:br)(f:bg):ab prog 273 [.agg (fV f),.pt 4 0 0 0] [(4,.var 116 (eF n))] (fun r l=>r=rB (decide (f.name=n.name))/\l=[(4,.var 116 (eF n))]):=by
 refine aM func273 ntmps273 ?_
 (repeat' (first|refine aq fun K hK=>?_|refine ap ?_|(refine hK _ _ ?_;clear hK K)|(refine ao ?_ ?_<;>intro hc<;>try exact jz)|refine bx 5 ?_|refine ar ?_|exact jI|(clear hK K)))
 (refine aY [.tmp 3] ?_;try simp only[go_sem])
def Qr(n:br)(L:List bg)(k:Nat)(hL:L.length<=1000)(hk:k<L.length)(TV:(nth L k).name=n.name)(VO:∀i,i<k->(nth L i).name≠n.name) :
  ab prog 161 [aO fV 5 L,.dP 273 [.pt 4 0 0 0]] [(4,.var 116 (eF n))] (fun r l=>r=rI k/\l=[(4,.var 116 (eF n))]):=by
 refine aM func161 ntmps161 ?_
 (repeat' (first|refine aq fun K hK=>?_|refine ap ?_|(refine hK _ _ ?_;clear hK K)|(refine ao ?_ ?_<;>intro hc<;>try exact jz)|refine ar ?_|exact jI|(clear hK K)))
 refine dV (S:=Nat) [(4,2),(8,11)] (fun i=>i<=k) (fun i=>[(8,rI i)]) (fun i=>⟨[4],[(4,.var 116 (eF n))]⟩) (fun i=>k-i) 0 jB (dS rfl cv) ?_;rintro i hi Kr TR;have V8:=QK n (nth L i);by_cases e:i=k
 ·subst e;rw[decide_eq_true TV]at V8;refine S ?_
  (repeat' (first|refine aq fun K hK=>?_|refine ap ?_|(refine hK _ _ ?_;clear hK K)|(refine ao ?_ ?_<;>intro hc<;>try exact jz)|refine cl V8 ?_|refine ar ?_|exact jI|(clear hK K)))
  (refine aY [.tmp 4] ?_;try simp only[go_sem])
 ·rw[decide_eq_false (VO i jB)]at V8;refine S ?_
  (repeat' (first|refine aq fun K hK=>?_|refine ap ?_|(refine hK _ _ ?_;clear hK K)|(refine ao ?_ ?_<;>intro hc<;>try exact jz)|refine cl V8 ?_|refine ar ?_|exact jI|(clear hK K)))
  refine TR _ _ (eu (i+1) jB jJ rfl cv)
def Pf(hp:fu p)(hx:A4 p n)(a:Int)(L:List ay)(h0:0<=a)(hl:a.toNat<p.aa.nodes.length)(hk:(au p a).kind=21)(hn:a.toNat<n+1)(hL:¬(1000000<L.length+3000*(n+1))):ab prog 260 [.pt 0 0 0 0,.agg (eF (au p a))] (bU p L) (fun r l=>r=.aQ []/\l=bU p (L++cB p n a L.length)):=by
 have ht:=hp.ok.ok.aa;have haA:=ht.aw;have hm:=ht.many;have hb:=(ht.shape a.toNat hl).2.1;have Un:=(ht.shape a.toNat hl).1.call hk;obtain⟨lo,Tv⟩:=(ht.shape a.toNat hl).2.2;have I':=Bz ht n (L.length:Int) lo hl hk Tv;obtain⟨k,hc⟩:=callee hp.ok hl hk;have Wa:=Qr (au p a) p.aa.aw k jB hc.lt hc.name (fun i hi=>by have:=hp.ok.names.one i k hi hc.lt;rwa [hc.name]at this);have hlc:(cB p n a L.length).length=(bv (bo p n) (L.length:Int) (au p a).l []).length+1:=by unfold cB;simp
 have Vr:=CJ p 241 jD (bo p n) (au p a).l L (by have:=hc.Ba;omega) (1000000-3000*n) jB (fun x Wb M hM=>by have XP:=hb x Wb;have Ua:=Un x Wb;have:=hx x M XP.1 jB (.inl Ua) jB jB;rwa [mX Ua]at this)
 have T9:AA p a=k:=hc.last;unfold cB;rw[T9];have hL:¬(997000<L.length):=jB;rename_i Z6;clear hx Z6;have haB:=hc.Ba;generalize au p a=nd at*;generalize hX:bv (bo p n) (L.length:Int) nd.l []=X at*;simp only[<-List.append_assoc];refine aM func260 ntmps260 ?_;refine S ?_
 (repeat' (first|refine aq fun K hK=>?_|refine ap ?_|(with_reducible refine gR 3 ?_);refine dE 3 (aW 0 15) mixed ?_|(refine hK _ _ ?_;clear hK K)|(refine ao ?_ ?_<;>intro hc<;>try exact jz)|refine aT 4 ?_|refine cm (Vr) ?_|refine cm (Wa) ?_|refine ar ?_|exact jI|(clear hK K)))
 (refine aY [] ?_;try simp only[go_sem])
attribute [local go_sem] iI
def PM(a x:Int)(L X:List ay)(op:Int)(h0:0<=a)(hl:a.toNat<p.aa.nodes.length)(hs:a.toNat<p.slots.length)(u':(au p a).l=[x])(hL:¬(1000000<(L++X).length))
  (hm:oz (au p a).kind [6,7,8,20,5] [rI 10,rI 8,rI 9,rI 13,rI 11] (.raw (.int .i64 0)) true=.aQ [rI op,rB true])
  (ex:ab prog 241 [.pt 0 0 0 0,rI x] (bU p L) (fun r l=>r=.aQ []/\l=bU p (L++X))) :
  ab prog 241 [.pt 0 0 0 0,rI a] (bU p L) (fun r l=>r=.aQ []/\l=bU p (L++X++[iI op (if nth p.slots a.toNat<0 then 0 else nth p.slots a.toNat)])):=by
 have p':=oc p L a h0 hl;have Xs:=fun v=>iV p (L++X) op v jB
 generalize au p a=nd at*;refine aM func241 ntmps241 ?_;refine S ?_
 (have W:=u';repeat' (first|refine aq fun K hK=>?_|refine ap ?_|(refine hK _ _ ?_;clear hK K)|(refine ao ?_ ?_<;>intro hc<;>try exact jz)|refine al 5 ?_|refine cm (p') ?_|refine uy 6 ?_|refine k8 [] jK ?_|refine k8 [6] jK ?_|refine k8 [6,7] jK ?_|refine k8 [6,7,8] jK ?_|refine k8 [6,7,8,20] jK ?_|refine zQ (n:=nd.kind) (vs:=[rI 10,rI 8,rI 9,rI 13,rI 11]) [6,7,8,20,5] (.int .i64 0) (.aQ [rI op,rB true]) jK jG hm ?_|refine cm (ex) ?_|refine cm (Xs _) ?_|refine ar ?_|exact jI|(clear hK K)))
 (refine aY [] ?_;try simp only[go_sem])
def N3(a:Int)(L X:List ay)(h0:0<=a)(hl:a.toNat<p.aa.nodes.length)
  (hm:oz (au p a).kind [6,7,8,20,5] [rI 10,rI 8,rI 9,rI 13,rI 11] (.raw (.int .i64 0)) true=.aQ [rI 0,rB false]) (hk:(au p a).kind=9)
  (ex:ab prog 259 [.pt 0 0 0 0,.agg (eF (au p a))] (bU p L) (fun r l=>r=.aQ []/\l=bU p (L++X))) :
  ab prog 241 [.pt 0 0 0 0,rI a] (bU p L) (fun r l=>r=.aQ []/\l=bU p (L++X)):=by
 have p':=oc p L a h0 hl;generalize au p a=nd at*;rw[hk]at hm;refine aM func241 ntmps241 ?_;refine S ?_
 (have W:=hk;repeat' (first|refine aq fun K hK=>?_|refine ap ?_|(refine hK _ _ ?_;clear hK K)|(refine ao ?_ ?_<;>intro hc<;>try exact jz)|refine al 5 ?_|refine cm (p') ?_|refine uy 6 ?_|refine k8 [] jK ?_|refine k8 [6] jK ?_|refine k8 [6,7] jK ?_|refine k8 [6,7,8] jK ?_|refine k8 [6,7,8,20] jK ?_|refine zQ (n:=9) (vs:=[rI 10,rI 8,rI 9,rI 13,rI 11]) [6,7,8,20,5] (.int .i64 0) (.aQ [rI 0,rB false]) jK jG hm ?_|refine cm (ex) ?_|refine ar ?_|exact jI|(clear hK K)))
 (refine aY [] ?_;try simp only[go_sem])
def Lp(a:Int)(L X:List ay)(h0:0<=a)(hl:a.toNat<p.aa.nodes.length)
  (hm:oz (au p a).kind [6,7,8,20,5] [rI 10,rI 8,rI 9,rI 13,rI 11] (.raw (.int .i64 0)) true=.aQ [rI 0,rB false]) (hk:(au p a).kind=21)
  (ex:ab prog 260 [.pt 0 0 0 0,.agg (eF (au p a))] (bU p L) (fun r l=>r=.aQ []/\l=bU p (L++X))) :
  ab prog 241 [.pt 0 0 0 0,rI a] (bU p L) (fun r l=>r=.aQ []/\l=bU p (L++X)):=by
 have p':=oc p L a h0 hl;generalize au p a=nd at*;rw[hk]at hm;refine aM func241 ntmps241 ?_;refine S ?_
 (have W:=hk;repeat' (first|refine aq fun K hK=>?_|refine ap ?_|(refine hK _ _ ?_;clear hK K)|(refine ao ?_ ?_<;>intro hc<;>try exact jz)|refine al 5 ?_|refine cm (p') ?_|refine uy 6 ?_|refine k8 [] jK ?_|refine k8 [6] jK ?_|refine k8 [6,7] jK ?_|refine k8 [6,7,8] jK ?_|refine k8 [6,7,8,20] jK ?_|refine zQ (n:=21) (vs:=[rI 10,rI 8,rI 9,rI 13,rI 11]) [6,7,8,20,5] (.int .i64 0) (.aQ [rI 0,rB false]) jK jG hm ?_|refine cm (ex) ?_|refine ar ?_|exact jI|(clear hK K)))
 (refine aY [] ?_;try simp only[go_sem])
def Si(a:Int)(L X:List ay)(h0:0<=a)(hl:a.toNat<p.aa.nodes.length)
  (hm:oz (au p a).kind [6,7,8,20,5] [rI 10,rI 8,rI 9,rI 13,rI 11] (.raw (.int .i64 0)) true=.aQ [rI 0,rB false]) (hk:(au p a).kind≠9) (TY:(au p a).kind≠21)
  (ex:ab prog 261 [.pt 0 0 0 0,.agg (eF (au p a)),rI a] (bU p L) (fun r l=>r=.aQ []/\l=bU p (L++X))) :
  ab prog 241 [.pt 0 0 0 0,rI a] (bU p L) (fun r l=>r=.aQ []/\l=bU p (L++X)):=by
 have p':=oc p L a h0 hl;generalize au p a=nd at*;have n1:=eq_false hk;have n2:=eq_false TY;refine aM func241 ntmps241 ?_;refine S ?_
 (have W:=jA n1 n2;repeat' (first|refine aq fun K hK=>?_|refine ap ?_|(refine hK _ _ ?_;clear hK K)|(refine ao ?_ ?_<;>intro hc<;>try exact jz)|refine al 5 ?_|refine cm (p') ?_|refine uy 6 ?_|refine k8 [] jK ?_|refine k8 [6] jK ?_|refine k8 [6,7] jK ?_|refine k8 [6,7,8] jK ?_|refine k8 [6,7,8,20] jK ?_|refine zQ (n:=nd.kind) (vs:=[rI 10,rI 8,rI 9,rI 13,rI 11]) [6,7,8,20,5] (.int .i64 0) (.aQ [rI 0,rB false]) jK jG hm ?_|refine cm (ex) ?_|refine ar ?_|exact jI|(clear hK K)))
 (refine aY [] ?_;try simp only[go_sem])
def OQ(ht:aR p.aa)(n m:Nat)(a k:Int)(hl:a.toNat<p.aa.nodes.length)(hk:(au p a).kind=21)(hn:a.toNat<=n)(hm:a.toNat<=m):cB p n a k=cB p m a k:=by
 have hb:=(ht.shape a.toNat hl).2.1;have Un:=(ht.shape a.toNat hl).1.call hk;unfold cB;rw[HA (au p a).l k [] fun x hx j=>by have XP:=hb x hx;exact Bn ht n m x j XP.1 jB (Un x hx) jB jB]
theorem IG{p:af}(hp:fu p):∀n,A4 p n
 |0=>fun a L h0 hl hk hn hL=>by omega
 |n+1=>fun a L h0 hl hk hn hL=>by
  have hx:=IG hp n;have ht:=hp.ok.ok.aa;have hm:=ht.many;have hb:=(ht.shape a.toNat hl).2.1;have UM:p.slots.length=p.aa.nodes.length:=hp.ok.ok.slots;have Wi:p.types.length=p.aa.nodes.length:=hp.ok.ok.types;have sh:=(ht.shape a.toNat hl).1;have T4:fq (au p a).kind:=hk;unfold fq cQ at T4;have aF:∀x k,x∈(au p a).l->cQ (bW p.aa.nodes x)->bo p (n+1) x k=bo p n x k:=fun x k hx Ua=>by have:=hb x hx;exact Bn ht (n+1) n x k this.1 jB Ua jB jB
  by_cases e21:(au p a).kind=21
  ·have h1:=Pf hp hx a L h0 hl e21 hn jB;rw[show jx p (n+1) a L.length=cB p n a L.length by rw[tD,jN,jN,if_pos e21];exact OQ ht _ _ a _ hl e21 jB jB];exact Lp a L _ h0 hl (by rw[e21];rfl) e21 h1
  by_cases e9:(au p a).kind=9
  ·have h1:=Tn hp hx a L h0 hl e9 hn jB;rw[mX (show cQ _ by unfold cQ;show 1<=(au p a).kind/\(au p a).kind<=9;omega)];exact N3 a L _ h0 hl (by rw[e9];rfl) e9 h1
  have Wj:∀op k,(au p a).kind=k->(k=5\/k=6\/k=7\/k=8\/k=20)->oz k [6,7,8,20,5] [rI 10,rI 8,rI 9,rI 13,rI 11] (.raw (.int .i64 0)) true=.aQ [rI op,rB true]->∃x X,(au p a).l=[x]/\bo p n x L.length=X/\bo p (n+1) x L.length=X/\
    ab prog 241 [.pt 0 0 0 0,rI a] (bU p L) (fun r l=>r=.aQ []/\l=bU p (L++(X++[iI op (if nth p.slots a.toNat<0 then 0 else nth p.slots a.toNat)]))):=fun op k e hk5 hm5=>by
   obtain⟨x,u',Uh⟩:=sh.one (by have e:(nth p.aa.nodes a.toNat).kind=k:=e;omega);have u':(au p a).l=[x]:=u';have XP:=hb x (by show x∈(au p a).l;rw[u'];simp);obtain⟨lo,Tv⟩:=(ht.shape a.toNat hl).2.2;have Tv:aL p.aa.nodes lo (au p a).l a.toNat:=Tv;rw[u']at Tv;obtain⟨d1,d2,d3,d4,d5⟩:=ko Tv;have lx:=l8 ht n x L.length lo d1 jB Uh d5;have ex:=hx x L XP.1 jB (.inl Uh) jB jB;rw[mX Uh]at ex;refine⟨x,bo p n x L.length,u',rfl,aF x _ (by rw[u'];simp) Uh,?_⟩;rw[<-List.append_assoc];exact PM a x L _ op h0 hl jB u' (by rw[List.length_append];omega) (by rw[e];exact hm5) ex
  have neg:(au p a).kind=6\/(au p a).kind=7\/(au p a).kind=8\/(au p a).kind=20->(if nth p.slots a.toNat<0 then 0 else nth p.slots a.toNat)=0:=fun e=>by have:=hp.neg a.toNat hl (by unfold jm;have e:(nth p.aa.nodes a.toNat).kind=6\/(nth p.aa.nodes a.toNat).kind=7\/(nth p.aa.nodes a.toNat).kind=8\/(nth p.aa.nodes a.toNat).kind=20:=e;omega);split<;>omega
  by_cases e5:(au p a).kind=5
  ·obtain⟨x,X,h1,h2,Yi,h3⟩:=Wj 11 5 e5 jB rfl;have hps:=hp.pos a.toNat hl (by unfold jm;have e:(nth p.aa.nodes a.toNat).kind=5:=e5;omega);rw[jN]at h3;rw[mX (show cQ _ by unfold cQ;show 1<=(au p a).kind/\(au p a).kind<=9;omega),lP];simp only[e5,h1,Int.reduceEq,↓reduceIte];rw[show nth [x] 0=x from rfl,h2];exact h3
  by_cases e6:(au p a).kind=6
  ·obtain⟨x,X,h1,h2,Yi,h3⟩:=Wj 10 6 e6 jB rfl;rw[neg jB]at h3;rw[mX (show cQ _ by unfold cQ;show 1<=(au p a).kind/\(au p a).kind<=9;omega),lP];simp only[e6,h1,Int.reduceEq,↓reduceIte];rw[show nth [x] 0=x from rfl,h2];exact h3
  by_cases e7:(au p a).kind=7
  ·obtain⟨x,X,h1,h2,Yi,h3⟩:=Wj 8 7 e7 jB rfl;rw[neg jB]at h3;rw[mX (show cQ _ by unfold cQ;show 1<=(au p a).kind/\(au p a).kind<=9;omega),lP];simp only[e7,h1,Int.reduceEq,↓reduceIte];rw[show nth [x] 0=x from rfl,h2];exact h3
  by_cases e8:(au p a).kind=8
  ·obtain⟨x,X,h1,h2,Yi,h3⟩:=Wj 9 8 e8 jB rfl;rw[neg jB]at h3;rw[mX (show cQ _ by unfold cQ;show 1<=(au p a).kind/\(au p a).kind<=9;omega),lP];simp only[e8,h1,Int.reduceEq,↓reduceIte];rw[show nth [x] 0=x from rfl,h2];exact h3
  by_cases e20:(au p a).kind=20
  ·obtain⟨x,X,h1,h2,Yi,h3⟩:=Wj 13 20 e20 jB rfl;rw[neg jB]at h3;rw[tD];simp only[e20,h1,Int.reduceEq,↓reduceIte];rw[show nth [x] 0=x from rfl,Yi];exact h3
  have hlf:=OJ p L a h0 jB jB jB;rw[show jx p (n+1) a L.length=zO p a by unfold zO;have Ur:(au p a).kind=1\/(au p a).kind=2\/(au p a).kind=3\/(au p a).kind=4\/(au p a).kind=19:=jB;rcases Ur with e|e|e|e|e<;>(rw[tD,lP p n a];simp only[e,Int.reduceEq,↓reduceIte])]
  exact Si a L _ h0 hl (by have Ur:(au p a).kind=1\/(au p a).kind=2\/(au p a).kind=3\/(au p a).kind=4\/(au p a).kind=19:=jB;rcases Ur with e|e|e|e|e<;>(rw[e];rfl)) e9 e21 hlf
attribute [local go_sem] iI
def Dx(p:af)(n:Nat):Prop:=∀(a:Int) (L:List ay),0<=a->a.toNat<p.aa.nodes.length->fw (bW p.aa.nodes a)->a.toNat<n->¬(1000000<L.length+3000*n)->ab prog 202 [.pt 0 0 0 0,rI a] (bU p L) (fun r l=>r=.aQ []/\l=bU p (L++gg p n a L.length))
def Jp(ht:aR p.aa)(n:Nat)(b:Int)(k:Int)(lo:Nat)(b0:0<=b)(b1:b.toNat<p.aa.nodes.length)(b2:bW p.aa.nodes b=18)(b3:aL p.aa.nodes lo (au p b).l b.toNat):(bv (gg p n) k (au p b).l []).length+4*lo<=4*b.toNat:=
 wF (f:=gg p n) (au p b).l k lo b.toNat b3 fun x hx k lo WV=>by have hb:=(ht.shape b.toNat b1).2.1 x hx;exact AR ht n x k lo hb.1 jB ((ht.shape b.toNat b1).1.block b2 x hx) WV
def zE(ht:aR p.aa)(n:Nat)(b:Int)(k:Int)(b0:0<=b)(b1:b.toNat<p.aa.nodes.length)(b2:bW p.aa.nodes b=18):(bv (gg p n) k (au p b).l []).length<=1200:=by obtain⟨lo,b3⟩:=(ht.shape b.toNat b1).2.2;have hm:=ht.many;have:=Jp ht n b k lo b0 b1 b2 b3;omega
def B7(hp:fu p)(hs:Dx p n)(b:Int)(L:List ay)(h0:0<=b)(hl:b.toNat<p.aa.nodes.length)(hk:bW p.aa.nodes b=18)(hn:b.toNat<=n)(hL:¬(998700<L.length+3000*n)) :
  ab prog 159 [.pt 0 0 0 0,rI b] (bU p L) (fun r l=>r=.aQ []/\l=bU p (L++bv (gg p n) L.length (au p b).l [])):=by
 have ht:=hp.ok.ok.aa;have hm:=ht.many;have hb:=(ht.shape b.toNat hl).2.1;have Un:=(ht.shape b.toNat hl).1.block hk;have I':=zE ht n b L.length h0 hl hk;obtain⟨lo,Tv⟩:=(ht.shape b.toNat hl).2.2;have Tx:lo+(au p b).l.length<=b.toNat:=C4 Tv;have p':=oc p L b h0 hl;have Vr:=CJ p 202 jD (gg p n) (au p b).l L jB (1000000-3000*n) jB (fun x Wb M hM=>by have XP:=hb x Wb;exact hs x M XP.1 jB (Un x Wb) jB jB)
 clear hs;generalize au p b=nd at*;generalize hX:bv (gg p n) L.length nd.l []=X at*;refine aM func159 ntmps159 ?_;refine S ?_
 (repeat' (first|refine aq fun K hK=>?_|refine ap ?_|(refine hK _ _ ?_;clear hK K)|(refine ao ?_ ?_<;>intro hc<;>try exact jz)|refine cm (p') ?_|refine cm (Vr) ?_|refine ar ?_|exact jI|(clear hK K)))
 (refine aY [] ?_;try simp only[go_sem])
def Ti(L X Y:List ay)(op v:Int)(k:Nat)(hk:k=L.length+X.length):(L++X++[iI op 0]++Y).set k { iI op 0 with a:=v }=L++X++[iI op v]++Y:=by subst hk;rw[List.append_assoc (L++X),List.set_append_right _ _ jE];simp[iI]
def Mt(L X Y:List ay)(x:ay)(k:Nat)(hk:k=L.length+X.length):nth (L++X++[x]++Y) k=x:=by subst hk;rw[List.append_assoc (L++X)];simp[nth]
def yJ(p:af)(L X Y:List ay)(op:Int)(k:Nat)(hk:k=L.length+X.length)(hL:¬(1000000<L.length+X.length+1+Y.length)) :
  ab prog 258 [.pt 0 0 0 0,rI k] (bU p (L++X++[iI op 0]++Y)) (fun r l=>r=.aQ []/\l=bU p (L++X++[iI op (L.length+X.length+1+Y.length:Nat)]++Y)):=by
 have h:=BO p (L++X++[iI op 0]++Y) k (by simp only[List.length_append,List.length_singleton];omega) (by simp only[List.length_append,List.length_singleton];omega);rw[Mt L X Y _ k hk,Ti L X Y op _ k hk]at h;rwa [show(L++X++[iI op 0]++Y).length=L.length+X.length+1+Y.length by simp only[List.length_append,List.length_singleton]]at h
def Rp(nd:br)(x b:Int)(L X B:List ay)(mark:Int)(hL:¬(999700<L.length+X.length+B.length))(hk:nd.kind=16)(u':nd.l=[x,b])
  (ex:ab prog 241 [.pt 0 0 0 0,rI x] (bU p L) (fun r l=>r=.aQ []/\l=bU p (L++X)))
  (eb:ab prog 159 [.pt 0 0 0 0,rI b] (bU p (L++X++[iI 17 0])) (fun r l=>r=.aQ []/\l=bU p (L++X++[iI 17 0]++B))) :
  ab prog 240 [.pt 0 0 0 0,.agg (eF nd),rI mark] (bU p L) (fun r l=>r=.aQ []/\l=bU p (L++X++[iI 17 (L.length+X.length+1+(B.length+1):Nat)]++(B++[iI 16 mark]))):=by
 have h1:=iV p (L++X) 17 0 (by simp only[List.length_append];omega);have h2:=iV p (L++X++[iI 17 0]++B) 16 mark (by simp only[List.length_append,List.length_singleton];omega);have h3:=yJ p L X (B++[iI 16 mark]) 17 (L.length+X.length) rfl (by simp only[List.length_append,List.length_singleton];omega);rw[show(B++[iI 16 mark]).length=B.length+1 from jE]at h3;simp only[<-List.append_assoc]at h3 ⊢;refine aM func240 ntmps240 ?_;refine S ?_
 (have W:=jA hk u';repeat' (first|refine aq fun K hK=>?_|refine ap ?_|(refine hK _ _ ?_;clear hK K)|(refine ao ?_ ?_<;>intro hc<;>try exact jz)|refine bx 5 ?_|refine cm (ex) ?_|refine cm (h1) ?_|refine cm (eb) ?_|refine cm (h2) ?_|refine cm (h3) ?_|refine ar ?_|exact jI|(clear hK K)))
 (refine aY [] ?_;try simp only[go_sem])
def MM(nd:br)(x b:Int)(L X B:List ay)(mark:Int)(hL:¬(999700<L.length+X.length+B.length))(hk:nd.kind≠16)(u':nd.l=[x,b])
  (ex:ab prog 241 [.pt 0 0 0 0,rI x] (bU p L) (fun r l=>r=.aQ []/\l=bU p (L++X)))
  (eb:ab prog 159 [.pt 0 0 0 0,rI b] (bU p (L++X++[iI 17 0])) (fun r l=>r=.aQ []/\l=bU p (L++X++[iI 17 0]++B))) :
  ab prog 240 [.pt 0 0 0 0,.agg (eF nd),rI mark] (bU p L) (fun r l=>r=.aQ []/\l=bU p (L++X++[iI 17 (L.length+X.length+1+B.length:Nat)]++B)):=by
 have h1:=iV p (L++X) 17 0 (by simp only[List.length_append];omega);have h3:=yJ p L X B 17 (L.length+X.length) rfl jB;have n1:=eq_false hk;refine aM func240 ntmps240 ?_;refine S ?_
 (have W:=jA n1 u';repeat' (first|refine aq fun K hK=>?_|refine ap ?_|(refine hK _ _ ?_;clear hK K)|(refine ao ?_ ?_<;>intro hc<;>try exact jz)|refine bx 5 ?_|refine cm (ex) ?_|refine cm (h1) ?_|refine cm (eb) ?_|refine cm (h3) ?_|refine ar ?_|exact jI|(clear hK K)))
 (refine aY [] ?_;try simp only[go_sem])
def Pj(nd:br)(x b d:Int)(L X B D:List ay)(mark:Int)(hL:¬(999700<L.length+X.length+B.length+D.length))(hk:nd.kind≠16)(u':nd.l=[x,b,d])
  (ex:ab prog 241 [.pt 0 0 0 0,rI x] (bU p L) (fun r l=>r=.aQ []/\l=bU p (L++X)))
  (eb:ab prog 159 [.pt 0 0 0 0,rI b] (bU p (L++X++[iI 17 0])) (fun r l=>r=.aQ []/\l=bU p (L++X++[iI 17 0]++B)))
  (ed:ab prog 159 [.pt 0 0 0 0,rI d] (bU p (L++X++[iI 17 (L.length+X.length+1+(B.length+1):Nat)]++B++[iI 16 0])) (fun r l=>r=.aQ []/\l=bU p (L++X++[iI 17 (L.length+X.length+1+(B.length+1):Nat)]++B++[iI 16 0]++D))) :
  ab prog 240 [.pt 0 0 0 0,.agg (eF nd),rI mark] (bU p L) (fun r l=>r=.aQ []/\l=bU p (L++X++[iI 17 (L.length+X.length+1+(B.length+1):Nat)]++(B++[iI 16 (L.length+X.length+1+B.length+1+D.length:Nat)])++D)):=by
 have h1:=iV p (L++X) 17 0 (by simp only[List.length_append];omega);have h2:=iV p (L++X++[iI 17 0]++B) 16 0 (by simp only[List.length_append,List.length_singleton];omega);have h3:=yJ p L X (B++[iI 16 0]) 17 (L.length+X.length) rfl (by simp only[List.length_append,List.length_singleton];omega);rw[show(B++[iI 16 0]).length=B.length+1 from jE]at h3;have h4:=yJ p (L++X++[iI 17 (L.length+X.length+1+(B.length+1):Nat)]) B D 16 (L.length+X.length+1+B.length) (by simp only[List.length_append,List.length_singleton]) (by simp only[List.length_append,List.length_singleton];omega);rw[show(L++X++[iI 17 (L.length+X.length+1+(B.length+1):Nat)]).length=L.length+X.length+1 by simp only[List.length_append,List.length_singleton]]at h4;simp only[<-List.append_assoc]at h3 h4 ⊢;have n1:=eq_false hk;refine aM func240 ntmps240 ?_;refine S ?_
 (have W:=jA n1 u';repeat' (first|refine aq fun K hK=>?_|refine ap ?_|(refine hK _ _ ?_;clear hK K)|(refine ao ?_ ?_<;>intro hc<;>try exact jz)|refine bx 5 ?_|refine cm (ex) ?_|refine cm (h1) ?_|refine cm (eb) ?_|refine cm (h2) ?_|refine cm (h3) ?_|refine cm (ed) ?_|refine cm (h4) ?_|refine ar ?_|exact jI|(clear hK K)))
 (refine aY [] ?_;try simp only[go_sem])
attribute [local go_sem] iI
def LG(a:Int)(L Y:List ay)(h0:0<=a)(hl:a.toNat<p.aa.nodes.length)(hs:a.toNat<p.slots.length)(hL:¬(999900<L.length+Y.length))(hk:(au p a).kind=10)
  (Vr:ab prog 200 [aO eI 1 (au p a).l,.bd 241 [.pt 0 0 0 0]] (bU p (L++[iI 1 a])) (fun r l=>r=.aQ []/\l=bU p (L++[iI 1 a]++Y))) :
  ab prog 202 [.pt 0 0 0 0,rI a] (bU p L) (fun r l=>r=.aQ []/\l=bU p (L++[iI 1 a]++Y++[iI 6 (nth p.slots a.toNat)])):=by
 have p':=oc p L a h0 hl;have h1:=iV p L 1 a jB;have h2:=iV p (L++[iI 1 a]++Y) 6 (nth p.slots a.toNat) (by simp only[List.length_append,List.length_singleton];omega);generalize au p a=nd at*;refine aM func202 ntmps202 ?_;refine S ?_
 (have W:=hk;repeat' (first|refine aq fun K hK=>?_|refine ap ?_|(refine hK _ _ ?_;clear hK K)|(refine ao ?_ ?_<;>intro hc<;>try exact jz)|refine al 5 ?_|refine cm (p') ?_|refine cm (h1) ?_|refine cm (Vr) ?_|refine cm (h2) ?_|refine ar ?_|exact jI|(clear hK K)))
 (refine aY [] ?_;try simp only[go_sem])
def Tq(a:Int)(L Y:List ay)(h0:0<=a)(hl:a.toNat<p.aa.nodes.length)(hs:a.toNat<p.slots.length)(hL:¬(999900<L.length+Y.length))(hk:(au p a).kind=11)
  (Vr:ab prog 200 [aO eI 1 (au p a).l,.bd 241 [.pt 0 0 0 0]] (bU p (L++[iI 1 a])) (fun r l=>r=.aQ []/\l=bU p (L++[iI 1 a]++Y))) :
  ab prog 202 [.pt 0 0 0 0,rI a] (bU p L) (fun r l=>r=.aQ []/\l=bU p (L++[iI 1 a]++Y++[iI 6 (nth p.slots a.toNat)])):=by
 have p':=oc p L a h0 hl;have h1:=iV p L 1 a jB;have h2:=iV p (L++[iI 1 a]++Y) 6 (nth p.slots a.toNat) (by simp only[List.length_append,List.length_singleton];omega);generalize au p a=nd at*;refine aM func202 ntmps202 ?_;refine S ?_
 (have W:=hk;repeat' (first|refine aq fun K hK=>?_|refine ap ?_|(refine hK _ _ ?_;clear hK K)|(refine ao ?_ ?_<;>intro hc<;>try exact jz)|refine al 5 ?_|refine cm (p') ?_|refine cm (h1) ?_|refine cm (Vr) ?_|refine cm (h2) ?_|refine ar ?_|exact jI|(clear hK K)))
 (refine aY [] ?_;try simp only[go_sem])
def Lv(a:Int)(L Y:List ay)(h0:0<=a)(hl:a.toNat<p.aa.nodes.length)(hs:a.toNat<p.slots.length)(hL:¬(999900<L.length+Y.length))(hk:(au p a).kind=12)
  (Vr:ab prog 200 [aO eI 1 (au p a).l,.bd 241 [.pt 0 0 0 0]] (bU p (L++[iI 1 a])) (fun r l=>r=.aQ []/\l=bU p (L++[iI 1 a]++Y))) :
  ab prog 202 [.pt 0 0 0 0,rI a] (bU p L) (fun r l=>r=.aQ []/\l=bU p (L++[iI 1 a]++Y++[iI 12 (nth p.slots a.toNat)])):=by
 have p':=oc p L a h0 hl;have h1:=iV p L 1 a jB;have h2:=iV p (L++[iI 1 a]++Y) 12 (nth p.slots a.toNat) (by simp only[List.length_append,List.length_singleton];omega);generalize au p a=nd at*;refine aM func202 ntmps202 ?_;refine S ?_
 (have W:=hk;repeat' (first|refine aq fun K hK=>?_|refine ap ?_|(refine hK _ _ ?_;clear hK K)|(refine ao ?_ ?_<;>intro hc<;>try exact jz)|refine al 5 ?_|refine cm (p') ?_|refine cm (h1) ?_|refine cm (Vr) ?_|refine cm (h2) ?_|refine ar ?_|exact jI|(clear hK K)))
 (refine aY [] ?_;try simp only[go_sem])
def RF(a:Int)(L Y:List ay)(h0:0<=a)(hl:a.toNat<p.aa.nodes.length)(hs:a.toNat<p.slots.length)(hL:¬(999900<L.length+Y.length))(hk:(au p a).kind=13)
  (Vr:ab prog 200 [aO eI 1 (au p a).l,.bd 241 [.pt 0 0 0 0]] (bU p (L++[iI 1 a])) (fun r l=>r=.aQ []/\l=bU p (L++[iI 1 a]++Y))) :
  ab prog 202 [.pt 0 0 0 0,rI a] (bU p L) (fun r l=>r=.aQ []/\l=bU p (L++[iI 1 a]++Y++[iI 23 (0)])):=by
 have p':=oc p L a h0 hl;have h1:=iV p L 1 a jB;have h2:=iV p (L++[iI 1 a]++Y) 23 (0) (by simp only[List.length_append,List.length_singleton];omega);generalize au p a=nd at*;refine aM func202 ntmps202 ?_;refine S ?_
 (have W:=hk;repeat' (first|refine aq fun K hK=>?_|refine ap ?_|(refine hK _ _ ?_;clear hK K)|(refine ao ?_ ?_<;>intro hc<;>try exact jz)|refine al 5 ?_|refine cm (p') ?_|refine cm (h1) ?_|refine cm (Vr) ?_|refine cm (h2) ?_|refine ar ?_|exact jI|(clear hK K)))
 (refine aY [] ?_;try simp only[go_sem])
def PT(a:Int)(L Y:List ay)(h0:0<=a)(hl:a.toNat<p.aa.nodes.length)(hs:a.toNat<p.slots.length)(hL:¬(999900<L.length+Y.length))(hk:(au p a).kind=14)
  (Vr:ab prog 200 [aO eI 1 (au p a).l,.bd 241 [.pt 0 0 0 0]] (bU p (L++[iI 1 a])) (fun r l=>r=.aQ []/\l=bU p (L++[iI 1 a]++Y))) :
  ab prog 202 [.pt 0 0 0 0,rI a] (bU p L) (fun r l=>r=.aQ []/\l=bU p (L++[iI 1 a]++Y++[iI 15 (0)])):=by
 have p':=oc p L a h0 hl;have h1:=iV p L 1 a jB;have h2:=iV p (L++[iI 1 a]++Y) 15 (0) (by simp only[List.length_append,List.length_singleton];omega);generalize au p a=nd at*;refine aM func202 ntmps202 ?_;refine S ?_
 (have W:=hk;repeat' (first|refine aq fun K hK=>?_|refine ap ?_|(refine hK _ _ ?_;clear hK K)|(refine ao ?_ ?_<;>intro hc<;>try exact jz)|refine al 5 ?_|refine cm (p') ?_|refine cm (h1) ?_|refine cm (Vr) ?_|refine cm (h2) ?_|refine ar ?_|exact jI|(clear hK K)))
 (refine aY [] ?_;try simp only[go_sem])
def LS(a:Int)(L Y:List ay)(h0:0<=a)(hl:a.toNat<p.aa.nodes.length)(hs:a.toNat<p.slots.length)(hL:¬(999900<L.length+Y.length))(hk:(au p a).kind=17)(Vx:(au p a).l=[])
  (Vr:ab prog 200 [aO eI 1 (au p a).l,.bd 241 [.pt 0 0 0 0]] (bU p (L++[iI 1 a])) (fun r l=>r=.aQ []/\l=bU p (L++[iI 1 a]++Y))) :
  ab prog 202 [.pt 0 0 0 0,rI a] (bU p L) (fun r l=>r=.aQ []/\l=bU p (L++[iI 1 a]++Y++[iI 22 (0)])):=by
 have p':=oc p L a h0 hl;have h1:=iV p L 1 a jB;have h2:=iV p (L++[iI 1 a]++Y) 22 (0) (by simp only[List.length_append,List.length_singleton];omega);generalize au p a=nd at*;rw[Vx]at Vr;refine aM func202 ntmps202 ?_;refine S ?_
 (have W:=jA hk Vx;repeat' (first|refine aq fun K hK=>?_|refine ap ?_|(refine hK _ _ ?_;clear hK K)|(refine ao ?_ ?_<;>intro hc<;>try exact jz)|refine al 5 ?_|refine cm (p') ?_|refine cm (h1) ?_|refine cm (Vr) ?_|refine cm (h2) ?_|refine ar ?_|exact jI|(clear hK K)))
 (refine aY [] ?_;try simp only[go_sem])
def O7(a:Int)(L Y:List ay)(h0:0<=a)(hl:a.toNat<p.aa.nodes.length)(hs:a.toNat<p.slots.length)(hL:¬(999900<L.length+Y.length))(hk:(au p a).kind=17)(x:Int)(Vx:(au p a).l=[x])
  (Vr:ab prog 200 [aO eI 1 (au p a).l,.bd 241 [.pt 0 0 0 0]] (bU p (L++[iI 1 a])) (fun r l=>r=.aQ []/\l=bU p (L++[iI 1 a]++Y))) :
  ab prog 202 [.pt 0 0 0 0,rI a] (bU p L) (fun r l=>r=.aQ []/\l=bU p (L++[iI 1 a]++Y++[iI 21 (0)])):=by
 have p':=oc p L a h0 hl;have h1:=iV p L 1 a jB;have h2:=iV p (L++[iI 1 a]++Y) 21 (0) (by simp only[List.length_append,List.length_singleton];omega);generalize au p a=nd at*;rw[Vx]at Vr;refine aM func202 ntmps202 ?_;refine S ?_
 (have W:=jA hk Vx;repeat' (first|refine aq fun K hK=>?_|refine ap ?_|(refine hK _ _ ?_;clear hK K)|(refine ao ?_ ?_<;>intro hc<;>try exact jz)|refine al 5 ?_|refine cm (p') ?_|refine cm (h1) ?_|refine cm (Vr) ?_|refine cm (h2) ?_|refine ar ?_|exact jI|(clear hK K)))
 (refine aY [] ?_;try simp only[go_sem])
def Bt(a:Int)(L Y:List ay)(h0:0<=a)(hl:a.toNat<p.aa.nodes.length)(hL:¬(999900<L.length+Y.length))(hk:(au p a).kind=15\/(au p a).kind=16)
  (ht:ab prog 240 [.pt 0 0 0 0,.agg (eF (au p a)),rI L.length] (bU p (L++[iI 1 a])) (fun r l=>r=.aQ []/\l=bU p (L++[iI 1 a]++Y))) :
  ab prog 202 [.pt 0 0 0 0,rI a] (bU p L) (fun r l=>r=.aQ []/\l=bU p (L++[iI 1 a]++Y)):=by
 have p':=oc p L a h0 hl;have h1:=iV p L 1 a jB;generalize au p a=nd at*;rcases hk with hk|hk
 ·refine aM func202 ntmps202 ?_;refine S ?_
  (have W:=hk;repeat' (first|refine aq fun K hK=>?_|refine ap ?_|(refine hK _ _ ?_;clear hK K)|(refine ao ?_ ?_<;>intro hc<;>try exact jz)|refine al 5 ?_|refine cm (p') ?_|refine cm (h1) ?_|refine cm (ht) ?_|refine ar ?_|exact jI|(clear hK K)))
  (refine aY [] ?_;try simp only[go_sem])
 ·refine aM func202 ntmps202 ?_;refine S ?_
  (have W:=hk;repeat' (first|refine aq fun K hK=>?_|refine ap ?_|(refine hK _ _ ?_;clear hK K)|(refine ao ?_ ?_<;>intro hc<;>try exact jz)|refine al 5 ?_|refine cm (p') ?_|refine cm (h1) ?_|refine cm (ht) ?_|refine ar ?_|exact jI|(clear hK K)))
  (refine aY [] ?_;try simp only[go_sem])
def Se{a k:Int}(h:bW p.aa.nodes a=21):jx p n a k=cB p n a k:=by have h:(au p a).kind=21:=h;rw[tD,jN,jN,if_pos h]
def Pc(p:af)(n:Nat)(bl:Int->Int->List ay)(a from_:Int):qV p n bl a from_=(
  if(au p a).kind=16 then bo p n (nth (au p a).l 0) from_++[iI 17 (from_+(bo p n (nth (au p a).l 0) from_).length+1+((bl (nth (au p a).l 1) (from_+(bo p n (nth (au p a).l 0) from_).length+1)).length+1))]++(bl (nth (au p a).l 1) (from_+(bo p n (nth (au p a).l 0) from_).length+1)++[iI 16 (from_-1)])
  else if(au p a).l.length=3 then
   bo p n (nth (au p a).l 0) from_++[iI 17 (from_+(bo p n (nth (au p a).l 0) from_).length+1+((bl (nth (au p a).l 1) (from_+(bo p n (nth (au p a).l 0) from_).length+1)).length+1))]++(bl (nth (au p a).l 1) (from_+(bo p n (nth (au p a).l 0) from_).length+1)++[iI 16 (from_+(bo p n (nth (au p a).l 0) from_).length+1+(bl (nth (au p a).l 1) (from_+(bo p n (nth (au p a).l 0) from_).length+1)).length+1+(bl (nth (au p a).l 2) (from_+(bo p n (nth (au p a).l 0) from_).length+1+(bl (nth (au p a).l 1) (from_+(bo p n (nth (au p a).l 0) from_).length+1)).length+1)).length)])++bl (nth (au p a).l 2) (from_+(bo p n (nth (au p a).l 0) from_).length+1+(bl (nth (au p a).l 1) (from_+(bo p n (nth (au p a).l 0) from_).length+1)).length+1)
  else bo p n (nth (au p a).l 0) from_++[iI 17 (from_+(bo p n (nth (au p a).l 0) from_).length+1+(bl (nth (au p a).l 1) (from_+(bo p n (nth (au p a).l 0) from_).length+1)).length)]++bl (nth (au p a).l 1) (from_+(bo p n (nth (au p a).l 0) from_).length+1)):=rfl
def wx(f:Int->Int->List ay)(k x:Int):bv f k [x] []=f x k:=by show[]++f x (k+((0:Nat):Int))=_;rw[Int.natCast_zero,Int.add_zero,List.nil_append]
def Mq(f:Int->Int->List ay)(k x y:Int):bv f k [x,y] []=f x k++f y (k+(f x k).length):=by show bv f k [y] ([]++f x (k+((0:Nat):Int)))=_;rw[Int.natCast_zero,Int.add_zero,List.nil_append];rfl
def uf(L Y:List ay)(a b:ay):L++a::(Y++[b])=L++[a]++Y++[b]:=jE
def O4(L Y:List ay)(a:ay):L++a::Y=L++[a]++Y:=jE
theorem xp{p:af}(hp:fu p):∀n,Dx p n
 |0=>fun a L h0 hl hk hn hL=>by omega
 |n+1=>fun a L h0 hl hk hn hL=>by
  have hs:=xp hp n;have hx:=IG hp n;have ht:=hp.ok.ok.aa;have hm:=ht.many;have hb:=(ht.shape a.toNat hl).2.1;have UM:p.slots.length=p.aa.nodes.length:=hp.ok.ok.slots;have sh:=(ht.shape a.toNat hl).1;obtain⟨lo,Tv⟩:=(ht.shape a.toNat hl).2.2;have Tv:aL p.aa.nodes lo (au p a).l a.toNat:=Tv;have Tx:lo+(au p a).l.length<=a.toNat:=C4 Tv;have T4:fw (au p a).kind:=hk;unfold fw at T4;have l1:(L++[iI 1 a]).length=L.length+1:=jE;have Vy:∀x k,x∈(au p a).l->fq (bW p.aa.nodes x)->(jx p n x k).length<=1200:=fun x k Wb Xd=>by have XP:=hb x Wb;obtain⟨lo',hc⟩:=(ht.shape x.toNat jB).2.2;have:=HC ht n k lo' XP.1 jB Xd hc;omega
  have Vr:∀Y,(∀x∈(au p a).l,fq (bW p.aa.nodes x))->bv (jx p n) (L.length+1) (au p a).l []=Y->Y.length<=2500->ab prog 200 [aO eI 1 (au p a).l,.bd 241 [.pt 0 0 0 0]] (bU p (L++[iI 1 a])) (fun r l=>r=.aQ []/\l=bU p (L++[iI 1 a]++Y)):=fun Y hr hY hYl=>by have:=CJ p 241 jD (jx p n) (au p a).l (L++[iI 1 a]) jB (1000000-3000*n) (by rw[l1,Int.natCast_add];show¬(_<L.length+1+(bv (jx p n) (L.length+1) (au p a).l []).length);rw[hY];omega) (fun x Wb M hM=>hx x M (hb x Wb).1 (by have:=hb x Wb;omega) (hr x Wb) (by have:=hb x Wb;omega) jB);rw[l1,Int.natCast_add]at this;rw[show bv (jx p n) ((L.length:Int)+((1:Nat):Int)) (au p a).l []=Y from hY]at this;exact this
  rw[yx];by_cases e10:(au p a).kind=10
  ·obtain⟨x,u',X4⟩:=sh.right (by have e:(nth p.aa.nodes a.toNat).kind=10:=e10;omega);have u':(au p a).l=[x]:=u';have VN:=Vy x (L.length+1) (by rw[u'];simp) X4;have h:=Vr (jx p n x (L.length+1)) (by rw[u'];intro y hy;simp only[List.mem_singleton]at hy;subst hy;exact X4) (by rw[u',wx]) jB;rw[jP,u',show nth [x] 0=x from rfl,uf];exact LG a L _ h0 hl jB jB e10 h
  by_cases e11:(au p a).kind=11
  ·obtain⟨x,u',X4⟩:=sh.right (by have e:(nth p.aa.nodes a.toNat).kind=11:=e11;omega);have u':(au p a).l=[x]:=u';have VN:=Vy x (L.length+1) (by rw[u'];simp) X4;have h:=Vr (jx p n x (L.length+1)) (by rw[u'];intro y hy;simp only[List.mem_singleton]at hy;subst hy;exact X4) (by rw[u',wx]) jB;rw[jP,u',show nth [x] 0=x from rfl,uf];exact Tq a L _ h0 hl jB jB e11 h
  rw[jN];by_cases e12:(au p a).kind=12
  ·obtain⟨x,y,u',Uh,Xg⟩:=sh.two (.inr e12);have u':(au p a).l=[x,y]:=u';have VN:=Vy x (L.length+1) (by rw[u'];simp) (.inl Uh);have hy1:=Vy y (L.length+1+(jx p n x (L.length+1)).length) (by rw[u'];simp) (.inl Xg);have h:=Vr (jx p n x (L.length+1)++jx p n y (L.length+1+(jx p n x (L.length+1)).length)) (by rw[u'];intro z hz;simp only[List.mem_cons,List.not_mem_nil,or_false]at hz;rcases hz with rfl|rfl<;>exact .inl (by assumption)) (by rw[u',Mq]) (by rw[List.length_append];omega);rw[if_pos e12,u',show nth [x,y] 0=x from rfl,show nth [x,y] 1=y from rfl,<-mX Uh,<-mX Xg,uf];exact Lv a L _ h0 hl jB (by rw[List.length_append];omega) e12 h
  rw[if_neg e12];by_cases e13:(au p a).kind=13
  ·obtain⟨x,u',hxC⟩:=sh.sC e13;have u':(au p a).l=[x]:=u';have X4:fq (bW p.aa.nodes x):=.inr (.inr (.inr hxC));have VN:=Vy x (L.length+1) (by rw[u'];simp) X4;have h:=Vr (jx p n x (L.length+1)) (by rw[u'];intro y hy;simp only[List.mem_singleton]at hy;subst hy;exact X4) (by rw[u',wx]) jB;rw[if_pos e13,u',show nth [x] 0=x from rfl,<-Se hxC,uf];exact RF a L _ h0 hl jB jB e13 h
  rw[if_neg e13];by_cases e14:(au p a).kind=14
  ·obtain⟨x,u',Uh⟩:=sh.one (by have e:(nth p.aa.nodes a.toNat).kind=14:=e14;omega);have u':(au p a).l=[x]:=u';have VN:=Vy x (L.length+1) (by rw[u'];simp) (.inl Uh);have h:=Vr (jx p n x (L.length+1)) (by rw[u'];intro y hy;simp only[List.mem_singleton]at hy;subst hy;exact .inl Uh) (by rw[u',wx]) jB;rw[if_pos e14,u',show nth [x] 0=x from rfl,<-mX Uh,uf];exact PT a L _ h0 hl jB jB e14 h
  rw[if_neg e14];by_cases e17:(au p a).kind=17
  ·rw[if_pos e17];rcases sh.ret e17 with u'|⟨x,u',Uh⟩
   ·have u':(au p a).l=[]:=u';have h:=Vr [] (by rw[u'];intro y hy;simp at hy) (by rw[u'];rfl) jE;rw[u',if_pos (show([]:TG).length=0 from rfl),show([iI 22 0]:List ay)=[]++[iI 22 0] from rfl,uf];exact LS a L _ h0 hl jB (by simp only[List.length_nil];omega) e17 u' h
   ·have u':(au p a).l=[x]:=u';have VN:=Vy x (L.length+1) (by rw[u'];simp) (.inl Uh);have h:=Vr (jx p n x (L.length+1)) (by rw[u'];intro y hy;simp only[List.mem_singleton]at hy;subst hy;exact .inl Uh) (by rw[u',wx]) jB;rw[u',if_neg (show¬([x]:TG).length=0 from jE),show nth [x] 0=x from rfl,<-mX Uh,uf];exact O7 a L _ h0 hl jB jB e17 x u' h
  rw[if_neg e17];have expL:∀x lo,aL p.aa.nodes lo (au p x).l x.toNat->0<=x->x.toNat<p.aa.nodes.length->cQ (bW p.aa.nodes x)->∀k,(bo p n x k).length<=1200:=fun x lo c h0 h1 h2 k=>by have:=l8 ht n x k lo h0 h1 h2 c;omega
  have tst:∀x b,x∈(au p a).l->b∈(au p a).l->cQ (bW p.aa.nodes x)->bW p.aa.nodes b=18->∃X B,bo p n x (L.length+1)=X/\X.length<=1200/\B.length<=1200/\bv (gg p n) (L.length+1+X.length+1) (au p b).l []=B/\
    ab prog 241 [.pt 0 0 0 0,rI x] (bU p (L++[iI 1 a])) (fun r l=>r=.aQ []/\l=bU p (L++[iI 1 a]++X))/\
    ab prog 159 [.pt 0 0 0 0,rI b] (bU p (L++[iI 1 a]++X++[iI 17 0])) (fun r l=>r=.aQ []/\l=bU p (L++[iI 1 a]++X++[iI 17 0]++B)):=fun x b Wb hbm Uh Wk=>by
   have XP:=hb x Wb;have hbb:=hb b hbm;have hX:=Vy x (L.length+1) Wb (.inl Uh);rw[mX Uh]at hX;have ex:=hx x (L++[iI 1 a]) XP.1 jB (.inl Uh) jB jB;rw[mX Uh,l1,Int.natCast_add]at ex;refine⟨_,_,rfl,hX,zE ht n b _ hbb.1 jB Wk,rfl,ex,?_⟩;have eb:=B7 hp hs b (L++[iI 1 a]++bo p n x (L.length+1)++[iI 17 0]) hbb.1 jB Wk jB (by simp only[List.length_append,List.length_singleton];omega);rw[show((L++[iI 1 a]++bo p n x (L.length+1)++[iI 17 0]).length:Int)=L.length+1+(bo p n x (L.length+1)).length+1 by simp only[List.length_append,List.length_singleton];omega]at eb;exact eb
  rw[O4,Pc];by_cases e16:(au p a).kind=16
  ·obtain⟨x,b,u',Uh,Wk⟩:=sh.dZ e16;have u':(au p a).l=[x,b]:=u';obtain⟨X,B,t1,t2,t3,t4,t5,t6⟩:=tst x b (by rw[u'];simp) (by rw[u'];simp) Uh Wk;have hw:=Rp (au p a) x b (L++[iI 1 a]) X B L.length jB e16 u' t5 t6;rw[if_pos e16,u',show nth [x,b] 0=x from rfl,show nth [x,b] 1=b from rfl,t1,t4];rw[show((L.length:Int)+1+X.length+1+(B.length+1))=(((L++[iI 1 a]).length+X.length+1+(B.length+1):Nat):Int) by rw[l1];omega,show(L.length:Int)+1-1=L.length from jB];refine Bt a L _ h0 hl (by simp only[List.length_append,List.length_singleton];omega) (.inr e16) ?_;simp only[List.append_assoc]at hw ⊢;exact hw
  rw[if_neg e16];have e15:(au p a).kind=15:=jB;obtain⟨x,b,Uh,Wk,u'|⟨d,u',Z7⟩⟩:=sh.lw e15
  ·have u':(au p a).l=[x,b]:=u';obtain⟨X,B,t1,t2,t3,t4,t5,t6⟩:=tst x b (by rw[u'];simp) (by rw[u'];simp) Uh Wk;have hw:=MM (au p a) x b (L++[iI 1 a]) X B L.length jB e16 u' t5 t6;rw[u',if_neg (show¬([x,b]:TG).length=3 from jE),show nth [x,b] 0=x from rfl,show nth [x,b] 1=b from rfl,t1,t4];rw[show((L.length:Int)+1+X.length+1+B.length)=(((L++[iI 1 a]).length+X.length+1+B.length:Nat):Int) by rw[l1];omega];refine Bt a L _ h0 hl (by simp only[List.length_append,List.length_singleton];omega) (.inl e15) ?_;simp only[List.append_assoc]at hw ⊢;exact hw
  ·have u':(au p a).l=[x,b,d]:=u';obtain⟨X,B,t1,t2,t3,t4,t5,t6⟩:=tst x b (by rw[u'];simp) (by rw[u'];simp) Uh Wk;have Z8:=hb d (by show d∈(au p a).l;rw[u'];simp);have hD:=zE ht n d (L.length+1+X.length+1+B.length+1) Z8.1 jB Z7;have hsum:X.length+B.length<=1200:=by
    have Tv:=Tv;rw[u']at Tv;obtain⟨c1,c2,c3,c4,c5,c6⟩:=kF Tv;obtain⟨d1,d2,d3,d4,d5,d6⟩:=kF c6;have q1:=l8 ht n x (L.length+1) lo c1 jB Uh c5;have q2:=Jp ht n b (L.length+1+X.length+1) _ d1 jB Wk d5;rw[t1]at q1;rw[t4]at q2;omega
   have ed:=B7 hp hs d (L++[iI 1 a]++X++[iI 17 ((L++[iI 1 a]).length+X.length+1+(B.length+1):Nat)]++B++[iI 16 0]) Z8.1 jB Z7 jB (by simp only[List.length_append,List.length_singleton];omega);rw[show((L++[iI 1 a]++X++[iI 17 ((L++[iI 1 a]).length+X.length+1+(B.length+1):Nat)]++B++[iI 16 0]).length:Int)=L.length+1+X.length+1+B.length+1 by simp only[List.length_append,List.length_singleton];omega]at ed;rw[u',if_pos (show([x,b,d]:TG).length=3 from rfl),show nth [x,b,d] 0=x from rfl,show nth [x,b,d] 1=b from rfl,show nth [x,b,d] 2=d from rfl,t1,t4];generalize hDD:bv (gg p n) (L.length+1+X.length+1+B.length+1) (au p d).l []=D at*;have hw:=Pj (au p a) x b d (L++[iI 1 a]) X B D L.length jB e16 u' t5 t6 ed;rw[show((L.length:Int)+1+X.length+1+(B.length+1))=(((L++[iI 1 a]).length+X.length+1+(B.length+1):Nat):Int) by rw[l1];omega,show((L.length:Int)+1+X.length+1+B.length+1+D.length)=(((L++[iI 1 a]).length+X.length+1+B.length+1+D.length:Nat):Int) by rw[l1];omega];refine Bt a L _ h0 hl (by simp only[List.length_append,List.length_singleton];omega) (.inl e15) ?_;simp only[List.append_assoc]at hw ⊢;exact hw
structure Fw(c c':Ck):Prop where
 fn:c'.fn=c.fn
 aw:∀x∈c'.aw,x∈c.aw\/x=c.fn
def Fw.refl(c:Ck):Fw c c:=⟨rfl,fun _ h=>.inl h⟩
theorem Fw.trans{a b c:Ck}(h:Fw a b)(k:Fw b c):Fw a c:=⟨k.fn.trans h.fn,fun x hx=>by
 rcases k.aw x hx with e|e
 ·exact h.aw x e
 ·right;rw[e,h.fn]⟩
def vS{c c':Ck}(h1:c'.fn=c.fn)(h2:c'.aw=c.aw):Fw c c':=⟨h1,fun x hx=>by rw[h2]at hx;exact .inl hx⟩
def Eo{l:TG}{i:Nat}{x y:Int}(h:x∈l.set i y):x∈l\/x=y:=by
 rcases List.mem_or_eq_of_mem_set h with h|h
 ·exact .inl h
 ·exact .inr h
def p8(c:Ck)(e a:Int):Fw c (c.aE e a):=by unfold Ck.aE;split<;>exact vS rfl rfl
def oj(c:Ck)(b:Bool)(a:Int):Fw c (c.av b a):=by unfold Ck.av;split;exact .refl _;exact p8 _ _ _
def zo(c:Ck)(a:Int):Fw c (c.named a).1:=by unfold Ck.named;split;exact p8 _ _ _;exact vS rfl rfl
def QM(c:Ck)(a t:Int):Fw c (c.note a t):=⟨rfl,fun _ h=>Eo h⟩
def I7(c:Ck)(a:Int):Fw c (c.ai a):=⟨rfl,fun _ h=>Eo h⟩
def tV{c x y:Ck}{q:Prop}[Decidable q](h:Fw c x)(k:Fw c y):Fw c (if q then x else y):=by split;exact h;exact k
theorem HH{ex:Ck->Int->Ck×Int}(hx:∀c a,Fw c (ex c a).1):∀(L:TG) (c:Ck) (ts:TG),Fw c (gv ex c L ts).1
 |[],c,ts=>by unfold gv;exact .refl c
 |a::L,c,ts=>by
  unfold gv;split
  ·exact(hx c a).trans (HH hx L _ _)
  ·exact .refl c
theorem IB(a:Int):∀(ts:TG) (ps:List bK) (c:Ck),Fw c (iv a c ts ps)
 |[],ps,c=>by rw[ub];exact .refl c
 |_::_,[],c=>by rw[tJ];exact .refl c
 |x::ts,p::ps,c=>by
  unfold iv;split
  ·exact(oj _ _ _).trans (IB a ts ps _)
  ·exact .refl c
variable{ex:Ck->Int->Ck×Int}
def OV(hx:∀c a,Fw c (ex c a).1)(c:Ck)(a:Int):Fw c (iS ex c a).1:=by
 unfold iS;split
 ·exact p8 _ _ _
 ·simp only;exact((HH hx _ c _).trans (tV (p8 _ _ _) (.refl _))).trans (IB _ _ _ _)
def My(hx:∀c a,Fw c (ex c a).1)(c:Ck)(a:Int):Fw c (cr ex c a).1:=by
 unfold cr;simp only;split
 ·exact .refl c
 split
 ·exact .refl c
 split
 ·exact .refl c
 split
 ·exact zo _ _
 split
 ·exact OV hx c a
 split
 ·exact((zo _ _).trans (hx _ _)).trans (oj _ _ _)
 split
 ·exact((hx _ _).trans (hx _ _)).trans (oj _ _ _)
 split
 ·exact(hx _ _).trans (oj _ _ _)
 split
 ·exact(hx _ _).trans (oj _ _ _)
 split
 ·exact(hx _ _).trans (oj _ _ _)
 ·exact(hx _ _).trans (oj _ _ _)
theorem rO:∀(n:Nat) (c:Ck) (a:Int),Fw c (az n c a).1
 |0,c,a=>by unfold az;exact .refl c
 |n+1,c,a=>by
  unfold az;split
  ·exact .refl c
  ·exact(My (rO n) c a).trans (QM _ _ _)
def Pv(hx:∀c a,Fw c (ex c a).1)(c:Ck)(a:Int):Fw c (o5 ex c a):=by have hA:Fw c (iD ex c a):=(hx c _).trans (oj _ _ _);have hB:Fw (iD ex c a) (js ex c a):=tV (p8 _ _ _) (.refl _);have hC:Fw (js ex c a) (eH ex c a):=tV (p8 _ _ _) (.refl _);rw[tT];exact((hA.trans hB).trans hC).trans (vS rfl rfl)
def LU(hx:∀c a,Fw c (ex c a).1)(c:Ck)(a:Int):Fw c (kH ex c a):=by
 unfold kH;simp only;split
 ·exact p8 _ _ _
 split
 ·exact(hx _ _).trans (oj _ _ _)
 ·exact .refl c
theorem Ad{st:Ck->Int->Ck}(hs:∀c a,Fw c (st c a)):∀(L:TG) (c:Ck),Fw c (dK st c L)
 |[],c=>by unfold dK;exact .refl c
 |a::L,c=>by
  unfold dK;split
  ·exact(hs c a).trans (Ad hs L _)
  ·exact .refl c
variable{st:Ck->Int->Ck}
def GN(hs:∀c a,Fw c (st c a))(c:Ck)(a:Int):Fw c (fl st c a):=by unfold fl;simp only;exact((I7 c a).trans (Ad hs _ _)).trans (vS rfl rfl)
theorem Dl:∀(n:Nat) (c:Ck) (a:Int),Fw c (bP n c a)
 |0,c,a=>by unfold bP;exact .refl c
 |n+1,c,a=>by
  unfold bP;simp only;refine(I7 c a).trans ?_;split
  ·exact Pv (rO n) _ _
  split
  ·exact((zo _ _).trans (rO n _ _)).trans (oj _ _ _)
  split
  ·exact(((zo _ _).trans (rO n _ _)).trans (rO n _ _)).trans (oj _ _ _)
  split
  ·exact rO n _ _
  split
  ·exact(rO n _ _).trans (oj _ _ _)
  split
  ·exact LU (rO n) _ _
  ·exact((rO n _ _).trans (oj _ _ _)).trans (Ad (fun c a=>GN (Dl n) c a) _ _)
theorem Ga(body:Int):∀(ps:List bK) (c:Ck) (i:Int),Fw c (fy body c ps i)
 |[],c,i=>by unfold fy;exact .refl c
 |p::ps,c,i=>by unfold fy;simp only;have h1:Fw c (if 0<=c.find p.name then c.aE 41 body else c):=tV (p8 c 41 body) (.refl c);generalize (if 0<=c.find p.name then c.aE 41 body else c)=d at*;refine h1.trans ?_;exact Fw.trans (b:={ d with vars:=d.vars++[⟨p.name,p.ty,i⟩],more:=d.more.drop 1,size:=d.size+1 }) (vS rfl rfl) (Ga body ps _ _)
def Ly(c:Ck)(k:Nat):∀x∈(gM c k).aw,x∈c.aw\/x=(k:Int):=by
 have h:Fw { c with fn:=(k:Int),vars:=[],more:=[],size:=0 } (gM c k):=by unfold gM;simp only;exact((Ga _ _ _ _).trans (tV (GN (Dl _) _ _) (.refl _))).trans (vS rfl rfl)
 exact fun x hx=>h.aw x hx
theorem EB:∀(n i:Nat) (c:Ck),∀x∈(gB c i n).aw,x∈c.aw\/((i:Int)<=x/\x<(i:Int)+n)
 |0,i,c,x,hx=>by unfold gB at hx;exact .inl hx
 |n+1,i,c,x,hx=>by
  unfold gB at hx;split at hx
  ·rcases EB n (i+1) _ x hx with h|h
   ·rcases Ly c i x h with h|h
    ·exact .inl h
    ·right;omega
   ·right;omega
  ·exact .inl hx
theorem Ee(x:bg):∀(l:List bg) (c:Ck),Fw c (kN x c l)
 |[],c=>by unfold kN;exact .refl c
 |f::l,c=>by unfold kN;exact(tV (p8 _ _ _) (.refl _):Fw c (if f.name=x.name then c.aE 41 x.body else c)).trans (Ee x l _)
theorem Ax(aw:List bg):∀(n i:Nat) (c:Ck) (m:Bool),Fw c (j8 aw c m i n).1
 |0,i,c,m=>by unfold j8;exact .refl c
 |n+1,i,c,m=>by unfold j8;exact(Ee _ _ c).trans (Ax aw n (i+1) _ _)
def ON(c:Ck):Fw c (iZ c):=by unfold iZ;simp only;exact tV (Ax _ _ _ _ _) ((Ax _ _ _ _ _).trans (p8 _ _ _))
def Tr{t:aH}(ht:aR t)(he:(iq t).2.2=0)(h1:0<t.aw.length):∀x∈(iq t).1.fn,0<=x/\x<t.aw.length:=fun x hx=>by
 unfold iq at he hx;split at he
 ·rename_i h;exact(h he).elim
 rename_i h;rw[if_neg h]at hx;have hx:x∈(gB (iZ (jr t)) 0 t.aw.length).aw:=hx;rcases EB t.aw.length 0 _ x hx with g|g
 ·rcases(ON (jr t)).aw x g with g|g
  ·have g:x∈t.nodes.map fun _=>(0:Int):=g
   obtain⟨_,_,rfl⟩:=List.mem_map.1 g;omega
  ·have g:x=0:=g;omega
 ·omega
variable{s:TI}
def KM(he:(fX s).2.2=0):∀k,k<(fX s).1.aa.nodes.length->0<=nth (fX s).1.fn k/\nth (fX s).1.fn k<(fX s).1.aa.aw.length:=by
 have hok:=FA he;obtain⟨j,hj,_⟩:=(xS he).names.main;unfold fX at he hok hj ⊢;split at he
 ·rename_i h;exact(h he).elim
 rename_i h;rw[if_neg h]at hok hj ⊢;have h:(gQ s).2.2=0:=jB;simp only at he hok hj ⊢;split at he
 ·cases he
 rename_i h2;split at he
 ·rename_i h3;exact(h3 he).elim
 rename_i h3;rw[if_neg h2,if_neg h3]at hok hj ⊢;have ht:=(xV (uL h) jB).2;simp only at hok hj ⊢;rw[ht]at hj ⊢;exact fun k hk=>Tr (uL h) jB jB _ (fg (by rw[hok.fn,ht];exact hk))
structure Ns(c c':Ck):Prop where
 aa:c'.aa=c.aa
 slots:∀k,¬jm (nth c.aa.nodes k).kind->nth c'.slots k=nth c.slots k
def Ns.refl(c:Ck):Ns c c:=⟨rfl,fun _ _=>rfl⟩
theorem Ns.trans{a b c:Ck}(h:Ns a b)(k:Ns b c):Ns a c:=⟨k.aa.trans h.aa,fun j hj=>(k.slots j (by rw[h.aa];exact hj)).trans (h.slots j hj)⟩
def v8{c c':Ck}(h1:c'.aa=c.aa)(h2:c'.slots=c.slots):Ns c c':=⟨h1,fun _ _=>by rw[h2]⟩
def FP(c:Ck)(a s:Int)(h:jm (c.node a).kind):Ns c (c.slot a s):=⟨rfl,fun k hk=>by
 show nth (c.slots.set a.toNat s) k=_;unfold nth;rw[List.getD_eq_getElem?_getD,List.getElem?_set,List.getD_eq_getElem?_getD];by_cases e:a.toNat=k
 ·subst e;exact(hk h).elim
 ·rw[if_neg e]⟩
def qq(c:Ck)(e a:Int):Ns c (c.aE e a):=by unfold Ck.aE;split<;>exact v8 rfl rfl
def oU(c:Ck)(b:Bool)(a:Int):Ns c (c.av b a):=by unfold Ck.av;split;exact .refl _;exact qq _ _ _
def yH(c:Ck)(a:Int)(h:jm (c.node a).kind):Ns c (c.named a).1:=by unfold Ck.named;split;exact qq _ _ _;exact FP c a _ h
def Rx(c:Ck)(a t:Int):Ns c (c.note a t):=⟨rfl,fun _ _=>rfl⟩
def Fk(c:Ck)(a:Int):Ns c (c.ai a):=⟨rfl,fun _ _=>rfl⟩
def ud{c x y:Ck}{q:Prop}[Decidable q](h:Ns c x)(k:Ns c y):Ns c (if q then x else y):=by split;exact h;exact k
theorem Gn{ex:Ck->Int->Ck×Int}(hx:∀c a,Ns c (ex c a).1):∀(L:TG) (c:Ck) (ts:TG),Ns c (gv ex c L ts).1
 |[],c,ts=>by unfold gv;exact .refl c
 |a::L,c,ts=>by
  unfold gv;split
  ·exact(hx c a).trans (Gn hx L _ _)
  ·exact .refl c
theorem GU(a:Int):∀(ts:TG) (ps:List bK) (c:Ck),Ns c (iv a c ts ps)
 |[],ps,c=>by rw[ub];exact .refl c
 |_::_,[],c=>by rw[tJ];exact .refl c
 |x::ts,p::ps,c=>by
  unfold iv;split
  ·exact(oU _ _ _).trans (GU a ts ps _)
  ·exact .refl c
def Mw(hx:∀c a,Ns c (ex c a).1)(c:Ck)(a:Int):Ns c (iS ex c a).1:=by
 unfold iS;split
 ·exact qq _ _ _
 ·simp only;exact((Gn hx _ c _).trans (ud (qq _ _ _) (.refl _))).trans (GU _ _ _ _)
def QY(hx:∀c a,Ns c (ex c a).1)(c:Ck)(a:Int):Ns c (cr ex c a).1:=by
 unfold cr;simp only;split
 ·exact .refl c
 split
 ·exact .refl c
 split
 ·exact .refl c
 split
 ·rename_i e;exact yH _ _ (.inl e)
 split
 ·exact Mw hx c a
 split
 ·rename_i e;exact((yH _ _ (.inr (.inl e))).trans (hx _ _)).trans (oU _ _ _)
 split
 ·exact((hx _ _).trans (hx _ _)).trans (oU _ _ _)
 split
 ·exact(hx _ _).trans (oU _ _ _)
 split
 ·exact(hx _ _).trans (oU _ _ _)
 split
 ·exact(hx _ _).trans (oU _ _ _)
 ·exact(hx _ _).trans (oU _ _ _)
theorem rz:∀(n:Nat) (c:Ck) (a:Int),Ns c (az n c a).1
 |0,c,a=>by unfold az;exact .refl c
 |n+1,c,a=>by
  unfold az;split
  ·exact .refl c
  ·exact(QY (rz n) c a).trans (Rx _ _ _)
def N8(hx:∀c a,Ns c (ex c a).1)(c:Ck)(a:Int)(hk:jm (c.node a).kind):Ns c (o5 ex c a):=by have hA:Ns c (iD ex c a):=(hx c _).trans (oU _ _ _);have hB:Ns (iD ex c a) (js ex c a):=ud (qq _ _ _) (.refl _);have hC:Ns (js ex c a) (eH ex c a):=ud (qq _ _ _) (.refl _);rw[tT];have Z9:=(hA.trans hB).trans hC;exact Z9.trans ((FP (eH ex c a) a _ (by unfold Ck.node;rw[Z9.aa];exact hk)).trans (v8 rfl rfl))
def Lm(hx:∀c a,Ns c (ex c a).1)(c:Ck)(a:Int):Ns c (kH ex c a):=by
 unfold kH;simp only;split
 ·exact qq _ _ _
 split
 ·exact(hx _ _).trans (oU _ _ _)
 ·exact .refl c
theorem AB{st:Ck->Int->Ck}(hs:∀c a,Ns c (st c a)):∀(L:TG) (c:Ck),Ns c (dK st c L)
 |[],c=>by unfold dK;exact .refl c
 |a::L,c=>by
  unfold dK;split
  ·exact(hs c a).trans (AB hs L _)
  ·exact .refl c
def FK(hs:∀c a,Ns c (st c a))(c:Ck)(a:Int):Ns c (fl st c a):=by unfold fl;simp only;exact((Fk c a).trans (AB hs _ _)).trans (v8 rfl rfl)
theorem Gp:∀(n:Nat) (c:Ck) (a:Int),Ns c (bP n c a)
 |0,c,a=>by unfold bP;exact .refl c
 |n+1,c,a=>by
  unfold bP;simp only;refine(Fk c a).trans ?_;split
  ·rename_i e;exact N8 (rz n) _ _ (.inr (.inr (.inl e)))
  split
  ·rename_i e;exact((yH _ _ (.inr (.inr (.inr (.inl e))))).trans (rz n _ _)).trans (oU _ _ _)
  split
  ·rename_i e;exact(((yH _ _ (.inr (.inr (.inr (.inr e))))).trans (rz n _ _)).trans (rz n _ _)).trans (oU _ _ _)
  split
  ·exact rz n _ _
  split
  ·exact(rz n _ _).trans (oU _ _ _)
  split
  ·exact Lm (rz n) _ _
  ·exact((rz n _ _).trans (oU _ _ _)).trans (AB (fun c a=>FK (Gp n) c a) _ _)
theorem E2(body:Int):∀(ps:List bK) (c:Ck) (i:Int),Ns c (fy body c ps i)
 |[],c,i=>by unfold fy;exact .refl c
 |p::ps,c,i=>by unfold fy;simp only;have h1:Ns c (if 0<=c.find p.name then c.aE 41 body else c):=ud (qq c 41 body) (.refl c);generalize (if 0<=c.find p.name then c.aE 41 body else c)=d at*;refine h1.trans ?_;exact Ns.trans (b:={ d with vars:=d.vars++[⟨p.name,p.ty,i⟩],more:=d.more.drop 1,size:=d.size+1 }) (v8 rfl rfl) (E2 body ps _ _)
def Lc(c:Ck)(k:Nat):Ns c (gM c k):=by
 have h:Ns { c with fn:=(k:Int),vars:=[],more:=[],size:=0 } (gM c k):=by unfold gM;simp only;exact((E2 _ _ _ _).trans (ud (FK (Gp _) _ _) (.refl _))).trans (v8 rfl rfl)
 exact Ns.trans (b:={ c with fn:=(k:Int),vars:=[],more:=[],size:=0 }) (v8 rfl rfl) h
theorem Jh:∀(n i:Nat) (c:Ck),Ns c (gB c i n)
 |0,i,c=>by unfold gB;exact .refl c
 |n+1,i,c=>by
  unfold gB;split
  ·exact(Lc c i).trans (Jh n (i+1) _)
  ·exact .refl c
theorem Ij(x:bg):∀(l:List bg) (c:Ck),Ns c (kN x c l)
 |[],c=>by unfold kN;exact .refl c
 |f::l,c=>by unfold kN;exact(ud (qq _ _ _) (.refl _):Ns c (if f.name=x.name then c.aE 41 x.body else c)).trans (Ij x l _)
theorem BP(aw:List bg):∀(n i:Nat) (c:Ck) (m:Bool),Ns c (j8 aw c m i n).1
 |0,i,c,m=>by unfold j8;exact .refl c
 |n+1,i,c,m=>by unfold j8;exact(Ij _ _ c).trans (BP aw n (i+1) _ _)
def Le(c:Ck):Ns c (iZ c):=by unfold iZ;simp only;exact ud (BP _ _ _ _ _) ((BP _ _ _ _ _).trans (qq _ _ _))
def Qx{t:aH}(he:(iq t).2.2=0):∀k,k<t.nodes.length->¬jm (nth t.nodes k).kind->nth (iq t).1.slots k<=0:=fun k hk hn=>by
 unfold iq at he ⊢;split at he
 ·rename_i h;exact(h he).elim
 rename_i h;rw[if_neg h];have h1:=(Le (jr t)).trans (Jh t.aw.length 0 _);show nth (gB (iZ (jr t)) 0 t.aw.length).slots k<=0;rw[h1.slots k hn];show nth (t.nodes.map fun _=>(-1:Int)) k<=0;unfold nth;rw[List.getD_eq_getElem?_getD,List.getElem?_map,List.getElem?_eq_getElem hk];show(-1:Int)<=0;omega
def MF{t:List br}{lo hi:Nat}{L:TG}(h:aL t lo L hi):∀k,lo<=k->k<hi->∃j,j<L.length/\k<=(nth L j).toNat/\(if j=0 then lo else(nth L (j-1)).toNat+1)<=k:=by
 induction h with
 |nil=>intro k h1 h2;omega
 |@cons lo c hi L hc h1 h2 i1 i2=>
  intro k Ue TY;by_cases e:k<=c
  ·exact⟨0,jE,by show k<=(c:Int).toNat;omega,by rw[if_pos rfl];exact Ue⟩
  ·obtain⟨j,g1,g2,g3⟩:=i2 k jB TY;refine⟨j+1,by simp;omega,g2,?_⟩;rw[jN];by_cases e0:j=0
   ·subst e0;show(c:Int).toNat+1<=k;omega
   ·rw[if_neg e0]at g3;rw[show j+1-1=(j-1)+1 from jB];exact g3
def Tc(h:gj p):∀k,k<p.aa.nodes.length->jm (nth p.aa.nodes k).kind->0<=nth p.slots k:=fun k hk hs=>by
 obtain⟨j,g1,g2,g3⟩:=MF h.ok.aa.chain k (Nat.zero_le _) hk;have g1:j<p.aa.aw.length:=by simpa using g1
 have e:∀i,i<p.aa.aw.length->nth (p.aa.aw.map (·.body)) i=(nth p.aa.aw i).body:=fun i hi=>by unfold nth;rw[List.getD_eq_getElem?_getD,List.getElem?_map,List.getD_eq_getElem?_getD,List.getElem?_eq_getElem hi];rfl
 rw[e j g1]at g2;have hf:=h.aw j g1;refine(hf.all k ?_ jB hs).1;unfold kQ;split at g3
 ·rename_i e0;rw[if_pos e0];exact g3
 ·rename_i e0;rw[if_neg e0];rw[e (j-1) jB]at g3;exact g3
def Mi(he:(fX s).2.2=0):∀k,k<(fX s).1.aa.nodes.length->¬jm (nth (fX s).1.aa.nodes k).kind->nth (fX s).1.slots k<=0:=by
 have hok:=FA he;unfold fX at he hok ⊢;split at he
 ·rename_i h;exact(h he).elim
 rename_i h;rw[if_neg h]at hok ⊢;have h:(gQ s).2.2=0:=jB;simp only at he hok ⊢;split at he
 ·cases he
 rename_i h2;split at he
 ·rename_i h3;exact(h3 he).elim
 rename_i h3;rw[if_neg h2,if_neg h3]at hok ⊢;have ht:=(xV (uL h) jB).2;simp only at hok ⊢;rw[ht];exact Qx jB
attribute [local go_sem] iI
def Ou(hp:fu p):aB prog 110 [.agg (cd p)] (.agg (wO (ci p))):=by
 have ht:=hp.ok.ok.aa;have hm:=ht.many;have haA:=ht.aw;have eV:ci p=fc p p.aa.aw.length:=by unfold ci fc;rw[List.take_length]
 rw[eV];have Vo:=Co hp.ok;have VF:=zD p;rw[z8];refine bG func110 ntmps110 ?_;refine S ?_
 (repeat' (first|refine aq fun K hK=>?_|refine ap ?_|(refine hK _ _ ?_;clear hK K)|(refine ao ?_ ?_<;>intro hc<;>try exact jz)|refine aT 2 ?_|refine al 3 ?_|refine al 0 ?_|refine ar ?_|exact jI|(clear hK K)))
 refine jq (dL.gb 1 0 6 219 4 rfl jC rfl rfl) ?_
 (refine S ?_;try exact jI)
 refine jq (dL.nil 5 4 3 (sz:=1) rfl jC (Or.inl rfl)) ?_
 (refine S ?_;try exact jI)
 have TX:=hK;clear hK;refine dV (S:=Nat) [(4,1),(6,1),(13,17)] (fun k=>k<=p.aa.aw.length) (fun k=>[(4,.rs 5 k 1 k),(13,rI k)])
  (fun k=>⟨[],[(2,.var 32 (kf p)),(3,.var 199 [.raw (.slice none 0 0),.raw (.slice none 0 0)]),(0,.var 267 (kf p++[.rs 1 (fc p k).ins.length 4 (fc p k).ins.length])),(1,.aG 219 4 ((fc p k).ins.map dn)),(5,.aG 3 1 ((fc p k).entry.map eI))]⟩)
  (fun k=>p.aa.aw.length-k) 0 jB (dS rfl cv) ?_
 rintro k hk Kr TR;have WE:=Vo k hk;have WG:=VF k hk;by_cases O':k<p.aa.aw.length
 ·have hs:=zT p k O';have U4:=o7 ht (k:=k) O';have Vm:=U4.1;have VG:=U4.2;have Xe:=ht.body _ (fg O');have ZR:=zE ht (mI p) (nth p.aa.aw k).body (fc p k).ins.length jB jB Xe;have hcb:=B7 hp (xp hp (mI p)) (nth p.aa.aw k).body (fc p k).ins jB jB Xe (by show _<=p.aa.nodes.length;omega) (by have:mI p<=300:=hm;omega);change ab _ _ _ _ (fun r l=>r=.aQ []/\l=bU p ((fc p k).ins++p9 p (mI p) (nth p.aa.aw k).body (fc p k).ins.length))at hcb
  change (p9 p (mI p) (nth p.aa.aw k).body (fc p k).ins.length).length<=1200 at ZR
  have Xs:=iV p ((fc p k).ins++p9 p (mI p) (nth p.aa.aw k).body (fc p k).ins.length) 22 (nth p.aa.aw k).ret (by rw[List.length_append];omega);have e1:(fc p (k+1)).ins=(fc p k).ins++p9 p (mI p) (nth p.aa.aw k).body (fc p k).ins.length++[iI 22 (nth p.aa.aw k).ret]:=by rw[hs];rfl
  have e2:(fc p (k+1)).entry=(fc p k).entry++[((fc p k).ins.length:Int)]:=by rw[hs];rfl
  generalize p9 p (mI p) (nth p.aa.aw k).body (fc p k).ins.length=B at*;generalize hC':fc p (k+1)=C' at*;generalize fc p k=C at*;generalize hF:nth p.aa.aw k=F at*;refine S ?_
  (have W:=jA hF WG;repeat' (first|refine aq fun K hK=>?_|refine ap ?_|(refine hK _ _ ?_;clear hK K)|(refine ao ?_ ?_<;>intro hc<;>try exact jz)|refine al 6 ?_|refine cm (hcb) ?_|refine cm (Xs) ?_|refine ar ?_|exact jI|(clear hK K)))
  refine TR _ _ (mV [6] (k+1) jB (by show p.aa.aw.length-(k+1)<p.aa.aw.length-k;omega) rfl Sd (by rw[hC',e1,e2];simp only[kf,List.map_append,List.length_append,List.map_cons,List.map_nil,List.length_cons,List.length_nil];rfl) iF)
 ·have e:k=p.aa.aw.length:=jB;subst e;generalize fc p p.aa.aw.length=C at*;refine S ?_
  (have W:=WG;repeat' (first|refine aq fun K hK=>?_|refine ap ?_|(refine hK _ _ ?_;clear hK K)|(refine ao ?_ ?_<;>intro hc<;>try exact jz)|refine TX _ _ ?_|refine ar ?_|exact jI|(clear hK K)))
  refine fA [.cell 2 199] ?_;exact bu.agg (ds:=[aO dn 4 C.ins,aO eI 1 C.entry]) (jA (cW.row (enc:=dn) C.ins rfl rfl jE) (jA (cW.row (enc:=eI) C.entry rfl rfl (by simp[WG])) trivial))
def Jw(he:(fX s).2.2=0):fu (fX s).1:=⟨xS he,Mi he,Tc (xS he)⟩
def RW(f:bg):aB prog 162 [.agg (fV f)] (rB (decide (f.name=(⟨#[109,97,105,110]⟩:TI)))):=by
 refine bG func162 ntmps162 ?_
 (repeat' (first|refine aq fun K hK=>?_|refine ap ?_|(refine hK _ _ ?_;clear hK K)|(refine ao ?_ ?_<;>intro hc<;>try exact jz)|refine aT 4 ?_|refine ar ?_|exact jI|(clear hK K)))
 (refine aY [.tmp 2] ?_;try simp only[go_sem])
def Sk(L:List bg)(k:Nat)(hL:L.length<=1000)(hk:k<L.length)(TV:(nth L k).name=(⟨#[109,97,105,110]⟩:TI))(VO:∀i,i<k->(nth L i).name≠(⟨#[109,97,105,110]⟩:TI)) :
  aB prog 161 [aO fV 5 L,.raw (.func (.func 162) #[] #[])] (rI k):=by
 refine bG func161 ntmps161 ?_
 (repeat' (first|refine aq fun K hK=>?_|refine ap ?_|(refine hK _ _ ?_;clear hK K)|(refine ao ?_ ?_<;>intro hc<;>try exact jz)|refine ar ?_|exact jI|(clear hK K)))
 refine dV (S:=Nat) [(4,2),(8,11)] (fun i=>i<=k) (fun i=>[(8,rI i)]) (fun i=>⟨[],[]⟩) (fun i=>k-i) 0 jB (dS rfl cv) ?_;rintro i hi Kr TR;have V8:=RW (nth L i);by_cases e:i=k
 ·subst e;rw[decide_eq_true TV]at V8;refine S ?_
  (repeat' (first|refine aq fun K hK=>?_|refine ap ?_|(refine hK _ _ ?_;clear hK K)|(refine ao ?_ ?_<;>intro hc<;>try exact jz)|refine cp (V8) ?_|refine ar ?_|exact jI|(clear hK K)))
  (refine aY [.tmp 4] ?_;try simp only[go_sem])
 ·rw[decide_eq_false (VO i jB)]at V8;refine S ?_
  (repeat' (first|refine aq fun K hK=>?_|refine ap ?_|(refine hK _ _ ?_;clear hK K)|(refine ao ?_ ?_<;>intro hc<;>try exact jz)|refine cp (V8) ?_|refine ar ?_|exact jI|(clear hK K)))
  refine TR _ _ (eu (i+1) jB jJ rfl cv)
def Mh(m:Nat)(hL:p.aa.aw.length<=1000)(hk:m<p.aa.aw.length)(TV:(nth p.aa.aw m).name=(⟨#[109,97,105,110]⟩:TI))(VO:∀i,i<m->(nth p.aa.aw i).name≠(⟨#[109,97,105,110]⟩:TI)):aB prog 113 [.agg (cd p)] (rI m):=by
 have Wa:=Sk p.aa.aw m hL hk TV VO;rw[z8];refine bG func113 ntmps113 ?_;refine S ?_
 (repeat' (first|refine aq fun K hK=>?_|refine ap ?_|(refine hK _ _ ?_;clear hK K)|(refine ao ?_ ?_<;>intro hc<;>try exact jz)|refine aT 2 ?_|refine cp (Wa) ?_|refine ar ?_|exact jI|(clear hK K)))
 (refine aY [.tmp 2] ?_;try simp only[go_sem])
end Go.Proofs.YtjpcgmjaipfgdaaGreatDoor