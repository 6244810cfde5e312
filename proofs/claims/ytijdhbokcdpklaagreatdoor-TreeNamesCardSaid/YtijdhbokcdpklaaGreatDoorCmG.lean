/- Lemmas. No conditions. -/
import Derived.Test.YtijdhbokcdpklaaGreatDoorViA
set_option linter.all false
set_option maxHeartbeats 4000000
set_option maxRecDepth 10000
namespace Go.Gd
open Go
def kK(h:UO)(k:Nat):Nat:=(h.take k).flatten.length
def lT(h:UO):UP:=(List.range h.length).map fun k=>((kK h (k+1):Nat):Int)
def we(h:UO):(lT h).length=h.length:=by simp[lT]
variable{h:UO}{k:Nat}
def vC(hk:k<h.length):kK h (k+1)=kK h k+(nth h k).length:=by unfold kK;rw[List.take_succ,List.getElem?_eq_getElem hk,List.flatten_append,List.length_append,fM hk];simp
def xM(h:UO)(k:Nat):kK h k<=h.flatten.length:=by
 unfold kK;have:h.flatten=(h.take k).flatten++(h.drop k).flatten:=by rw[<-List.flatten_append,List.take_append_drop]
 rw[this,List.length_append];omega
def HX(hk:k<h.length):nth (lT h) k=(kK h (k+1):Nat):=by rw[fM (by rw[we];exact hk)];simp[lT]
def KW{i:Nat}(hk:k<h.length)(hi:i<(nth h k).length):nth h.flatten (kK h k+i)=nth (nth h k) i:=by
 have e:h.flatten=(h.take k).flatten++(nth h k++(h.drop (k+1)).flatten):=by rw[fM hk,<-List.flatten_cons,List.getElem_cons_drop,<-List.flatten_append,List.take_append_drop]
 rw[e];unfold kK;unfold nth at hi ⊢;rw[List.getD_eq_getElem?_getD,List.getElem?_append_right jB,Nat.add_sub_cancel_left,List.getElem?_append_left hi,<-List.getD_eq_getElem?_getD]
def T4{i:Nat}(n:Int)(hk:k<h.length)(hi:i<(nth h k).length):(h.set k ((nth h k).set i n)).flatten=h.flatten.set (kK h k+i) n:=by
 have e:h.flatten=(h.take k).flatten++(nth h k++(h.drop (k+1)).flatten):=by rw[fM hk,<-List.flatten_cons,List.getElem_cons_drop,<-List.flatten_append,List.take_append_drop]
 have e2:h.set k ((nth h k).set i n)=h.take k++((nth h k).set i n::h.drop (k+1)):=by rw[List.set_eq_take_append_cons_drop,if_pos hk]
 rw[e2,List.flatten_append,List.flatten_cons,e];unfold kK;rw[List.set_append_right _ _ jB,Nat.add_sub_cancel_left,List.set_append_left _ _ hi]
def N7(l:UP)(hl:l.length=(nth h k).length)(hk:k<h.length):lT (h.set k l)=lT h:=by
 unfold lT;rw[List.length_set];apply List.map_congr_left;intro j _;congr 1
 unfold kK;rw[List.take_set,List.length_flatten,List.length_flatten,List.map_set];congr 1
 apply List.ext_getElem jE;intro i h1 h2;rw[List.getElem_set];split
 ·rename_i e;subst e;rw[List.getElem_map,List.getElem_take,hl,fM hk]
 ·rfl
def gS(h:UO):UL:=[(2,.var 196 [.rs 3 h.flatten.length 1 h.flatten.length,.rs 4 h.length 1 h.length]),(3,.aG 3 1 (h.flatten.map eI)),(4,.aG 3 1 ((lT h).map eI))]
attribute [go_sem] gS
def LV(h:UO)(k:Nat):(h++[List.replicate k 0]).flatten=h.flatten++List.replicate k 0:=jE
def SH(h:UO)(k:Nat):lT (h++[List.replicate k 0])=lT h++[((h.flatten.length+k:Nat):Int)]:=by
 unfold lT;rw[List.length_append,List.length_singleton,List.range_succ,List.map_append,List.map_singleton];congr 1
 ·apply List.map_congr_left;intro j hj;have hj:j<h.length:=List.mem_range.1 hj;congr 1
  unfold kK;rw[List.take_append_of_le_length jB]
 ·congr 2
  unfold kK;rw[List.take_of_length_le jE];simp
def K8(k:Nat):(List.replicate k (0:Int)).map eI=List.replicate k [AV.raw (.int .i64 0)]:=by simp[eI]
def km(p:af):UM:=[aM eN 5 p.aa.nodes,aM fY 5 p.aa.aw,aM eI 1 p.types,aM eI 1 p.slots,aM eI 1 p.fn,aM eI 1 p.size]
def BK(p:af):cf p=km p:=rfl
def bV(p:af)(L:List ay):UL:=[(0,.var 202 (km p++[.rs 1 L.length 4 L.length])),(1,.aG 176 4 (L.map du))]
attribute [go_sem] bV km
def Qt(f:Int->Int->List ay)(k:Int)(L:UP)(i:Nat):(bw f k (L.take i) []).length<=(bw f k L []).length:=by have e:=C4 f (L.take i) (L.drop i) k [];rw[List.take_append_drop]at e;rw[e,vQ f (L.drop i)];simp
def OF(f:Int->Int->List ay)(k:Int)(L:UP)(i:Nat)(h:i<L.length):bw f k (L.take (i+1)) []=bw f k (L.take i) []++f (nth L i) (k+(bw f k (L.take i) []).length):=by rw[show L.take (i+1)=L.take i++[nth L i] by rw[List.take_succ,List.getElem?_eq_getElem h,fM h];rfl,C4];rfl
end Go.Gd
namespace Go.Proofs.YtijdhbokcdpklaaGreatDoor
open Go Go.Gd Tryz
def A9(h:UO)(a:Int)(hl:h.length<=1000)(ha:a<1\/(h.length:Int)<a):ab prog 114 [.pt 2 0 0 0,rI a] (gS h) (fun r l=>r=.raw (.slice none 0 0)/\l=gS h):=by
 have WV:=we h;by_cases h1:a<1
 ·refine aO func114 ntmps114 ?_;refine S ?_
  (repeat' (first|refine aq fun K hK=>?_|refine ak ?_|(refine hK _ _ ?_;clear hK K)|(refine ao ?_ ?_<;>intro hc<;>try exact jz)|refine ap ?_|exact jI|(clear hK K)))
  (refine bY [.tmp 4] ?_ ?_<;>(try simp only[go_sem]))
 ·refine aO func114 ntmps114 ?_;refine S ?_
  (repeat' (first|refine aq fun K hK=>?_|refine ak ?_|(refine hK _ _ ?_;clear hK K)|(refine ao ?_ ?_<;>intro hc<;>try exact jz)|refine ap ?_|exact jI|(clear hK K)))
  (refine bY [.tmp 4] ?_ ?_<;>(try simp only[go_sem]))
def xf(h:UO)(k:Nat)(a:Int)(ha:a=(k:Int)+1)(hl:h.length<=1000)(hf:h.flatten.length<=1000)(hk:k<h.length):ab prog 114 [.pt 2 0 0 0,rI a] (gS h) (fun r l=>r=.rv 3 h.flatten.length 1 (kK h k) (nth h k).length/\l=gS h):=by
 have WV:=we h;have e1:nth (lT h) (a-1).toNat=(kK h k+(nth h k).length:Nat):=by rw[show(a-1).toNat=k from jB,HX hk,vC hk]
 have e2:=vC hk;have e3:=xM h (k+1);generalize (nth h k).length=c at*;by_cases h1:k=0
 ·have e0:kK h k=0:=by subst h1;rfl
  rw[e0]at e1 e2;rw[e0];refine aO func114 ntmps114 ?_;refine S ?_
  (have W:=jA WV e1;repeat' (first|refine aq fun K hK=>?_|refine ak ?_|(refine hK _ _ ?_;clear hK K)|(refine ao ?_ ?_<;>intro hc<;>try exact jz)|refine ap ?_|exact jI|(clear hK K)))
  (refine bY [.tmp 4] ?_ ?_<;>(try simp only[go_sem]))
  rw[Nat.sub_zero]
 ·have e4:nth (lT h) (a-2).toNat=(kK h k:Nat):=by
   have e4:=HX (h:=h) (k:=k-1) jB;rw[show k-1+1=k from jB]at e4;rw[show(a-2).toNat=k-1 from jB];exact e4
  generalize kK h k=o at*;refine aO func114 ntmps114 ?_;refine S ?_
  (have W:=jA WV (jA e1 (e4));repeat' (first|refine aq fun K hK=>?_|refine ak ?_|(refine hK _ _ ?_;clear hK K)|(refine ao ?_ ?_<;>intro hc<;>try exact jz)|refine ap ?_|exact jI|(clear hK K)))
  (refine bY [.tmp 4] ?_ ?_<;>(try simp only[go_sem]))
  rw[Nat.add_sub_cancel_left]
def Ti(h:UO)(a:Int)(hl:h.length<=1000)(hf:h.flatten.length<=1000):ab prog 153 [.pt 2 0 0 0,rI a] (gS h) (fun r l=>r=rI (MV.bn h a).length/\l=gS h):=by
 unfold MV.bn;by_cases e:a<1\/(h.length:Int)<a
 ·have Vn:=A9 h a hl e;rw[if_pos e];refine aO func153 ntmps153 ?_;refine S ?_
  (repeat' (first|refine aq fun K hK=>?_|refine ak ?_|(refine hK _ _ ?_;clear hK K)|(refine ao ?_ ?_<;>intro hc<;>try exact jz)|refine cm (Vn) ?_|refine ap ?_|exact jI|(clear hK K)))
  (refine bY [.tmp 4] ?_ ?_<;>(try simp only[go_sem]))
 ·have Vn:=xf h (a-1).toNat a jB hl hf jB;rw[if_neg e];refine aO func153 ntmps153 ?_;refine S ?_
  (repeat' (first|refine aq fun K hK=>?_|refine ak ?_|(refine hK _ _ ?_;clear hK K)|(refine ao ?_ ?_<;>intro hc<;>try exact jz)|refine cm (Vn) ?_|refine ap ?_|exact jI|(clear hK K)))
  (refine bY [.tmp 4] ?_ ?_<;>(try simp only[go_sem]))
def SN(h:UO)(a i:Int)(hl:h.length<=1000)(hf:h.flatten.length<=1000):ab prog 154 [.pt 2 0 0 0,rI a,rI i] (gS h) (fun r l=>r=.aQ [rI (if i<0\/((MV.bn h a).length:Int)<=i then 0 else nth (MV.bn h a) i.toNat),rI (if i<0\/((MV.bn h a).length:Int)<=i then 2 else 0)]/\l=gS h):=by
 by_cases e:a<1\/(h.length:Int)<a
 ·have Vn:=A9 h a hl e;have e2:MV.bn h a=[]:=by unfold MV.bn;rw[if_pos e]
  have e3:i<0\/(([]:UP).length:Int)<=i:=by simp only[List.length_nil];omega
  rw[e2,if_pos e3,if_pos e3];by_cases h0:i<0
  ·refine aO func154 ntmps154 ?_;refine S ?_
   (repeat' (first|refine aq fun K hK=>?_|refine ak ?_|(refine hK _ _ ?_;clear hK K)|(refine ao ?_ ?_<;>intro hc<;>try exact jz)|refine cm (Vn) ?_|refine ap ?_|exact jI|(clear hK K)))
   (refine bY [.tmp 6,.tmp 7] ?_ ?_<;>(try simp only[go_sem]))
  ·refine aO func154 ntmps154 ?_;refine S ?_
   (repeat' (first|refine aq fun K hK=>?_|refine ak ?_|(refine hK _ _ ?_;clear hK K)|(refine ao ?_ ?_<;>intro hc<;>try exact jz)|refine cm (Vn) ?_|refine ap ?_|exact jI|(clear hK K)))
   (refine bY [.tmp 6,.tmp 7] ?_ ?_<;>(try simp only[go_sem]))
 ·have Vn:=xf h (a-1).toNat a jB hl hf jB;have e2:MV.bn h a=nth h (a-1).toNat:=by unfold MV.bn;rw[if_neg e]
  rw[e2];have hk:(a-1).toNat<h.length:=jB;generalize (a-1).toNat=k at*;have hof:=vC hk;have U6:=xM h (k+1);by_cases e3:i<0\/((nth h k).length:Int)<=i
  ·rw[if_pos e3,if_pos e3];by_cases h0:i<0
   ·refine aO func154 ntmps154 ?_;refine S ?_
    (repeat' (first|refine aq fun K hK=>?_|refine ak ?_|(refine hK _ _ ?_;clear hK K)|(refine ao ?_ ?_<;>intro hc<;>try exact jz)|refine cm (Vn) ?_|refine ap ?_|exact jI|(clear hK K)))
    (refine bY [.tmp 6,.tmp 7] ?_ ?_<;>(try simp only[go_sem]))
   ·refine aO func154 ntmps154 ?_;refine S ?_
    (repeat' (first|refine aq fun K hK=>?_|refine ak ?_|(refine hK _ _ ?_;clear hK K)|(refine ao ?_ ?_<;>intro hc<;>try exact jz)|refine cm (Vn) ?_|refine ap ?_|exact jI|(clear hK K)))
    (refine bY [.tmp 6,.tmp 7] ?_ ?_<;>(try simp only[go_sem]))
  ·rw[if_neg e3,if_neg e3];have hn:=KW (i:=i.toNat) hk jB;refine aO func154 ntmps154 ?_;refine S ?_
   (have W:=hn;repeat' (first|refine aq fun K hK=>?_|refine ak ?_|(refine hK _ _ ?_;clear hK K)|(refine ao ?_ ?_<;>intro hc<;>try exact jz)|refine cm (Vn) ?_|refine ap ?_|exact jI|(clear hK K)))
   (refine bY [.tmp 6,.tmp 7] ?_ ?_<;>(try simp only[go_sem]))
def Og(h:UO)(a i n:Int)(hl:h.length<=1000)(hf:h.flatten.length<=1000)(hi:¬(i<0\/((MV.bn h a).length:Int)<=i)):ab prog 155 [.pt 2 0 0 0,rI a,rI i,rI n] (gS h) (fun r l=>r=rI 0/\l=gS (h.set (a-1).toNat ((nth h (a-1).toNat).set i.toNat n))):=by
 have e:¬(a<1\/(h.length:Int)<a):=fun e=>hi (by unfold MV.bn;rw[if_pos e];simp only[List.length_nil];omega)
 have e2:MV.bn h a=nth h (a-1).toNat:=by unfold MV.bn;rw[if_neg e]
 rw[e2]at hi;have Vn:=xf h (a-1).toNat a jB hl hf jB;have hk:(a-1).toNat<h.length:=jB;generalize (a-1).toNat=k at*;have hof:=vC hk;have U6:=xM h (k+1);have hn:=T4 n hk (i:=i.toNat) jB;have Zk:=N7 (h:=h) (k:=k) ((nth h k).set i.toNat n) (by rw[List.length_set]) hk;have Wb:(h.flatten.set (kK h k+i.toNat) n).length=h.flatten.length:=List.length_set;unfold gS;rw[hn,Zk];simp only[List.length_set,List.map_set];refine aO func155 ntmps155 ?_;refine S ?_
 (repeat' (first|refine aq fun K hK=>?_|refine ak ?_|(refine hK _ _ ?_;clear hK K)|(refine ao ?_ ?_<;>intro hc<;>try exact jz)|refine cm (Vn) ?_|refine ap ?_|exact jI|(clear hK K)))
 (refine bY [.tmp 8] ?_ ?_<;>(try simp only[go_sem]))
def LC(h:UO)(a i n:Int)(hl:h.length<=1000)(hf:h.flatten.length<=1000)(hi:i<0\/((MV.bn h a).length:Int)<=i):ab prog 155 [.pt 2 0 0 0,rI a,rI i,rI n] (gS h) (fun r l=>r=rI 2/\l=gS h):=by
 by_cases e:a<1\/(h.length:Int)<a
 ·have Vn:=A9 h a hl e;by_cases h0:i<0
  ·refine aO func155 ntmps155 ?_;refine S ?_
   (repeat' (first|refine aq fun K hK=>?_|refine ak ?_|(refine hK _ _ ?_;clear hK K)|(refine ao ?_ ?_<;>intro hc<;>try exact jz)|refine cm (Vn) ?_|refine ap ?_|exact jI|(clear hK K)))
   (refine bY [.tmp 8] ?_ ?_<;>(try simp only[go_sem]))
  ·refine aO func155 ntmps155 ?_;refine S ?_
   (repeat' (first|refine aq fun K hK=>?_|refine ak ?_|(refine hK _ _ ?_;clear hK K)|(refine ao ?_ ?_<;>intro hc<;>try exact jz)|refine cm (Vn) ?_|refine ap ?_|exact jI|(clear hK K)))
   (refine bY [.tmp 8] ?_ ?_<;>(try simp only[go_sem]))
 ·have Vn:=xf h (a-1).toNat a jB hl hf jB;have e2:MV.bn h a=nth h (a-1).toNat:=by unfold MV.bn;rw[if_neg e]
  rw[e2]at hi;have hk:(a-1).toNat<h.length:=jB;generalize (a-1).toNat=k at*;have hof:=vC hk;have U6:=xM h (k+1);by_cases h0:i<0
  ·refine aO func155 ntmps155 ?_;refine S ?_
   (repeat' (first|refine aq fun K hK=>?_|refine ak ?_|(refine hK _ _ ?_;clear hK K)|(refine ao ?_ ?_<;>intro hc<;>try exact jz)|refine cm (Vn) ?_|refine ap ?_|exact jI|(clear hK K)))
   (refine bY [.tmp 8] ?_ ?_<;>(try simp only[go_sem]))
  ·refine aO func155 ntmps155 ?_;refine S ?_
   (repeat' (first|refine aq fun K hK=>?_|refine ak ?_|(refine hK _ _ ?_;clear hK K)|(refine ao ?_ ?_<;>intro hc<;>try exact jz)|refine cm (Vn) ?_|refine ap ?_|exact jI|(clear hK K)))
   (refine bY [.tmp 8] ?_ ?_<;>(try simp only[go_sem]))
def Tf(h:UO)(n:Int)(hn:n<0\/16<n)(hl:h.length<=40)(hf:h.flatten.length<=40):ab prog 157 [.pt 2 0 0 0,rI n] (gS h) (fun r l=>r=.aQ [rI 0,rI 7]/\l=gS h):=by
 have WV:=we h;refine aO func157 ntmps157 ?_
 (refine S ?_;try exact jI)
 by_cases h0:n<0
 ·(repeat' (first|refine aq fun K hK=>?_|refine ak ?_|(refine hK _ _ ?_;clear hK K)|(refine ao ?_ ?_<;>intro hc<;>try exact jz)|refine ap ?_|exact jI|(clear hK K)))
  (refine bY [.tmp 4,.tmp 5] ?_ ?_<;>(try simp only[go_sem]))
 ·(repeat' (first|refine aq fun K hK=>?_|refine ak ?_|(refine hK _ _ ?_;clear hK K)|(refine ao ?_ ?_<;>intro hc<;>try exact jz)|refine ap ?_|exact jI|(clear hK K)))
  (refine bY [.tmp 4,.tmp 5] ?_ ?_<;>(try simp only[go_sem]))
def Pe(h:UO)(n:Int)(hn:0<=n/\n<=16)(hc:40<(h.length:Int)+h.flatten.length+n+1)(hl:h.length<=40)(hf:h.flatten.length<=40):ab prog 157 [.pt 2 0 0 0,rI n] (gS h) (fun r l=>r=.aQ [rI 0,rI 4]/\l=gS h):=by
 have WV:=we h;refine aO func157 ntmps157 ?_;refine S ?_
 (repeat' (first|refine aq fun K hK=>?_|refine ak ?_|(with_reducible refine gR 3 ?_);refine dE 3 (ba 0 16) mixed ?_|(refine hK _ _ ?_;clear hK K)|(refine ao ?_ ?_<;>intro hc<;>try exact jz)|refine ap ?_|exact jI|(clear hK K)))
 (refine bY [.tmp 4,.tmp 5] ?_ ?_<;>(try simp only[go_sem]))
def NA(h:UO)(k:Nat)(hn:k<=16)(hc:h.length+h.flatten.length+k+1<=40):ab prog 157 [.pt 2 0 0 0,rI k] (gS h) (fun r l=>r=.aQ [rI (h.length+1:Nat),rI 0]/\l=gS (h++[List.replicate k 0])):=by
 have WV:=we h;unfold gS;rw[LV,SH,List.map_append,K8];refine aO func157 ntmps157 ?_;refine S ?_
 (repeat' (first|refine aq fun K hK=>?_|refine ak ?_|(with_reducible refine gR 3 ?_);refine dE 3 (ba 0 16) mixed ?_|(with_reducible refine gR 6 ?_);refine dE 6 (ba 0 15) mixed ?_|(refine hK _ _ ?_;clear hK K)|(refine ao ?_ ?_<;>intro hc<;>try exact jz)|(refine TU (e:=3) (z0:=.int .i64 0) (css:=h.flatten.map eI) jG ⟨.i64,jG⟩ jG jG rfl (by simp only[go_sem];rfl) (by rw[List.length_map]) (by rw[List.length_map]) (by simp only[go_sem,room,List.length_map];omega) ?_;simp only[List.length_map];try refine S ?_)|refine ap ?_|exact jI|(clear hK K)))
 (refine bY [.tmp 4,.tmp 5] ?_ ?_<;>(try simp only[go_sem]))
 simp[eI]
def oV(p:af)(L:List ay)(a:Int)(h0:0<=a)(h1:a.toNat<p.aa.nodes.length):ab prog 142 [.pt 0 0 0 0,rI a] (bV p L) (fun r l=>r=.agg (eN (au p a))/\l=bV p L):=by
 unfold au;refine aO func142 ntmps142 ?_;refine S ?_
 (repeat' (first|refine aq fun K hK=>?_|refine ak ?_|(refine hK _ _ ?_;clear hK K)|(refine ao ?_ ?_<;>intro hc<;>try exact jz)|refine al 5 ?_|refine ap ?_|exact jI|(clear hK K)))
 (refine aW [.cell 4 66] ?_;try simp only[go_sem])
def jg(p:af)(L:List ay)(op a:Int)(hL:L.length<=1000000):ab prog 126 [.pt 0 0 0 0,rI op,rI a] (bV p L) (fun r l=>r=rI L.length/\l=bV p (L++[⟨op,a,0,sE⟩])):=by
 refine aO func126 ntmps126 ?_;refine S ?_
 (repeat' (first|refine aq fun K hK=>?_|refine ak ?_|(refine hK _ _ ?_;clear hK K)|(refine ao ?_ ?_<;>intro hc<;>try exact jz)|refine ap ?_|exact jI|(clear hK K)))
 (refine aW [.tmp 6] ?_;try simp only[go_sem])
 rw[show((L.length+1:Nat):Int)-1=(L.length:Int) from jB]
def C5(p:af)(L:List ay)(k:Nat)(hk:k<L.length)(hL:L.length<=1000000):ab prog 176 [.pt 0 0 0 0,rI k] (bV p L) (fun r l=>r=.aQ []/\l=bV p (L.set k { nth L k with a:=L.length })):=by
 refine aO func176 ntmps176 ?_;refine S ?_
 (repeat' (first|refine aq fun K hK=>?_|refine ak ?_|(with_reducible refine gR 0 ?_);refine dE 0 (ba 0 13) mixed ?_|(refine hK _ _ ?_;clear hK K)|(refine ao ?_ ?_<;>intro hc<;>try exact jz)|refine ap ?_|exact jI|(clear hK K)))
 (refine bY [] ?_ ?_<;>(try simp only[go_sem]))
def yQ(p:af)(a:Int):List ay:=if(au p a).kind=1 then[iI 2 (au p a).n]else if(au p a).kind=2 then[iI 3 (au p a).n]else if(au p a).kind=3 then[⟨4,0,0,(au p a).name⟩]else if(au p a).kind=4 then[⟨5,nth p.slots a.toNat,nth p.types a.toNat,sE⟩]else if(au p a).kind=19 then[iI 14 0]else[]
def Nz(p:af)(L:List ay)(a:Int)(h0:0<=a)(h2:a.toNat<p.slots.length)(h3:a.toNat<p.types.length)(hL:L.length<=1000000) :
  ab prog 179 [.pt 0 0 0 0,.agg (eN (au p a)),rI a] (bV p L) (fun r l=>r=.aQ []/\l=bV p (L++yQ p a)):=by
 unfold yQ;have We:=jg p L 2 (au p a).n hL;have Yv:=jg p L 3 (au p a).n hL;have hp3:=jg p L 14 0 hL;generalize au p a=nd at*;by_cases k1:nd.kind=1
 ·rw[if_pos k1];refine aO func179 ntmps179 ?_;refine S ?_
  (have W:=k1;repeat' (first|refine aq fun K hK=>?_|refine ak ?_|(refine hK _ _ ?_;clear hK K)|(refine ao ?_ ?_<;>intro hc<;>try exact jz)|refine bx 5 ?_|refine cm (We) ?_|refine ap ?_|exact jI|(clear hK K)))
  (refine aW [] ?_;try simp only[go_sem])
 rw[if_neg k1];have n1:=eq_false k1;by_cases k2:nd.kind=2
 ·rw[if_pos k2];refine aO func179 ntmps179 ?_;refine S ?_
  (have W:=k2;repeat' (first|refine aq fun K hK=>?_|refine ak ?_|(refine hK _ _ ?_;clear hK K)|(refine ao ?_ ?_<;>intro hc<;>try exact jz)|refine bx 5 ?_|refine cm (Yv) ?_|refine ap ?_|exact jI|(clear hK K)))
  (refine aW [] ?_;try simp only[go_sem])
 rw[if_neg k2];have n2:=eq_false k2;by_cases k3:nd.kind=3
 ·rw[if_pos k3];refine aO func179 ntmps179 ?_;refine S ?_
  (have W:=k3;repeat' (first|refine aq fun K hK=>?_|refine ak ?_|(with_reducible refine gR 7 ?_);refine dE 7 (ba 0 13) mixed ?_|(refine hK _ _ ?_;clear hK K)|(refine ao ?_ ?_<;>intro hc<;>try exact jz)|refine bx 5 ?_|refine ap ?_|exact jI|(clear hK K)))
  (refine aW [] ?_;try simp only[go_sem])
 rw[if_neg k3];have n3:=eq_false k3;by_cases k4:nd.kind=4
 ·rw[if_pos k4];refine aO func179 ntmps179 ?_;refine S ?_
  (have W:=k4;repeat' (first|refine aq fun K hK=>?_|refine ak ?_|(with_reducible refine gR 9 ?_);refine dE 9 (ba 0 27) mixed ?_|(refine hK _ _ ?_;clear hK K)|(refine ao ?_ ?_<;>intro hc<;>try exact jz)|refine bx 5 ?_|refine ap ?_|exact jI|(clear hK K)))
  (refine aW [] ?_;try simp only[go_sem])
 rw[if_neg k4];have n4:=eq_false k4;by_cases k5:nd.kind=19
 ·rw[if_pos k5];refine aO func179 ntmps179 ?_;refine S ?_
  (have W:=k5;repeat' (first|refine aq fun K hK=>?_|refine ak ?_|(refine hK _ _ ?_;clear hK K)|(refine ao ?_ ?_<;>intro hc<;>try exact jz)|refine bx 5 ?_|refine cm (hp3) ?_|refine ap ?_|exact jI|(clear hK K)))
  (refine aW [] ?_;try simp only[go_sem])
 rw[if_neg k5,List.append_nil];have n5:=eq_false k5;refine aO func179 ntmps179 ?_;refine S ?_
 (have W:=jA n1 (jA n2 (jA n3 (jA n4 (n5))));repeat' (first|refine aq fun K hK=>?_|refine ak ?_|(refine hK _ _ ?_;clear hK K)|(refine ao ?_ ?_<;>intro hc<;>try exact jz)|refine bx 5 ?_|refine ap ?_|exact jI|(clear hK K)))
 (refine aW [] ?_;try simp only[go_sem])
attribute [local go_sem] iI
theorem Ci{p:af}(ht:aR p.aa):∀(n m:Nat) (a k:Int),0<=a->a.toNat<p.aa.nodes.length->cS (bX p.aa.nodes a)->a.toNat<n->a.toNat<m->bo p n a k=bo p m a k
 |0,m,a,k,_,_,_,hn,_=>by omega
 |n+1,0,a,k,_,_,_,_,hm=>jB
 |n+1,m+1,a,k,h0,hl,hk,hn,hm=>by
  have sh:=(ht.shape a.toNat hl).1;have hb:=(ht.shape a.toNat hl).2.1;have Vk:cS (au p a).kind:=hk;unfold cS at Vk;have aF:∀x k,x∈(au p a).l->cS (bX p.aa.nodes x)->bo p n x k=bo p m x k:=fun x k hx Vs=>by have:=hb x hx;exact Ci ht n m x k this.1 jB Vs jB jB
  rw[mc,mc];have VG:(au p a).kind=1\/(au p a).kind=2\/(au p a).kind=3\/(au p a).kind=4\/((au p a).kind=5\/(au p a).kind=6\/(au p a).kind=7\/(au p a).kind=8)\/(au p a).kind=9:=jB;rcases VG with e|e|e|e|e|e
  ·rw[if_pos e,if_pos e]
  ·rw[jN,if_pos e,jN,if_pos e]
  ·rw[jN,jN,if_pos e,jN,jN,if_pos e]
  ·rw[jN,jN,jN,if_pos e,jN,jN,jN,if_pos e]
  ·obtain⟨x,u',hx⟩:=sh.one (by have e:(nth p.aa.nodes a.toNat).kind=5\/(nth p.aa.nodes a.toNat).kind=6\/(nth p.aa.nodes a.toNat).kind=7\/(nth p.aa.nodes a.toNat).kind=8:=e;omega);have u':(au p a).l=[x]:=u';have V6:nth (au p a).l 0=x:=by rw[u'];rfl
   have e1:=aF x k (by rw[u'];simp) hx;rw[V6,e1];rcases e with e|e|e|e<;>simp only[e,Int.reduceEq,↓reduceIte]
  ·obtain⟨x,y,u',hx,hy⟩:=sh.two (.inl e);have u':(au p a).l=[x,y]:=u';have V6:nth (au p a).l 0=x:=by rw[u'];rfl
   have YW:nth (au p a).l 1=y:=by rw[u'];rfl
   have e1:=fun k=>aF x k (by rw[u'];simp) hx
   have e2:=fun k=>aF y k (by rw[u'];simp) hy
   rw[V6,YW];simp only[e,e1,e2,Int.reduceEq,↓reduceIte]
structure fg(p:af):Prop where
 ok:gi p
 neg:∀k,k<p.aa.nodes.length->¬jY (nth p.aa.nodes k).kind->nth p.slots k<=0
 pos:∀k,k<p.aa.nodes.length->jY (nth p.aa.nodes k).kind->0<=nth p.slots k
def Cp(p:af)(n:Nat):Prop:=∀(a:Int) (L:List ay),0<=a->a.toNat<p.aa.nodes.length->fy (bX p.aa.nodes a)->a.toNat<n->¬(1000000<L.length+3000*n)->ab prog 168 [.pt 0 0 0 0,rI a] (bV p L) (fun r l=>r=.aQ []/\l=bV p (L++jy p n a L.length))
variable{p:af}{n:Nat}
def nt{a k:Int}(h:cS (bX p.aa.nodes a)):jy p n a k=bo p n a k:=by have h:cS (au p a).kind:=h;unfold cS at h;rw[ud,jN,jN,jN]
def LZ(hp:fg p)(hx:Cp p n)(a:Int)(L:List ay)(h0:0<=a)(hl:a.toNat<p.aa.nodes.length)(hk:(au p a).kind=9)(hn:a.toNat<n+1)(hL:¬(1000000<L.length+3000*(n+1))):ab prog 177 [.pt 0 0 0 0,.agg (eN (au p a))] (bV p L) (fun r l=>r=.aQ []/\l=bV p (L++bo p (n+1) a L.length)):=by
 have ht:=hp.ok.ok.aa;have hb:=(ht.shape a.toNat hl).2.1;obtain⟨x,y,u',Vy,Yw⟩:=(ht.shape a.toNat hl).1.two (.inl hk);have u':(au p a).l=[x,y]:=u';have V6:nth (au p a).l 0=x:=by rw[u'];rfl
 have YW:nth (au p a).l 1=y:=by rw[u'];rfl
 have bx:=hb x (by show x∈(au p a).l;rw[u'];simp);have by_:=hb y (by show y∈(au p a).l;rw[u'];simp);have O':=fun(z:Int) (k:Int) (lo:Nat)=>@mC p ht n z k lo
 obtain⟨lo,U3⟩:=(ht.shape a.toNat hl).2.2;have U3:aL p.aa.nodes lo (au p a).l a.toNat:=U3;rw[u']at U3;obtain⟨c1,c2,c3,c4,c5,c6⟩:=kM U3;obtain⟨d1,d2,d3,d4,d5⟩:=kG c6;have lx:=fun k=>O' x k lo c1 jB Vy c5
 have ly:=fun k=>O' y k _ d1 jB Yw d5
 have hm:=ht.many;have ex:=hx x L bx.1 jB (.inl Vy) jB jB;rw[nt Vy]at ex;have ey:=fun(M:List ay) (hM:M.length<=L.length+2900)=>hx y M by_.1 jB (.inl Yw) jB jB
 have hL:¬(997000<L.length):=jB;clear hx;rename_i hL0;clear hL0;simp only[nt Yw]at ey;have e9:bo p (n+1) a L.length=(let x:=bo p n x L.length;if lj (au p a).name=7 then x++bo p n y (L.length+x.length)++[⟨7,0,0,(au p a).name⟩]else let y:=bo p n y (L.length+x.length+1);x++[iI (lj (au p a).name) (L.length+x.length+1+y.length)]++y):=by rw[mc];simp only[hk,V6,YW,Int.reduceEq,↓reduceIte]
 rw[e9];clear e9;generalize hX:bo p n x (L.length:Int)=X at*;have lX:X.length<=1300:=by have:=lx L.length;rw[hX]at this;omega
 have pt:=fun op=>jg p (L++X) op 0 (by simp only[List.length_append];omega)
 have ey1:=ey (L++X) (by simp only[List.length_append];omega);generalize au p a=nd at*;by_cases k1:nd.name=(⟨#[38,38]⟩:UR)
 ·rw[k1];have hs:lj (⟨#[38,38]⟩:UR)=18:=by unfold lj;rw[if_pos rfl]
  simp only[hs,Int.reduceEq,↓reduceIte];rw[show(L.length:Int)+X.length+1=((L++X++[iI 18 0]).length:Nat) by simp;omega];have ey2:=ey (L++X++[iI 18 0]) (by simp only[List.length_append,List.length_singleton];omega);generalize hY:bo p n y ((L++X++[iI 18 0]).length:Int)=Y at*;have lY:Y.length<=1300:=by have:=ly (L++X++[iI 18 0]).length;rw[hY]at this;omega
  have hh:=C5 p (L++X++[iI 18 0]++Y) (L++X).length (by simp only[List.length_append,List.length_singleton];omega) (by simp only[List.length_append,List.length_singleton];omega);rw[show nth (L++X++[iI 18 0]++Y) (L++X).length=iI 18 0 by rw[List.append_assoc];simp[nth]]at hh;have e8:(L++X++[iI 18 0]++Y).set (L++X).length ⟨18,((L++X++[iI 18 0]++Y).length:Nat),0,sE⟩=L++(X++[iI 18 (((L++X++[iI 18 0]).length:Nat)+Y.length)]++Y):=by rw[List.append_assoc,List.set_append_right _ _ jl,Nat.sub_self];simp[iI];omega
  have e8:bV p ((L++X++[iI 18 0]++Y).set (L++X).length { iI 18 0 with a:=((L++X++[iI 18 0]++Y).length:Nat) })=bV p (L++(X++[iI 18 (((L++X++[iI 18 0]).length:Nat)+Y.length)]++Y)):=by rw[<-e8];rfl
  rw[e8,show(L++X).length=L.length+X.length from List.length_append]at hh;clear e8;have YI:=pt 18;refine aO func177 ntmps177 ?_
  (refine S ?_;try exact jI)
  have d1:(((⟨#[124,124]⟩:UR):UR)=(⟨#[38,38]⟩:UR))=False:=eq_false jC;have k1':(nd.name=(⟨#[38,38]⟩:UR))=True:=eq_true k1
  (have W:=jA k1' (jA u' (d1));repeat' (first|refine aq fun K hK=>?_|refine ak ?_|(refine hK _ _ ?_;clear hK K)|(refine ao ?_ ?_<;>intro hc<;>try exact jz)|refine cm (ex) ?_|refine tY 6 ?_|refine u6 [] rE ?_|refine u6 [(⟨#[38,38]⟩:UR)] rE ?_|refine p4 (n:=nd.name) (vs:=[rI 18,rI 19]) [(⟨#[38,38]⟩:UR),(⟨#[124,124]⟩:UR)] (.int .i64 0) (.aQ [rI 18,rB true]) rE jG (by unfold oG;rw[if_pos rfl];simp only[pI,k1,↓reduceIte]) ?_|refine cm (YI) ?_|refine cm (ey2) ?_|refine cm (hh) ?_|refine ap ?_|exact jI|(clear hK K)))
  (refine aW [] ?_;try simp only[go_sem])
 by_cases k2:nd.name=(⟨#[124,124]⟩:UR)
 ·rw[k2];have hs:lj (⟨#[124,124]⟩:UR)=19:=by unfold lj;rw[if_neg jC,if_pos rfl]
  simp only[hs,Int.reduceEq,↓reduceIte];rw[show(L.length:Int)+X.length+1=((L++X++[iI 19 0]).length:Nat) by simp;omega];have ey2:=ey (L++X++[iI 19 0]) (by simp only[List.length_append,List.length_singleton];omega);generalize hY:bo p n y ((L++X++[iI 19 0]).length:Int)=Y at*;have lY:Y.length<=1300:=by have:=ly (L++X++[iI 19 0]).length;rw[hY]at this;omega
  have hh:=C5 p (L++X++[iI 19 0]++Y) (L++X).length (by simp only[List.length_append,List.length_singleton];omega) (by simp only[List.length_append,List.length_singleton];omega);rw[show nth (L++X++[iI 19 0]++Y) (L++X).length=iI 19 0 by rw[List.append_assoc];simp[nth]]at hh;have e8:(L++X++[iI 19 0]++Y).set (L++X).length ⟨19,((L++X++[iI 19 0]++Y).length:Nat),0,sE⟩=L++(X++[iI 19 (((L++X++[iI 19 0]).length:Nat)+Y.length)]++Y):=by rw[List.append_assoc,List.set_append_right _ _ jl,Nat.sub_self];simp[iI];omega
  have e8:bV p ((L++X++[iI 19 0]++Y).set (L++X).length { iI 19 0 with a:=((L++X++[iI 19 0]++Y).length:Nat) })=bV p (L++(X++[iI 19 (((L++X++[iI 19 0]).length:Nat)+Y.length)]++Y)):=by rw[<-e8];rfl
  rw[e8,show(L++X).length=L.length+X.length from List.length_append]at hh;clear e8;have YI:=pt 19;refine aO func177 ntmps177 ?_
  (refine S ?_;try exact jI)
  have d1:(((⟨#[124,124]⟩:UR):UR)=(⟨#[38,38]⟩:UR))=False:=eq_false jC;have k2':(nd.name=(⟨#[124,124]⟩:UR))=True:=eq_true k2
  (have W:=jA k2' (jA u' (d1));repeat' (first|refine aq fun K hK=>?_|refine ak ?_|(refine hK _ _ ?_;clear hK K)|(refine ao ?_ ?_<;>intro hc<;>try exact jz)|refine cm (ex) ?_|refine tY 6 ?_|refine u6 [] rE ?_|refine u6 [(⟨#[38,38]⟩:UR)] rE ?_|refine p4 (n:=nd.name) (vs:=[rI 18,rI 19]) [(⟨#[38,38]⟩:UR),(⟨#[124,124]⟩:UR)] (.int .i64 0) (.aQ [rI 19,rB true]) rE jG (by unfold oG;rw[if_pos rfl];simp only[pI,k2,d1,↓reduceIte]) ?_|refine cm (YI) ?_|refine cm (ey2) ?_|refine cm (hh) ?_|refine ap ?_|exact jI|(clear hK K)))
  (refine aW [] ?_;try simp only[go_sem])
 have n1:=eq_false k1;have n2:=eq_false k2;have hs:lj nd.name=7:=by unfold lj;rw[if_neg k1,if_neg k2]
 simp only[hs,↓reduceIte];rw[show(L.length:Int)+X.length=((L++X).length:Nat) from jE];generalize hY:bo p n y ((L++X).length:Int)=Y at*;have lY:Y.length<=1300:=by have:=ly (L++X).length;rw[hY]at this;omega
 simp only[<-List.append_assoc];refine aO func177 ntmps177 ?_
 (refine S ?_;try exact jI)
 have d1:(((⟨#[124,124]⟩:UR):UR)=(⟨#[38,38]⟩:UR))=False:=eq_false jC
 (have W:=jA n1 (jA n2 (jA u' (d1)));repeat' (first|refine aq fun K hK=>?_|refine ak ?_|(with_reducible refine gR 6 ?_);refine dE 6 (ba 0 13) mixed ?_|(refine hK _ _ ?_;clear hK K)|(refine ao ?_ ?_<;>intro hc<;>try exact jz)|refine cm (ex) ?_|refine tY 6 ?_|refine u6 [] rE ?_|refine u6 [(⟨#[38,38]⟩:UR)] rE ?_|refine p4 (n:=nd.name) (vs:=[rI 18,rI 19]) [(⟨#[38,38]⟩:UR),(⟨#[124,124]⟩:UR)] (.int .i64 0) (.aQ [rI 0,rB false]) rE jG (by unfold oG;rw[if_pos rfl];simp only[pI,k1,k2,↓reduceIte]) ?_|refine cm (ey1) ?_|refine ap ?_|exact jI|(clear hK K)))
 (refine aW [] ?_;try simp only[go_sem])
def A2(p:af)(f:FuncId)(hf:aS prog f=true)(g:Int->Int->List ay)(l:UP)(L:List ay)(hl:l.length<=1000)(B:Nat)(hB:¬(B<L.length+(bw g L.length l []).length))
  (hc:∀x∈l,∀M:List ay,¬(B<M.length)->ab prog f [.pt 0 0 0 0,rI x] (bV p M) (fun r l=>r=.aQ []/\l=bV p (M++g x M.length))) :
  ab prog 141 [aM eI 1 l,.bd f [.pt 0 0 0 0]] (bV p L) (fun r l'=>r=.aQ []/\l'=bV p (L++bw g L.length l [])):=by
 refine aO func141 ntmps141 ?_;generalize hE:bV p (L++bw g L.length l [])=E;refine S ?_
 (repeat' (first|refine aq fun K hK=>?_|refine ak ?_|(refine hK _ _ ?_;clear hK K)|(refine ao ?_ ?_<;>intro hc<;>try exact jz)|refine ap ?_|exact jI|(clear hK K)))
 refine ee (S:=Nat) [(5,1),(8,8)] (fun k=>k<=l.length) (fun k=>[(8,rI k)]) (fun k=>⟨[0,1],bV p (L++bw g L.length (l.take k) [])⟩) (fun k=>l.length-k) 0 jB (dZ (by show _=Hp.mk _ (bV p (L++[]));rw[List.append_nil];rfl) cr) ?_;rintro k hk Kr U5;have U6:=Qt g L.length l k;by_cases I':k<l.length
 ·have Yh:=hc (nth l k) (fa I') (L++bw g L.length (l.take k) []) (by rw[List.length_append];omega);have hs:=OF g L.length l k I';rw[List.append_assoc,show((L++bw g L.length (l.take k) []).length:Int)=L.length+(bw g L.length (l.take k) []).length by rw[List.length_append];rfl,<-hs]at Yh;generalize hX:bw g L.length (l.take k) []=X at*;generalize hY:bw g L.length (l.take (k+1)) []=Y at*;refine S ?_
  (have W:=hf;repeat' (first|refine aq fun K hK=>?_|refine ak ?_|(refine hK _ _ ?_;clear hK K)|(refine ao ?_ ?_<;>intro hc<;>try exact jz)|refine bm Yh ?_|refine ap ?_|exact jI|(clear hK K)))
  refine U5 _ _ (dY (k+1) jB jJ (by rw[hY];simp only[bV,km,List.length_append,List.map_append,List.cons_append,List.nil_append]) cr)
 ·have e:k=l.length:=jB;subst e;rw[List.take_length,hE];refine S ?_
  (repeat' (first|refine aq fun K hK=>?_|refine ak ?_|(refine hK _ _ ?_;clear hK K)|(refine ao ?_ ?_<;>intro hc<;>try exact jz)|refine ap ?_|exact jI|(clear hK K)))
  (refine bY [] ?_ ?_<;>(try simp only[go_sem]))
def Uk(n:bq)(f:bj):ab prog 184 [.agg (fY f),.pt 4 0 0 0] [(4,.var 66 (eN n))] (fun r l=>r=rB (decide (f.name=n.name))/\l=[(4,.var 66 (eN n))]):=by
 refine aO func184 ntmps184 ?_
 (repeat' (first|refine aq fun K hK=>?_|refine ak ?_|(refine hK _ _ ?_;clear hK K)|(refine ao ?_ ?_<;>intro hc<;>try exact jz)|refine bx 5 ?_|refine ap ?_|exact jI|(clear hK K)))
 (refine aW [.tmp 3] ?_;try simp only[go_sem])
def T6(n:bq)(L:List bj)(k:Nat)(hL:L.length<=1000)(hk:k<L.length)(Vd:(nth L k).name=n.name)(Xc:∀i,i<k->(nth L i).name≠n.name) :
  ab prog 127 [aM fY 5 L,.dW 184 [.pt 4 0 0 0]] [(4,.var 66 (eN n))] (fun r l=>r=rI k/\l=[(4,.var 66 (eN n))]):=by
 refine aO func127 ntmps127 ?_
 (repeat' (first|refine aq fun K hK=>?_|refine ak ?_|(refine hK _ _ ?_;clear hK K)|(refine ao ?_ ?_<;>intro hc<;>try exact jz)|refine ap ?_|exact jI|(clear hK K)))
 refine ee (S:=Nat) [(4,2),(8,11)] (fun i=>i<=k) (fun i=>[(8,rI i)]) (fun i=>⟨[4],[(4,.var 66 (eN n))]⟩) (fun i=>k-i) 0 jB (dZ rfl cr) ?_;rintro i hi Kr U5;have Xv:=Uk n (nth L i);by_cases e:i=k
 ·subst e;rw[decide_eq_true Vd]at Xv;refine S ?_
  (repeat' (first|refine aq fun K hK=>?_|refine ak ?_|(refine hK _ _ ?_;clear hK K)|(refine ao ?_ ?_<;>intro hc<;>try exact jz)|refine cl Xv ?_|refine ap ?_|exact jI|(clear hK K)))
  (refine aW [.tmp 4] ?_;try simp only[go_sem])
 ·rw[decide_eq_false (Xc i jB)]at Xv;refine S ?_
  (repeat' (first|refine aq fun K hK=>?_|refine ak ?_|(refine hK _ _ ?_;clear hK K)|(refine ao ?_ ?_<;>intro hc<;>try exact jz)|refine cl Xv ?_|refine ap ?_|exact jI|(clear hK K)))
  refine U5 _ _ (dY (i+1) jB jJ rfl cr)
def MY(hp:fg p)(hx:Cp p n)(a:Int)(L:List ay)(h0:0<=a)(hl:a.toNat<p.aa.nodes.length)(hk:(au p a).kind=21)(hn:a.toNat<n+1)(hL:¬(1000000<L.length+3000*(n+1))):ab prog 178 [.pt 0 0 0 0,.agg (eN (au p a))] (bV p L) (fun r l=>r=.aQ []/\l=bV p (L++cI p n a L.length)):=by
 have ht:=hp.ok.ok.aa;have hbe:=ht.aw;have hm:=ht.many;have hb:=(ht.shape a.toNat hl).2.1;have VC:=(ht.shape a.toNat hl).1.call hk;obtain⟨lo,U3⟩:=(ht.shape a.toNat hl).2.2;have O':=AZ ht n (L.length:Int) lo hl hk U3;obtain⟨k,hc⟩:=callee hp.ok hl hk;have XA:=T6 (au p a) p.aa.aw k jB hc.lt hc.name (fun i hi=>by have:=hp.ok.names.one i k hi hc.lt;rwa [hc.name]at this);have hlc:(cI p n a L.length).length=(bw (bo p n) (L.length:Int) (au p a).l []).length+1:=by unfold cI;simp
 have WK:=A2 p 168 jD (bo p n) (au p a).l L (by have:=hc.Di;omega) (1000000-3000*n) jB (fun x XB M hM=>by have Y7:=hb x XB;have Vs:=VC x XB;have:=hx x M Y7.1 jB (.inl Vs) jB jB;rwa [nt Vs]at this)
 have Vn:Dj p a=k:=hc.last;unfold cI;rw[Vn];have hL:¬(997000<L.length):=jB;rename_i hL0;clear hx hL0;have hbg:=hc.Di;generalize au p a=nd at*;generalize hX:bw (bo p n) (L.length:Int) nd.l []=X at*;simp only[<-List.append_assoc];refine aO func178 ntmps178 ?_;refine S ?_
 (repeat' (first|refine aq fun K hK=>?_|refine ak ?_|(with_reducible refine gR 3 ?_);refine dE 3 (ba 0 15) mixed ?_|(refine hK _ _ ?_;clear hK K)|(refine ao ?_ ?_<;>intro hc<;>try exact jz)|refine aV 4 ?_|refine cm (WK) ?_|refine cm (XA) ?_|refine ap ?_|exact jI|(clear hK K)))
 (refine aW [] ?_;try simp only[go_sem])
attribute [local go_sem] iI
def Qk(a x:Int)(L X:List ay)(op:Int)(h0:0<=a)(hl:a.toNat<p.aa.nodes.length)(hs:a.toNat<p.slots.length)(u':(au p a).l=[x])(hL:¬(1000000<(L++X).length))
  (hm:oG (au p a).kind [6,7,8,20,5] [rI 10,rI 8,rI 9,rI 13,rI 11] (.raw (.int .i64 0)) true=.aQ [rI op,rB true])
  (ex:ab prog 168 [.pt 0 0 0 0,rI x] (bV p L) (fun r l=>r=.aQ []/\l=bV p (L++X))) :
  ab prog 168 [.pt 0 0 0 0,rI a] (bV p L) (fun r l=>r=.aQ []/\l=bV p (L++X++[iI op (if nth p.slots a.toNat<0 then 0 else nth p.slots a.toNat)])):=by
 have p':=oV p L a h0 hl;have YI:=fun v=>jg p (L++X) op v jB
 generalize au p a=nd at*;refine aO func168 ntmps168 ?_;refine S ?_
 (have W:=u';repeat' (first|refine aq fun K hK=>?_|refine ak ?_|(refine hK _ _ ?_;clear hK K)|(refine ao ?_ ?_<;>intro hc<;>try exact jz)|refine al 5 ?_|refine cm (p') ?_|refine tY 6 ?_|refine lb [] jX ?_|refine lb [6] jX ?_|refine lb [6,7] jX ?_|refine lb [6,7,8] jX ?_|refine lb [6,7,8,20] jX ?_|refine zq (n:=nd.kind) (vs:=[rI 10,rI 8,rI 9,rI 13,rI 11]) [6,7,8,20,5] (.int .i64 0) (.aQ [rI op,rB true]) jX jG hm ?_|refine cm (ex) ?_|refine cm (YI _) ?_|refine ap ?_|exact jI|(clear hK K)))
 (refine aW [] ?_;try simp only[go_sem])
def TM(a:Int)(L X:List ay)(h0:0<=a)(hl:a.toNat<p.aa.nodes.length)
  (hm:oG (au p a).kind [6,7,8,20,5] [rI 10,rI 8,rI 9,rI 13,rI 11] (.raw (.int .i64 0)) true=.aQ [rI 0,rB false]) (hk:(au p a).kind=9)
  (ex:ab prog 177 [.pt 0 0 0 0,.agg (eN (au p a))] (bV p L) (fun r l=>r=.aQ []/\l=bV p (L++X))) :
  ab prog 168 [.pt 0 0 0 0,rI a] (bV p L) (fun r l=>r=.aQ []/\l=bV p (L++X)):=by
 have p':=oV p L a h0 hl;generalize au p a=nd at*;rw[hk]at hm;refine aO func168 ntmps168 ?_;refine S ?_
 (have W:=hk;repeat' (first|refine aq fun K hK=>?_|refine ak ?_|(refine hK _ _ ?_;clear hK K)|(refine ao ?_ ?_<;>intro hc<;>try exact jz)|refine al 5 ?_|refine cm (p') ?_|refine tY 6 ?_|refine lb [] jX ?_|refine lb [6] jX ?_|refine lb [6,7] jX ?_|refine lb [6,7,8] jX ?_|refine lb [6,7,8,20] jX ?_|refine zq (n:=9) (vs:=[rI 10,rI 8,rI 9,rI 13,rI 11]) [6,7,8,20,5] (.int .i64 0) (.aQ [rI 0,rB false]) jX jG hm ?_|refine cm (ex) ?_|refine ap ?_|exact jI|(clear hK K)))
 (refine aW [] ?_;try simp only[go_sem])
def Mj(a:Int)(L X:List ay)(h0:0<=a)(hl:a.toNat<p.aa.nodes.length)
  (hm:oG (au p a).kind [6,7,8,20,5] [rI 10,rI 8,rI 9,rI 13,rI 11] (.raw (.int .i64 0)) true=.aQ [rI 0,rB false]) (hk:(au p a).kind=21)
  (ex:ab prog 178 [.pt 0 0 0 0,.agg (eN (au p a))] (bV p L) (fun r l=>r=.aQ []/\l=bV p (L++X))) :
  ab prog 168 [.pt 0 0 0 0,rI a] (bV p L) (fun r l=>r=.aQ []/\l=bV p (L++X)):=by
 have p':=oV p L a h0 hl;generalize au p a=nd at*;rw[hk]at hm;refine aO func168 ntmps168 ?_;refine S ?_
 (have W:=hk;repeat' (first|refine aq fun K hK=>?_|refine ak ?_|(refine hK _ _ ?_;clear hK K)|(refine ao ?_ ?_<;>intro hc<;>try exact jz)|refine al 5 ?_|refine cm (p') ?_|refine tY 6 ?_|refine lb [] jX ?_|refine lb [6] jX ?_|refine lb [6,7] jX ?_|refine lb [6,7,8] jX ?_|refine lb [6,7,8,20] jX ?_|refine zq (n:=21) (vs:=[rI 10,rI 8,rI 9,rI 13,rI 11]) [6,7,8,20,5] (.int .i64 0) (.aQ [rI 0,rB false]) jX jG hm ?_|refine cm (ex) ?_|refine ap ?_|exact jI|(clear hK K)))
 (refine aW [] ?_;try simp only[go_sem])
def Mx(a:Int)(L X:List ay)(h0:0<=a)(hl:a.toNat<p.aa.nodes.length)
  (hm:oG (au p a).kind [6,7,8,20,5] [rI 10,rI 8,rI 9,rI 13,rI 11] (.raw (.int .i64 0)) true=.aQ [rI 0,rB false]) (hk:(au p a).kind≠9) (Vc:(au p a).kind≠21)
  (ex:ab prog 179 [.pt 0 0 0 0,.agg (eN (au p a)),rI a] (bV p L) (fun r l=>r=.aQ []/\l=bV p (L++X))) :
  ab prog 168 [.pt 0 0 0 0,rI a] (bV p L) (fun r l=>r=.aQ []/\l=bV p (L++X)):=by
 have p':=oV p L a h0 hl;generalize au p a=nd at*;have n1:=eq_false hk;have n2:=eq_false Vc;refine aO func168 ntmps168 ?_;refine S ?_
 (have W:=jA n1 n2;repeat' (first|refine aq fun K hK=>?_|refine ak ?_|(refine hK _ _ ?_;clear hK K)|(refine ao ?_ ?_<;>intro hc<;>try exact jz)|refine al 5 ?_|refine cm (p') ?_|refine tY 6 ?_|refine lb [] jX ?_|refine lb [6] jX ?_|refine lb [6,7] jX ?_|refine lb [6,7,8] jX ?_|refine lb [6,7,8,20] jX ?_|refine zq (n:=nd.kind) (vs:=[rI 10,rI 8,rI 9,rI 13,rI 11]) [6,7,8,20,5] (.int .i64 0) (.aQ [rI 0,rB false]) jX jG hm ?_|refine cm (ex) ?_|refine ap ?_|exact jI|(clear hK K)))
 (refine aW [] ?_;try simp only[go_sem])
def SZ(ht:aR p.aa)(n m:Nat)(a k:Int)(hl:a.toNat<p.aa.nodes.length)(hk:(au p a).kind=21)(hn:a.toNat<=n)(hm:a.toNat<=m):cI p n a k=cI p m a k:=by
 have hb:=(ht.shape a.toNat hl).2.1;have VC:=(ht.shape a.toNat hl).1.call hk;unfold cI;rw[GZ (au p a).l k [] fun x hx j=>by have Y7:=hb x hx;exact Ci ht n m x j Y7.1 jB (VC x hx) jB jB]
theorem GF{p:af}(hp:fg p):∀n,Cp p n
 |0=>fun a L h0 hl hk hn hL=>by omega
 |n+1=>fun a L h0 hl hk hn hL=>by
  have hx:=GF hp n;have ht:=hp.ok.ok.aa;have hm:=ht.many;have hb:=(ht.shape a.toNat hl).2.1;have V5:p.slots.length=p.aa.nodes.length:=hp.ok.ok.slots;have XG:p.types.length=p.aa.nodes.length:=hp.ok.ok.types;have sh:=(ht.shape a.toNat hl).1;have Vk:fy (au p a).kind:=hk;unfold fy cS at Vk;have aF:∀x k,x∈(au p a).l->cS (bX p.aa.nodes x)->bo p (n+1) x k=bo p n x k:=fun x k hx Vs=>by have:=hb x hx;exact Ci ht (n+1) n x k this.1 jB Vs jB jB
  by_cases e21:(au p a).kind=21
  ·have h1:=MY hp hx a L h0 hl e21 hn jB;rw[show jy p (n+1) a L.length=cI p n a L.length by rw[ud,jN,jN,if_pos e21];exact SZ ht _ _ a _ hl e21 jB jB];exact Mj a L _ h0 hl (by rw[e21];rfl) e21 h1
  by_cases e9:(au p a).kind=9
  ·have h1:=LZ hp hx a L h0 hl e9 hn jB;rw[nt (show cS _ by unfold cS;show 1<=(au p a).kind/\(au p a).kind<=9;omega)];exact TM a L _ h0 hl (by rw[e9];rfl) e9 h1
  have XH:∀op k,(au p a).kind=k->(k=5\/k=6\/k=7\/k=8\/k=20)->oG k [6,7,8,20,5] [rI 10,rI 8,rI 9,rI 13,rI 11] (.raw (.int .i64 0)) true=.aQ [rI op,rB true]->∃x X,(au p a).l=[x]/\bo p n x L.length=X/\bo p (n+1) x L.length=X/\
    ab prog 168 [.pt 0 0 0 0,rI a] (bV p L) (fun r l=>r=.aQ []/\l=bV p (L++(X++[iI op (if nth p.slots a.toNat<0 then 0 else nth p.slots a.toNat)]))):=fun op k e hk5 hm5=>by
   obtain⟨x,u',Vy⟩:=sh.one (by have e:(nth p.aa.nodes a.toNat).kind=k:=e;omega);have u':(au p a).l=[x]:=u';have Y7:=hb x (by show x∈(au p a).l;rw[u'];simp);obtain⟨lo,U3⟩:=(ht.shape a.toNat hl).2.2;have U3:aL p.aa.nodes lo (au p a).l a.toNat:=U3;rw[u']at U3;obtain⟨d1,d2,d3,d4,d5⟩:=kG U3;have lx:=mC ht n x L.length lo d1 jB Vy d5;have ex:=hx x L Y7.1 jB (.inl Vy) jB jB;rw[nt Vy]at ex;refine⟨x,bo p n x L.length,u',rfl,aF x _ (by rw[u'];simp) Vy,?_⟩;rw[<-List.append_assoc];exact Qk a x L _ op h0 hl jB u' (by rw[List.length_append];omega) (by rw[e];exact hm5) ex
  have neg:(au p a).kind=6\/(au p a).kind=7\/(au p a).kind=8\/(au p a).kind=20->(if nth p.slots a.toNat<0 then 0 else nth p.slots a.toNat)=0:=fun e=>by have:=hp.neg a.toNat hl (by unfold jY;have e:(nth p.aa.nodes a.toNat).kind=6\/(nth p.aa.nodes a.toNat).kind=7\/(nth p.aa.nodes a.toNat).kind=8\/(nth p.aa.nodes a.toNat).kind=20:=e;omega);split<;>omega
  by_cases e5:(au p a).kind=5
  ·obtain⟨x,X,h1,h2,Zy,h3⟩:=XH 11 5 e5 jB rfl;have hps:=hp.pos a.toNat hl (by unfold jY;have e:(nth p.aa.nodes a.toNat).kind=5:=e5;omega);rw[jN]at h3;rw[nt (show cS _ by unfold cS;show 1<=(au p a).kind/\(au p a).kind<=9;omega),mc];simp only[e5,h1,Int.reduceEq,↓reduceIte];rw[show nth [x] 0=x from rfl,h2];exact h3
  by_cases e6:(au p a).kind=6
  ·obtain⟨x,X,h1,h2,Zy,h3⟩:=XH 10 6 e6 jB rfl;rw[neg jB]at h3;rw[nt (show cS _ by unfold cS;show 1<=(au p a).kind/\(au p a).kind<=9;omega),mc];simp only[e6,h1,Int.reduceEq,↓reduceIte];rw[show nth [x] 0=x from rfl,h2];exact h3
  by_cases e7:(au p a).kind=7
  ·obtain⟨x,X,h1,h2,Zy,h3⟩:=XH 8 7 e7 jB rfl;rw[neg jB]at h3;rw[nt (show cS _ by unfold cS;show 1<=(au p a).kind/\(au p a).kind<=9;omega),mc];simp only[e7,h1,Int.reduceEq,↓reduceIte];rw[show nth [x] 0=x from rfl,h2];exact h3
  by_cases e8:(au p a).kind=8
  ·obtain⟨x,X,h1,h2,Zy,h3⟩:=XH 9 8 e8 jB rfl;rw[neg jB]at h3;rw[nt (show cS _ by unfold cS;show 1<=(au p a).kind/\(au p a).kind<=9;omega),mc];simp only[e8,h1,Int.reduceEq,↓reduceIte];rw[show nth [x] 0=x from rfl,h2];exact h3
  by_cases e20:(au p a).kind=20
  ·obtain⟨x,X,h1,h2,Zy,h3⟩:=XH 13 20 e20 jB rfl;rw[neg jB]at h3;rw[ud];simp only[e20,h1,Int.reduceEq,↓reduceIte];rw[show nth [x] 0=x from rfl,Zy];exact h3
  have hlf:=Nz p L a h0 jB jB jB;rw[show jy p (n+1) a L.length=yQ p a by unfold yQ;have VG:(au p a).kind=1\/(au p a).kind=2\/(au p a).kind=3\/(au p a).kind=4\/(au p a).kind=19:=jB;rcases VG with e|e|e|e|e<;>(rw[ud,mc p n a];simp only[e,Int.reduceEq,↓reduceIte])]
  exact Mx a L _ h0 hl (by have VG:(au p a).kind=1\/(au p a).kind=2\/(au p a).kind=3\/(au p a).kind=4\/(au p a).kind=19:=jB;rcases VG with e|e|e|e|e<;>(rw[e];rfl)) e9 e21 hlf
attribute [local go_sem] iI
def FM(p:af)(n:Nat):Prop:=∀(a:Int) (L:List ay),0<=a->a.toNat<p.aa.nodes.length->fA (bX p.aa.nodes a)->a.toNat<n->¬(1000000<L.length+3000*n)->ab prog 143 [.pt 0 0 0 0,rI a] (bV p L) (fun r l=>r=.aQ []/\l=bV p (L++gm p n a L.length))
def GG(ht:aR p.aa)(n:Nat)(b:Int)(k:Int)(lo:Nat)(b0:0<=b)(b1:b.toNat<p.aa.nodes.length)(b2:bX p.aa.nodes b=18)(b3:aL p.aa.nodes lo (au p b).l b.toNat):(bw (gm p n) k (au p b).l []).length+4*lo<=4*b.toNat:=
 xT (f:=gm p n) (au p b).l k lo b.toNat b3 fun x hx k lo Yh=>by have hb:=(ht.shape b.toNat b1).2.1 x hx;exact DS ht n x k lo hb.1 jB ((ht.shape b.toNat b1).1.block b2 x hx) Yh
def zP(ht:aR p.aa)(n:Nat)(b:Int)(k:Int)(b0:0<=b)(b1:b.toNat<p.aa.nodes.length)(b2:bX p.aa.nodes b=18):(bw (gm p n) k (au p b).l []).length<=1200:=by obtain⟨lo,b3⟩:=(ht.shape b.toNat b1).2.2;have hm:=ht.many;have:=GG ht n b k lo b0 b1 b2 b3;omega
def BN(hp:fg p)(hs:FM p n)(b:Int)(L:List ay)(h0:0<=b)(hl:b.toNat<p.aa.nodes.length)(hk:bX p.aa.nodes b=18)(hn:b.toNat<=n)(hL:¬(998700<L.length+3000*n)) :
  ab prog 125 [.pt 0 0 0 0,rI b] (bV p L) (fun r l=>r=.aQ []/\l=bV p (L++bw (gm p n) L.length (au p b).l [])):=by
 have ht:=hp.ok.ok.aa;have hm:=ht.many;have hb:=(ht.shape b.toNat hl).2.1;have VC:=(ht.shape b.toNat hl).1.block hk;have O':=zP ht n b L.length h0 hl hk;obtain⟨lo,U3⟩:=(ht.shape b.toNat hl).2.2;have U4:lo+(au p b).l.length<=b.toNat:=C3 U3;have p':=oV p L b h0 hl;have WK:=A2 p 143 jD (gm p n) (au p b).l L jB (1000000-3000*n) jB (fun x XB M hM=>by have Y7:=hb x XB;exact hs x M Y7.1 jB (VC x XB) jB jB)
 clear hs;generalize au p b=nd at*;generalize hX:bw (gm p n) L.length nd.l []=X at*;refine aO func125 ntmps125 ?_;refine S ?_
 (repeat' (first|refine aq fun K hK=>?_|refine ak ?_|(refine hK _ _ ?_;clear hK K)|(refine ao ?_ ?_<;>intro hc<;>try exact jz)|refine cm (p') ?_|refine cm (WK) ?_|refine ap ?_|exact jI|(clear hK K)))
 (refine aW [] ?_;try simp only[go_sem])
def MR(L X Y:List ay)(op v:Int)(k:Nat)(hk:k=L.length+X.length):(L++X++[iI op 0]++Y).set k { iI op 0 with a:=v }=L++X++[iI op v]++Y:=by subst hk;rw[List.append_assoc (L++X),List.set_append_right _ _ jE];simp[iI]
def Ur(L X Y:List ay)(x:ay)(k:Nat)(hk:k=L.length+X.length):nth (L++X++[x]++Y) k=x:=by subst hk;rw[List.append_assoc (L++X)];simp[nth]
def zA(p:af)(L X Y:List ay)(op:Int)(k:Nat)(hk:k=L.length+X.length)(hL:¬(1000000<L.length+X.length+1+Y.length)) :
  ab prog 176 [.pt 0 0 0 0,rI k] (bV p (L++X++[iI op 0]++Y)) (fun r l=>r=.aQ []/\l=bV p (L++X++[iI op (L.length+X.length+1+Y.length:Nat)]++Y)):=by
 have h:=C5 p (L++X++[iI op 0]++Y) k (by simp only[List.length_append,List.length_singleton];omega) (by simp only[List.length_append,List.length_singleton];omega);rw[Ur L X Y _ k hk,MR L X Y op _ k hk]at h;rwa [show(L++X++[iI op 0]++Y).length=L.length+X.length+1+Y.length by simp only[List.length_append,List.length_singleton]]at h
def Uv(nd:bq)(x b:Int)(L X B:List ay)(mark:Int)(hL:¬(999700<L.length+X.length+B.length))(hk:nd.kind=16)(u':nd.l=[x,b])
  (ex:ab prog 168 [.pt 0 0 0 0,rI x] (bV p L) (fun r l=>r=.aQ []/\l=bV p (L++X)))
  (eb:ab prog 125 [.pt 0 0 0 0,rI b] (bV p (L++X++[iI 17 0])) (fun r l=>r=.aQ []/\l=bV p (L++X++[iI 17 0]++B))) :
  ab prog 167 [.pt 0 0 0 0,.agg (eN nd),rI mark] (bV p L) (fun r l=>r=.aQ []/\l=bV p (L++X++[iI 17 (L.length+X.length+1+(B.length+1):Nat)]++(B++[iI 16 mark]))):=by
 have h1:=jg p (L++X) 17 0 (by simp only[List.length_append];omega);have h2:=jg p (L++X++[iI 17 0]++B) 16 mark (by simp only[List.length_append,List.length_singleton];omega);have h3:=zA p L X (B++[iI 16 mark]) 17 (L.length+X.length) rfl (by simp only[List.length_append,List.length_singleton];omega);rw[show(B++[iI 16 mark]).length=B.length+1 from jE]at h3;simp only[<-List.append_assoc]at h3 ⊢;refine aO func167 ntmps167 ?_;refine S ?_
 (have W:=jA hk u';repeat' (first|refine aq fun K hK=>?_|refine ak ?_|(refine hK _ _ ?_;clear hK K)|(refine ao ?_ ?_<;>intro hc<;>try exact jz)|refine bx 5 ?_|refine cm (ex) ?_|refine cm (h1) ?_|refine cm (eb) ?_|refine cm (h2) ?_|refine cm (h3) ?_|refine ap ?_|exact jI|(clear hK K)))
 (refine aW [] ?_;try simp only[go_sem])
def Rw(nd:bq)(x b:Int)(L X B:List ay)(mark:Int)(hL:¬(999700<L.length+X.length+B.length))(hk:nd.kind≠16)(u':nd.l=[x,b])
  (ex:ab prog 168 [.pt 0 0 0 0,rI x] (bV p L) (fun r l=>r=.aQ []/\l=bV p (L++X)))
  (eb:ab prog 125 [.pt 0 0 0 0,rI b] (bV p (L++X++[iI 17 0])) (fun r l=>r=.aQ []/\l=bV p (L++X++[iI 17 0]++B))) :
  ab prog 167 [.pt 0 0 0 0,.agg (eN nd),rI mark] (bV p L) (fun r l=>r=.aQ []/\l=bV p (L++X++[iI 17 (L.length+X.length+1+B.length:Nat)]++B)):=by
 have h1:=jg p (L++X) 17 0 (by simp only[List.length_append];omega);have h3:=zA p L X B 17 (L.length+X.length) rfl jB;have n1:=eq_false hk;refine aO func167 ntmps167 ?_;refine S ?_
 (have W:=jA n1 u';repeat' (first|refine aq fun K hK=>?_|refine ak ?_|(refine hK _ _ ?_;clear hK K)|(refine ao ?_ ?_<;>intro hc<;>try exact jz)|refine bx 5 ?_|refine cm (ex) ?_|refine cm (h1) ?_|refine cm (eb) ?_|refine cm (h3) ?_|refine ap ?_|exact jI|(clear hK K)))
 (refine aW [] ?_;try simp only[go_sem])
def TD(nd:bq)(x b d:Int)(L X B D:List ay)(mark:Int)(hL:¬(999700<L.length+X.length+B.length+D.length))(hk:nd.kind≠16)(u':nd.l=[x,b,d])
  (ex:ab prog 168 [.pt 0 0 0 0,rI x] (bV p L) (fun r l=>r=.aQ []/\l=bV p (L++X)))
  (eb:ab prog 125 [.pt 0 0 0 0,rI b] (bV p (L++X++[iI 17 0])) (fun r l=>r=.aQ []/\l=bV p (L++X++[iI 17 0]++B)))
  (ed:ab prog 125 [.pt 0 0 0 0,rI d] (bV p (L++X++[iI 17 (L.length+X.length+1+(B.length+1):Nat)]++B++[iI 16 0])) (fun r l=>r=.aQ []/\l=bV p (L++X++[iI 17 (L.length+X.length+1+(B.length+1):Nat)]++B++[iI 16 0]++D))) :
  ab prog 167 [.pt 0 0 0 0,.agg (eN nd),rI mark] (bV p L) (fun r l=>r=.aQ []/\l=bV p (L++X++[iI 17 (L.length+X.length+1+(B.length+1):Nat)]++(B++[iI 16 (L.length+X.length+1+B.length+1+D.length:Nat)])++D)):=by
 have h1:=jg p (L++X) 17 0 (by simp only[List.length_append];omega);have h2:=jg p (L++X++[iI 17 0]++B) 16 0 (by simp only[List.length_append,List.length_singleton];omega);have h3:=zA p L X (B++[iI 16 0]) 17 (L.length+X.length) rfl (by simp only[List.length_append,List.length_singleton];omega);rw[show(B++[iI 16 0]).length=B.length+1 from jE]at h3;have h4:=zA p (L++X++[iI 17 (L.length+X.length+1+(B.length+1):Nat)]) B D 16 (L.length+X.length+1+B.length) (by simp only[List.length_append,List.length_singleton]) (by simp only[List.length_append,List.length_singleton];omega);rw[show(L++X++[iI 17 (L.length+X.length+1+(B.length+1):Nat)]).length=L.length+X.length+1 by simp only[List.length_append,List.length_singleton]]at h4;simp only[<-List.append_assoc]at h3 h4 ⊢;have n1:=eq_false hk;refine aO func167 ntmps167 ?_;refine S ?_
 (have W:=jA n1 u';repeat' (first|refine aq fun K hK=>?_|refine ak ?_|(refine hK _ _ ?_;clear hK K)|(refine ao ?_ ?_<;>intro hc<;>try exact jz)|refine bx 5 ?_|refine cm (ex) ?_|refine cm (h1) ?_|refine cm (eb) ?_|refine cm (h2) ?_|refine cm (h3) ?_|refine cm (ed) ?_|refine cm (h4) ?_|refine ap ?_|exact jI|(clear hK K)))
 (refine aW [] ?_;try simp only[go_sem])
attribute [local go_sem] iI
def QP(a:Int)(L Y:List ay)(h0:0<=a)(hl:a.toNat<p.aa.nodes.length)(hs:a.toNat<p.slots.length)(hL:¬(999900<L.length+Y.length))(hk:(au p a).kind=10)
  (WK:ab prog 141 [aM eI 1 (au p a).l,.bd 168 [.pt 0 0 0 0]] (bV p (L++[iI 1 a])) (fun r l=>r=.aQ []/\l=bV p (L++[iI 1 a]++Y))) :
  ab prog 143 [.pt 0 0 0 0,rI a] (bV p L) (fun r l=>r=.aQ []/\l=bV p (L++[iI 1 a]++Y++[iI 6 (nth p.slots a.toNat)])):=by
 have p':=oV p L a h0 hl;have h1:=jg p L 1 a jB;have h2:=jg p (L++[iI 1 a]++Y) 6 (nth p.slots a.toNat) (by simp only[List.length_append,List.length_singleton];omega);generalize au p a=nd at*;refine aO func143 ntmps143 ?_;refine S ?_
 (have W:=hk;repeat' (first|refine aq fun K hK=>?_|refine ak ?_|(refine hK _ _ ?_;clear hK K)|(refine ao ?_ ?_<;>intro hc<;>try exact jz)|refine al 5 ?_|refine cm (p') ?_|refine cm (h1) ?_|refine cm (WK) ?_|refine cm (h2) ?_|refine ap ?_|exact jI|(clear hK K)))
 (refine aW [] ?_;try simp only[go_sem])
def Mo(a:Int)(L Y:List ay)(h0:0<=a)(hl:a.toNat<p.aa.nodes.length)(hs:a.toNat<p.slots.length)(hL:¬(999900<L.length+Y.length))(hk:(au p a).kind=11)
  (WK:ab prog 141 [aM eI 1 (au p a).l,.bd 168 [.pt 0 0 0 0]] (bV p (L++[iI 1 a])) (fun r l=>r=.aQ []/\l=bV p (L++[iI 1 a]++Y))) :
  ab prog 143 [.pt 0 0 0 0,rI a] (bV p L) (fun r l=>r=.aQ []/\l=bV p (L++[iI 1 a]++Y++[iI 6 (nth p.slots a.toNat)])):=by
 have p':=oV p L a h0 hl;have h1:=jg p L 1 a jB;have h2:=jg p (L++[iI 1 a]++Y) 6 (nth p.slots a.toNat) (by simp only[List.length_append,List.length_singleton];omega);generalize au p a=nd at*;refine aO func143 ntmps143 ?_;refine S ?_
 (have W:=hk;repeat' (first|refine aq fun K hK=>?_|refine ak ?_|(refine hK _ _ ?_;clear hK K)|(refine ao ?_ ?_<;>intro hc<;>try exact jz)|refine al 5 ?_|refine cm (p') ?_|refine cm (h1) ?_|refine cm (WK) ?_|refine cm (h2) ?_|refine ap ?_|exact jI|(clear hK K)))
 (refine aW [] ?_;try simp only[go_sem])
def SK(a:Int)(L Y:List ay)(h0:0<=a)(hl:a.toNat<p.aa.nodes.length)(hs:a.toNat<p.slots.length)(hL:¬(999900<L.length+Y.length))(hk:(au p a).kind=12)
  (WK:ab prog 141 [aM eI 1 (au p a).l,.bd 168 [.pt 0 0 0 0]] (bV p (L++[iI 1 a])) (fun r l=>r=.aQ []/\l=bV p (L++[iI 1 a]++Y))) :
  ab prog 143 [.pt 0 0 0 0,rI a] (bV p L) (fun r l=>r=.aQ []/\l=bV p (L++[iI 1 a]++Y++[iI 12 (nth p.slots a.toNat)])):=by
 have p':=oV p L a h0 hl;have h1:=jg p L 1 a jB;have h2:=jg p (L++[iI 1 a]++Y) 12 (nth p.slots a.toNat) (by simp only[List.length_append,List.length_singleton];omega);generalize au p a=nd at*;refine aO func143 ntmps143 ?_;refine S ?_
 (have W:=hk;repeat' (first|refine aq fun K hK=>?_|refine ak ?_|(refine hK _ _ ?_;clear hK K)|(refine ao ?_ ?_<;>intro hc<;>try exact jz)|refine al 5 ?_|refine cm (p') ?_|refine cm (h1) ?_|refine cm (WK) ?_|refine cm (h2) ?_|refine ap ?_|exact jI|(clear hK K)))
 (refine aW [] ?_;try simp only[go_sem])
def Sf(a:Int)(L Y:List ay)(h0:0<=a)(hl:a.toNat<p.aa.nodes.length)(hs:a.toNat<p.slots.length)(hL:¬(999900<L.length+Y.length))(hk:(au p a).kind=13)
  (WK:ab prog 141 [aM eI 1 (au p a).l,.bd 168 [.pt 0 0 0 0]] (bV p (L++[iI 1 a])) (fun r l=>r=.aQ []/\l=bV p (L++[iI 1 a]++Y))) :
  ab prog 143 [.pt 0 0 0 0,rI a] (bV p L) (fun r l=>r=.aQ []/\l=bV p (L++[iI 1 a]++Y++[iI 23 (0)])):=by
 have p':=oV p L a h0 hl;have h1:=jg p L 1 a jB;have h2:=jg p (L++[iI 1 a]++Y) 23 (0) (by simp only[List.length_append,List.length_singleton];omega);generalize au p a=nd at*;refine aO func143 ntmps143 ?_;refine S ?_
 (have W:=hk;repeat' (first|refine aq fun K hK=>?_|refine ak ?_|(refine hK _ _ ?_;clear hK K)|(refine ao ?_ ?_<;>intro hc<;>try exact jz)|refine al 5 ?_|refine cm (p') ?_|refine cm (h1) ?_|refine cm (WK) ?_|refine cm (h2) ?_|refine ap ?_|exact jI|(clear hK K)))
 (refine aW [] ?_;try simp only[go_sem])
def R8(a:Int)(L Y:List ay)(h0:0<=a)(hl:a.toNat<p.aa.nodes.length)(hs:a.toNat<p.slots.length)(hL:¬(999900<L.length+Y.length))(hk:(au p a).kind=14)
  (WK:ab prog 141 [aM eI 1 (au p a).l,.bd 168 [.pt 0 0 0 0]] (bV p (L++[iI 1 a])) (fun r l=>r=.aQ []/\l=bV p (L++[iI 1 a]++Y))) :
  ab prog 143 [.pt 0 0 0 0,rI a] (bV p L) (fun r l=>r=.aQ []/\l=bV p (L++[iI 1 a]++Y++[iI 15 (0)])):=by
 have p':=oV p L a h0 hl;have h1:=jg p L 1 a jB;have h2:=jg p (L++[iI 1 a]++Y) 15 (0) (by simp only[List.length_append,List.length_singleton];omega);generalize au p a=nd at*;refine aO func143 ntmps143 ?_;refine S ?_
 (have W:=hk;repeat' (first|refine aq fun K hK=>?_|refine ak ?_|(refine hK _ _ ?_;clear hK K)|(refine ao ?_ ?_<;>intro hc<;>try exact jz)|refine al 5 ?_|refine cm (p') ?_|refine cm (h1) ?_|refine cm (WK) ?_|refine cm (h2) ?_|refine ap ?_|exact jI|(clear hK K)))
 (refine aW [] ?_;try simp only[go_sem])
def O4(a:Int)(L Y:List ay)(h0:0<=a)(hl:a.toNat<p.aa.nodes.length)(hs:a.toNat<p.slots.length)(hL:¬(999900<L.length+Y.length))(hk:(au p a).kind=17)(WS:(au p a).l=[])
  (WK:ab prog 141 [aM eI 1 (au p a).l,.bd 168 [.pt 0 0 0 0]] (bV p (L++[iI 1 a])) (fun r l=>r=.aQ []/\l=bV p (L++[iI 1 a]++Y))) :
  ab prog 143 [.pt 0 0 0 0,rI a] (bV p L) (fun r l=>r=.aQ []/\l=bV p (L++[iI 1 a]++Y++[iI 22 (0)])):=by
 have p':=oV p L a h0 hl;have h1:=jg p L 1 a jB;have h2:=jg p (L++[iI 1 a]++Y) 22 (0) (by simp only[List.length_append,List.length_singleton];omega);generalize au p a=nd at*;rw[WS]at WK;refine aO func143 ntmps143 ?_;refine S ?_
 (have W:=jA hk WS;repeat' (first|refine aq fun K hK=>?_|refine ak ?_|(refine hK _ _ ?_;clear hK K)|(refine ao ?_ ?_<;>intro hc<;>try exact jz)|refine al 5 ?_|refine cm (p') ?_|refine cm (h1) ?_|refine cm (WK) ?_|refine cm (h2) ?_|refine ap ?_|exact jI|(clear hK K)))
 (refine aW [] ?_;try simp only[go_sem])
def T3(a:Int)(L Y:List ay)(h0:0<=a)(hl:a.toNat<p.aa.nodes.length)(hs:a.toNat<p.slots.length)(hL:¬(999900<L.length+Y.length))(hk:(au p a).kind=17)(x:Int)(WS:(au p a).l=[x])
  (WK:ab prog 141 [aM eI 1 (au p a).l,.bd 168 [.pt 0 0 0 0]] (bV p (L++[iI 1 a])) (fun r l=>r=.aQ []/\l=bV p (L++[iI 1 a]++Y))) :
  ab prog 143 [.pt 0 0 0 0,rI a] (bV p L) (fun r l=>r=.aQ []/\l=bV p (L++[iI 1 a]++Y++[iI 21 (0)])):=by
 have p':=oV p L a h0 hl;have h1:=jg p L 1 a jB;have h2:=jg p (L++[iI 1 a]++Y) 21 (0) (by simp only[List.length_append,List.length_singleton];omega);generalize au p a=nd at*;rw[WS]at WK;refine aO func143 ntmps143 ?_;refine S ?_
 (have W:=jA hk WS;repeat' (first|refine aq fun K hK=>?_|refine ak ?_|(refine hK _ _ ?_;clear hK K)|(refine ao ?_ ?_<;>intro hc<;>try exact jz)|refine al 5 ?_|refine cm (p') ?_|refine cm (h1) ?_|refine cm (WK) ?_|refine cm (h2) ?_|refine ap ?_|exact jI|(clear hK K)))
 (refine aW [] ?_;try simp only[go_sem])
def Az(a:Int)(L Y:List ay)(h0:0<=a)(hl:a.toNat<p.aa.nodes.length)(hL:¬(999900<L.length+Y.length))(hk:(au p a).kind=15\/(au p a).kind=16)
  (ht:ab prog 167 [.pt 0 0 0 0,.agg (eN (au p a)),rI L.length] (bV p (L++[iI 1 a])) (fun r l=>r=.aQ []/\l=bV p (L++[iI 1 a]++Y))) :
  ab prog 143 [.pt 0 0 0 0,rI a] (bV p L) (fun r l=>r=.aQ []/\l=bV p (L++[iI 1 a]++Y)):=by
 have p':=oV p L a h0 hl;have h1:=jg p L 1 a jB;generalize au p a=nd at*;rcases hk with hk|hk
 ·refine aO func143 ntmps143 ?_;refine S ?_
  (have W:=hk;repeat' (first|refine aq fun K hK=>?_|refine ak ?_|(refine hK _ _ ?_;clear hK K)|(refine ao ?_ ?_<;>intro hc<;>try exact jz)|refine al 5 ?_|refine cm (p') ?_|refine cm (h1) ?_|refine cm (ht) ?_|refine ap ?_|exact jI|(clear hK K)))
  (refine aW [] ?_;try simp only[go_sem])
 ·refine aO func143 ntmps143 ?_;refine S ?_
  (have W:=hk;repeat' (first|refine aq fun K hK=>?_|refine ak ?_|(refine hK _ _ ?_;clear hK K)|(refine ao ?_ ?_<;>intro hc<;>try exact jz)|refine al 5 ?_|refine cm (p') ?_|refine cm (h1) ?_|refine cm (ht) ?_|refine ap ?_|exact jI|(clear hK K)))
  (refine aW [] ?_;try simp only[go_sem])
def RG{a k:Int}(h:bX p.aa.nodes a=21):jy p n a k=cI p n a k:=by have h:(au p a).kind=21:=h;rw[ud,jN,jN,if_pos h]
def Lo(p:af)(n:Nat)(bl:Int->Int->List ay)(a from_:Int):qR p n bl a from_=(
  if(au p a).kind=16 then bo p n (nth (au p a).l 0) from_++[iI 17 (from_+(bo p n (nth (au p a).l 0) from_).length+1+((bl (nth (au p a).l 1) (from_+(bo p n (nth (au p a).l 0) from_).length+1)).length+1))]++(bl (nth (au p a).l 1) (from_+(bo p n (nth (au p a).l 0) from_).length+1)++[iI 16 (from_-1)])
  else if(au p a).l.length=3 then
   bo p n (nth (au p a).l 0) from_++[iI 17 (from_+(bo p n (nth (au p a).l 0) from_).length+1+((bl (nth (au p a).l 1) (from_+(bo p n (nth (au p a).l 0) from_).length+1)).length+1))]++(bl (nth (au p a).l 1) (from_+(bo p n (nth (au p a).l 0) from_).length+1)++[iI 16 (from_+(bo p n (nth (au p a).l 0) from_).length+1+(bl (nth (au p a).l 1) (from_+(bo p n (nth (au p a).l 0) from_).length+1)).length+1+(bl (nth (au p a).l 2) (from_+(bo p n (nth (au p a).l 0) from_).length+1+(bl (nth (au p a).l 1) (from_+(bo p n (nth (au p a).l 0) from_).length+1)).length+1)).length)])++bl (nth (au p a).l 2) (from_+(bo p n (nth (au p a).l 0) from_).length+1+(bl (nth (au p a).l 1) (from_+(bo p n (nth (au p a).l 0) from_).length+1)).length+1)
  else bo p n (nth (au p a).l 0) from_++[iI 17 (from_+(bo p n (nth (au p a).l 0) from_).length+1+(bl (nth (au p a).l 1) (from_+(bo p n (nth (au p a).l 0) from_).length+1)).length)]++bl (nth (au p a).l 1) (from_+(bo p n (nth (au p a).l 0) from_).length+1)):=rfl
def wV(f:Int->Int->List ay)(k x:Int):bw f k [x] []=f x k:=by show[]++f x (k+((0:Nat):Int))=_;rw[Int.natCast_zero,Int.add_zero,List.nil_append]
def Nd(f:Int->Int->List ay)(k x y:Int):bw f k [x,y] []=f x k++f y (k+(f x k).length):=by show bw f k [y] ([]++f x (k+((0:Nat):Int)))=_;rw[Int.natCast_zero,Int.add_zero,List.nil_append];rfl
def uD(L Y:List ay)(a b:ay):L++a::(Y++[b])=L++[a]++Y++[b]:=jE
def Mp(L Y:List ay)(a:ay):L++a::Y=L++[a]++Y:=jE
theorem xP{p:af}(hp:fg p):∀n,FM p n
 |0=>fun a L h0 hl hk hn hL=>by omega
 |n+1=>fun a L h0 hl hk hn hL=>by
  have hs:=xP hp n;have hx:=GF hp n;have ht:=hp.ok.ok.aa;have hm:=ht.many;have hb:=(ht.shape a.toNat hl).2.1;have V5:p.slots.length=p.aa.nodes.length:=hp.ok.ok.slots;have sh:=(ht.shape a.toNat hl).1;obtain⟨lo,U3⟩:=(ht.shape a.toNat hl).2.2;have U3:aL p.aa.nodes lo (au p a).l a.toNat:=U3;have U4:lo+(au p a).l.length<=a.toNat:=C3 U3;have Vk:fA (au p a).kind:=hk;unfold fA at Vk;have l1:(L++[iI 1 a]).length=L.length+1:=jE;have WT:∀x k,x∈(au p a).l->fy (bX p.aa.nodes x)->(jy p n x k).length<=1200:=fun x k XB Yt=>by have Y7:=hb x XB;obtain⟨lo',hc⟩:=(ht.shape x.toNat jB).2.2;have:=D3 ht n k lo' Y7.1 jB Yt hc;omega
  have WK:∀Y,(∀x∈(au p a).l,fy (bX p.aa.nodes x))->bw (jy p n) (L.length+1) (au p a).l []=Y->Y.length<=2500->ab prog 141 [aM eI 1 (au p a).l,.bd 168 [.pt 0 0 0 0]] (bV p (L++[iI 1 a])) (fun r l=>r=.aQ []/\l=bV p (L++[iI 1 a]++Y)):=fun Y hr hY hYl=>by have:=A2 p 168 jD (jy p n) (au p a).l (L++[iI 1 a]) jB (1000000-3000*n) (by rw[l1,Int.natCast_add];show¬(_<L.length+1+(bw (jy p n) (L.length+1) (au p a).l []).length);rw[hY];omega) (fun x XB M hM=>hx x M (hb x XB).1 (by have:=hb x XB;omega) (hr x XB) (by have:=hb x XB;omega) jB);rw[l1,Int.natCast_add]at this;rw[show bw (jy p n) ((L.length:Int)+((1:Nat):Int)) (au p a).l []=Y from hY]at this;exact this
  rw[yz];by_cases e10:(au p a).kind=10
  ·obtain⟨x,u',Zl⟩:=sh.right (by have e:(nth p.aa.nodes a.toNat).kind=10:=e10;omega);have u':(au p a).l=[x]:=u';have Xb:=WT x (L.length+1) (by rw[u'];simp) Zl;have h:=WK (jy p n x (L.length+1)) (by rw[u'];intro y hy;simp only[List.mem_singleton]at hy;subst hy;exact Zl) (by rw[u',wV]) jB;rw[jP,u',show nth [x] 0=x from rfl,uD];exact QP a L _ h0 hl jB jB e10 h
  by_cases e11:(au p a).kind=11
  ·obtain⟨x,u',Zl⟩:=sh.right (by have e:(nth p.aa.nodes a.toNat).kind=11:=e11;omega);have u':(au p a).l=[x]:=u';have Xb:=WT x (L.length+1) (by rw[u'];simp) Zl;have h:=WK (jy p n x (L.length+1)) (by rw[u'];intro y hy;simp only[List.mem_singleton]at hy;subst hy;exact Zl) (by rw[u',wV]) jB;rw[jP,u',show nth [x] 0=x from rfl,uD];exact Mo a L _ h0 hl jB jB e11 h
  rw[jN];by_cases e12:(au p a).kind=12
  ·obtain⟨x,y,u',Vy,Yw⟩:=sh.two (.inr e12);have u':(au p a).l=[x,y]:=u';have Xb:=WT x (L.length+1) (by rw[u'];simp) (.inl Vy);have hy1:=WT y (L.length+1+(jy p n x (L.length+1)).length) (by rw[u'];simp) (.inl Yw);have h:=WK (jy p n x (L.length+1)++jy p n y (L.length+1+(jy p n x (L.length+1)).length)) (by rw[u'];intro z hz;simp only[List.mem_cons,List.not_mem_nil,or_false]at hz;rcases hz with rfl|rfl<;>exact .inl (by assumption)) (by rw[u',Nd]) (by rw[List.length_append];omega);rw[if_pos e12,u',show nth [x,y] 0=x from rfl,show nth [x,y] 1=y from rfl,<-nt Vy,<-nt Yw,uD];exact SK a L _ h0 hl jB (by rw[List.length_append];omega) e12 h
  rw[if_neg e12];by_cases e13:(au p a).kind=13
  ·obtain⟨x,u',hxC⟩:=sh.tn e13;have u':(au p a).l=[x]:=u';have Zl:fy (bX p.aa.nodes x):=.inr (.inr (.inr hxC));have Xb:=WT x (L.length+1) (by rw[u'];simp) Zl;have h:=WK (jy p n x (L.length+1)) (by rw[u'];intro y hy;simp only[List.mem_singleton]at hy;subst hy;exact Zl) (by rw[u',wV]) jB;rw[if_pos e13,u',show nth [x] 0=x from rfl,<-RG hxC,uD];exact Sf a L _ h0 hl jB jB e13 h
  rw[if_neg e13];by_cases e14:(au p a).kind=14
  ·obtain⟨x,u',Vy⟩:=sh.one (by have e:(nth p.aa.nodes a.toNat).kind=14:=e14;omega);have u':(au p a).l=[x]:=u';have Xb:=WT x (L.length+1) (by rw[u'];simp) (.inl Vy);have h:=WK (jy p n x (L.length+1)) (by rw[u'];intro y hy;simp only[List.mem_singleton]at hy;subst hy;exact .inl Vy) (by rw[u',wV]) jB;rw[if_pos e14,u',show nth [x] 0=x from rfl,<-nt Vy,uD];exact R8 a L _ h0 hl jB jB e14 h
  rw[if_neg e14];by_cases e17:(au p a).kind=17
  ·rw[if_pos e17];rcases sh.ret e17 with u'|⟨x,u',Vy⟩
   ·have u':(au p a).l=[]:=u';have h:=WK [] (by rw[u'];intro y hy;simp at hy) (by rw[u'];rfl) jE;rw[u',if_pos (show([]:UP).length=0 from rfl),show([iI 22 0]:List ay)=[]++[iI 22 0] from rfl,uD];exact O4 a L _ h0 hl jB (by simp only[List.length_nil];omega) e17 u' h
   ·have u':(au p a).l=[x]:=u';have Xb:=WT x (L.length+1) (by rw[u'];simp) (.inl Vy);have h:=WK (jy p n x (L.length+1)) (by rw[u'];intro y hy;simp only[List.mem_singleton]at hy;subst hy;exact .inl Vy) (by rw[u',wV]) jB;rw[u',if_neg (show¬([x]:UP).length=0 from jE),show nth [x] 0=x from rfl,<-nt Vy,uD];exact T3 a L _ h0 hl jB jB e17 x u' h
  rw[if_neg e17];have expL:∀x lo,aL p.aa.nodes lo (au p x).l x.toNat->0<=x->x.toNat<p.aa.nodes.length->cS (bX p.aa.nodes x)->∀k,(bo p n x k).length<=1200:=fun x lo c h0 h1 h2 k=>by have:=mC ht n x k lo h0 h1 h2 c;omega
  have tst:∀x b,x∈(au p a).l->b∈(au p a).l->cS (bX p.aa.nodes x)->bX p.aa.nodes b=18->∃X B,bo p n x (L.length+1)=X/\X.length<=1200/\B.length<=1200/\bw (gm p n) (L.length+1+X.length+1) (au p b).l []=B/\
    ab prog 168 [.pt 0 0 0 0,rI x] (bV p (L++[iI 1 a])) (fun r l=>r=.aQ []/\l=bV p (L++[iI 1 a]++X))/\
    ab prog 125 [.pt 0 0 0 0,rI b] (bV p (L++[iI 1 a]++X++[iI 17 0])) (fun r l=>r=.aQ []/\l=bV p (L++[iI 1 a]++X++[iI 17 0]++B)):=fun x b XB hbm Vy XI=>by
   have Y7:=hb x XB;have hbb:=hb b hbm;have hX:=WT x (L.length+1) XB (.inl Vy);rw[nt Vy]at hX;have ex:=hx x (L++[iI 1 a]) Y7.1 jB (.inl Vy) jB jB;rw[nt Vy,l1,Int.natCast_add]at ex;refine⟨_,_,rfl,hX,zP ht n b _ hbb.1 jB XI,rfl,ex,?_⟩;have eb:=BN hp hs b (L++[iI 1 a]++bo p n x (L.length+1)++[iI 17 0]) hbb.1 jB XI jB (by simp only[List.length_append,List.length_singleton];omega);rw[show((L++[iI 1 a]++bo p n x (L.length+1)++[iI 17 0]).length:Int)=L.length+1+(bo p n x (L.length+1)).length+1 by simp only[List.length_append,List.length_singleton];omega]at eb;exact eb
  rw[Mp,Lo];by_cases e16:(au p a).kind=16
  ·obtain⟨x,b,u',Vy,XI⟩:=sh.eF e16;have u':(au p a).l=[x,b]:=u';obtain⟨X,B,t1,t2,t3,t4,t5,t6⟩:=tst x b (by rw[u'];simp) (by rw[u'];simp) Vy XI;have hw:=Uv (au p a) x b (L++[iI 1 a]) X B L.length jB e16 u' t5 t6;rw[if_pos e16,u',show nth [x,b] 0=x from rfl,show nth [x,b] 1=b from rfl,t1,t4];rw[show((L.length:Int)+1+X.length+1+(B.length+1))=(((L++[iI 1 a]).length+X.length+1+(B.length+1):Nat):Int) by rw[l1];omega,show(L.length:Int)+1-1=L.length from jB];refine Az a L _ h0 hl (by simp only[List.length_append,List.length_singleton];omega) (.inr e16) ?_;simp only[List.append_assoc]at hw ⊢;exact hw
  rw[if_neg e16];have e15:(au p a).kind=15:=jB;obtain⟨x,b,Vy,XI,u'|⟨d,u',haL⟩⟩:=sh.lA e15
  ·have u':(au p a).l=[x,b]:=u';obtain⟨X,B,t1,t2,t3,t4,t5,t6⟩:=tst x b (by rw[u'];simp) (by rw[u'];simp) Vy XI;have hw:=Rw (au p a) x b (L++[iI 1 a]) X B L.length jB e16 u' t5 t6;rw[u',if_neg (show¬([x,b]:UP).length=3 from jE),show nth [x,b] 0=x from rfl,show nth [x,b] 1=b from rfl,t1,t4];rw[show((L.length:Int)+1+X.length+1+B.length)=(((L++[iI 1 a]).length+X.length+1+B.length:Nat):Int) by rw[l1];omega];refine Az a L _ h0 hl (by simp only[List.length_append,List.length_singleton];omega) (.inl e15) ?_;simp only[List.append_assoc]at hw ⊢;exact hw
  ·have u':(au p a).l=[x,b,d]:=u';obtain⟨X,B,t1,t2,t3,t4,t5,t6⟩:=tst x b (by rw[u'];simp) (by rw[u'];simp) Vy XI;have hbd:=hb d (by show d∈(au p a).l;rw[u'];simp);have hD:=zP ht n d (L.length+1+X.length+1+B.length+1) hbd.1 jB haL;have hsum:X.length+B.length<=1200:=by
    have U3:=U3;rw[u']at U3;obtain⟨c1,c2,c3,c4,c5,c6⟩:=kM U3;obtain⟨d1,d2,d3,d4,d5,d6⟩:=kM c6;have q1:=mC ht n x (L.length+1) lo c1 jB Vy c5;have q2:=GG ht n b (L.length+1+X.length+1) _ d1 jB XI d5;rw[t1]at q1;rw[t4]at q2;omega
   have ed:=BN hp hs d (L++[iI 1 a]++X++[iI 17 ((L++[iI 1 a]).length+X.length+1+(B.length+1):Nat)]++B++[iI 16 0]) hbd.1 jB haL jB (by simp only[List.length_append,List.length_singleton];omega);rw[show((L++[iI 1 a]++X++[iI 17 ((L++[iI 1 a]).length+X.length+1+(B.length+1):Nat)]++B++[iI 16 0]).length:Int)=L.length+1+X.length+1+B.length+1 by simp only[List.length_append,List.length_singleton];omega]at ed;rw[u',if_pos (show([x,b,d]:UP).length=3 from rfl),show nth [x,b,d] 0=x from rfl,show nth [x,b,d] 1=b from rfl,show nth [x,b,d] 2=d from rfl,t1,t4];generalize hDD:bw (gm p n) (L.length+1+X.length+1+B.length+1) (au p d).l []=D at*;have hw:=TD (au p a) x b d (L++[iI 1 a]) X B D L.length jB e16 u' t5 t6 ed;rw[show((L.length:Int)+1+X.length+1+(B.length+1))=(((L++[iI 1 a]).length+X.length+1+(B.length+1):Nat):Int) by rw[l1];omega,show((L.length:Int)+1+X.length+1+B.length+1+D.length)=(((L++[iI 1 a]).length+X.length+1+B.length+1+D.length:Nat):Int) by rw[l1];omega];refine Az a L _ h0 hl (by simp only[List.length_append,List.length_singleton];omega) (.inl e15) ?_;simp only[List.append_assoc]at hw ⊢;exact hw
structure Fw(c c':Ck):Prop where
 fn:c'.fn=c.fn
 aw:∀x∈c'.aw,x∈c.aw\/x=c.fn
def Fw.refl(c:Ck):Fw c c:=⟨rfl,fun _ h=>.inl h⟩
theorem Fw.trans{a b c:Ck}(h:Fw a b)(k:Fw b c):Fw a c:=⟨k.fn.trans h.fn,fun x hx=>by
 rcases k.aw x hx with e|e
 ·exact h.aw x e
 ·right;rw[e,h.fn]⟩
def vX{c c':Ck}(h1:c'.fn=c.fn)(h2:c'.aw=c.aw):Fw c c':=⟨h1,fun x hx=>by rw[h2]at hx;exact .inl hx⟩
def HG{l:UP}{i:Nat}{x y:Int}(h:x∈l.set i y):x∈l\/x=y:=by
 rcases List.mem_or_eq_of_mem_set h with h|h
 ·exact .inl h
 ·exact .inr h
def qM(c:Ck)(e a:Int):Fw c (c.aE e a):=by unfold Ck.aE;split<;>exact vX rfl rfl
def o6(c:Ck)(b:Bool)(a:Int):Fw c (c.av b a):=by unfold Ck.av;split;exact .refl _;exact qM _ _ _
def yM(c:Ck)(a:Int):Fw c (c.named a).1:=by unfold Ck.named;split;exact qM _ _ _;exact vX rfl rfl
def Pn(c:Ck)(a t:Int):Fw c (c.note a t):=⟨rfl,fun _ h=>HG h⟩
def E6(c:Ck)(a:Int):Fw c (c.ai a):=⟨rfl,fun _ h=>HG h⟩
def uc{c x y:Ck}{q:Prop}[Decidable q](h:Fw c x)(k:Fw c y):Fw c (if q then x else y):=by split;exact h;exact k
theorem J6{ex:Ck->Int->Ck×Int}(hx:∀c a,Fw c (ex c a).1):∀(L:UP) (c:Ck) (ts:UP),Fw c (gG ex c L ts).1
 |[],c,ts=>by unfold gG;exact .refl c
 |a::L,c,ts=>by
  unfold gG;split
  ·exact(hx c a).trans (J6 hx L _ _)
  ·exact .refl c
theorem Ie(a:Int):∀(ts:UP) (ps:List bM) (c:Ck),Fw c (iE a c ts ps)
 |[],ps,c=>by rw[tV];exact .refl c
 |_::_,[],c=>by rw[ux];exact .refl c
 |x::ts,p::ps,c=>by
  unfold iE;split
  ·exact(o6 _ _ _).trans (Ie a ts ps _)
  ·exact .refl c
variable{ex:Ck->Int->Ck×Int}
def LL(hx:∀c a,Fw c (ex c a).1)(c:Ck)(a:Int):Fw c (je ex c a).1:=by
 unfold je;split
 ·exact qM _ _ _
 ·simp only;exact((J6 hx _ c _).trans (uc (qM _ _ _) (.refl _))).trans (Ie _ _ _ _)
def TT(hx:∀c a,Fw c (ex c a).1)(c:Ck)(a:Int):Fw c (cw ex c a).1:=by
 unfold cw;simp only;split
 ·exact .refl c
 split
 ·exact .refl c
 split
 ·exact .refl c
 split
 ·exact yM _ _
 split
 ·exact LL hx c a
 split
 ·exact((yM _ _).trans (hx _ _)).trans (o6 _ _ _)
 split
 ·exact((hx _ _).trans (hx _ _)).trans (o6 _ _ _)
 split
 ·exact(hx _ _).trans (o6 _ _ _)
 split
 ·exact(hx _ _).trans (o6 _ _ _)
 split
 ·exact(hx _ _).trans (o6 _ _ _)
 ·exact(hx _ _).trans (o6 _ _ _)
theorem qQ:∀(n:Nat) (c:Ck) (a:Int),Fw c (aA n c a).1
 |0,c,a=>by unfold aA;exact .refl c
 |n+1,c,a=>by
  unfold aA;split
  ·exact .refl c
  ·exact(TT (qQ n) c a).trans (Pn _ _ _)
def Lw(hx:∀c a,Fw c (ex c a).1)(c:Ck)(a:Int):Fw c (pm ex c a):=by have hA:Fw c (iS ex c a):=(hx c _).trans (o6 _ _ _);have hB:Fw (iS ex c a) (jO ex c a):=uc (qM _ _ _) (.refl _);have hC:Fw (jO ex c a) (eR ex c a):=uc (qM _ _ _) (.refl _);rw[uF];exact((hA.trans hB).trans hC).trans (vX rfl rfl)
def Q0(hx:∀c a,Fw c (ex c a).1)(c:Ck)(a:Int):Fw c (kJ ex c a):=by
 unfold kJ;simp only;split
 ·exact qM _ _ _
 split
 ·exact(hx _ _).trans (o6 _ _ _)
 ·exact .refl c
theorem B8{st:Ck->Int->Ck}(hs:∀c a,Fw c (st c a)):∀(L:UP) (c:Ck),Fw c (dS st c L)
 |[],c=>by unfold dS;exact .refl c
 |a::L,c=>by
  unfold dS;split
  ·exact(hs c a).trans (B8 hs L _)
  ·exact .refl c
variable{st:Ck->Int->Ck}
def Is(hs:∀c a,Fw c (st c a))(c:Ck)(a:Int):Fw c (fp st c a):=by unfold fp;simp only;exact((E6 c a).trans (B8 hs _ _)).trans (vX rfl rfl)
theorem Je:∀(n:Nat) (c:Ck) (a:Int),Fw c (bU n c a)
 |0,c,a=>by unfold bU;exact .refl c
 |n+1,c,a=>by
  unfold bU;simp only;refine(E6 c a).trans ?_;split
  ·exact Lw (qQ n) _ _
  split
  ·exact((yM _ _).trans (qQ n _ _)).trans (o6 _ _ _)
  split
  ·exact(((yM _ _).trans (qQ n _ _)).trans (qQ n _ _)).trans (o6 _ _ _)
  split
  ·exact qQ n _ _
  split
  ·exact(qQ n _ _).trans (o6 _ _ _)
  split
  ·exact Q0 (qQ n) _ _
  ·exact((qQ n _ _).trans (o6 _ _ _)).trans (B8 (fun c a=>Is (Je n) c a) _ _)
theorem FI(body:Int):∀(ps:List bM) (c:Ck) (i:Int),Fw c (fF body c ps i)
 |[],c,i=>by unfold fF;exact .refl c
 |p::ps,c,i=>by unfold fF;simp only;have h1:Fw c (if 0<=c.find p.name then c.aE 41 body else c):=uc (qM c 41 body) (.refl c);generalize (if 0<=c.find p.name then c.aE 41 body else c)=d at*;refine h1.trans ?_;exact Fw.trans (b:={ d with vars:=d.vars++[⟨p.name,p.ty,i⟩],more:=d.more.drop 1,size:=d.size+1 }) (vX rfl rfl) (FI body ps _ _)
def Pz(c:Ck)(k:Nat):∀x∈(gU c k).aw,x∈c.aw\/x=(k:Int):=by
 have h:Fw { c with fn:=(k:Int),vars:=[],more:=[],size:=0 } (gU c k):=by unfold gU;simp only;exact((FI _ _ _ _).trans (uc (Is (Je _) _ _) (.refl _))).trans (vX rfl rfl)
 exact fun x hx=>h.aw x hx
theorem JN:∀(n i:Nat) (c:Ck),∀x∈(gA c i n).aw,x∈c.aw\/((i:Int)<=x/\x<(i:Int)+n)
 |0,i,c,x,hx=>by unfold gA at hx;exact .inl hx
 |n+1,i,c,x,hx=>by
  unfold gA at hx;split at hx
  ·rcases JN n (i+1) _ x hx with h|h
   ·rcases Pz c i x h with h|h
    ·exact .inl h
    ·right;omega
   ·right;omega
  ·exact .inl hx
theorem EX(x:bj):∀(l:List bj) (c:Ck),Fw c (kT x c l)
 |[],c=>by unfold kT;exact .refl c
 |f::l,c=>by unfold kT;exact(uc (qM _ _ _) (.refl _):Fw c (if f.name=x.name then c.aE 41 x.body else c)).trans (EX x l _)
theorem BG(aw:List bj):∀(n i:Nat) (c:Ck) (m:Bool),Fw c (kn aw c m i n).1
 |0,i,c,m=>by unfold kn;exact .refl c
 |n+1,i,c,m=>by unfold kn;exact(EX _ _ c).trans (BG aw n (i+1) _ _)
def Ov(c:Ck):Fw c (jd c):=by unfold jd;simp only;exact uc (BG _ _ _ _ _) ((BG _ _ _ _ _).trans (qM _ _ _))
def Rs{t:aH}(ht:aR t)(he:(iA t).2.2=0)(h1:0<t.aw.length):∀x∈(iA t).1.fn,0<=x/\x<t.aw.length:=fun x hx=>by
 unfold iA at he hx;split at he
 ·rename_i h;exact(h he).elim
 rename_i h;rw[if_neg h]at hx;have hx:x∈(gA (jd (jU t)) 0 t.aw.length).aw:=hx;rcases JN t.aw.length 0 _ x hx with g|g
 ·rcases(Ov (jU t)).aw x g with g|g
  ·have g:x∈t.nodes.map fun _=>(0:Int):=g
   obtain⟨_,_,rfl⟩:=List.mem_map.1 g;omega
  ·have g:x=0:=g;omega
 ·omega
variable{s:UR}
def OE(he:(fZ s).2.2=0):∀k,k<(fZ s).1.aa.nodes.length->0<=nth (fZ s).1.fn k/\nth (fZ s).1.fn k<(fZ s).1.aa.aw.length:=by
 have hok:=Ec he;obtain⟨j,hj,_⟩:=(yI he).names.main;unfold fZ at he hok hj ⊢;split at he
 ·rename_i h;exact(h he).elim
 rename_i h;rw[if_neg h]at hok hj ⊢;have h:(gY s).2.2=0:=jB;simp only at he hok hj ⊢;split at he
 ·cases he
 rename_i h2;split at he
 ·rename_i h3;exact(h3 he).elim
 rename_i h3;rw[if_neg h2,if_neg h3]at hok hj ⊢;have ht:=(zb (u9 h) jB).2;simp only at hok hj ⊢;rw[ht]at hj ⊢;exact fun k hk=>Rs (u9 h) jB jB _ (fa (by rw[hok.fn,ht];exact hk))
structure Ns(c c':Ck):Prop where
 aa:c'.aa=c.aa
 slots:∀k,¬jY (nth c.aa.nodes k).kind->nth c'.slots k=nth c.slots k
def Ns.refl(c:Ck):Ns c c:=⟨rfl,fun _ _=>rfl⟩
theorem Ns.trans{a b c:Ck}(h:Ns a b)(k:Ns b c):Ns a c:=⟨k.aa.trans h.aa,fun j hj=>(k.slots j (by rw[h.aa];exact hj)).trans (h.slots j hj)⟩
def uX{c c':Ck}(h1:c'.aa=c.aa)(h2:c'.slots=c.slots):Ns c c':=⟨h1,fun _ _=>by rw[h2]⟩
def Io(c:Ck)(a s:Int)(h:jY (c.node a).kind):Ns c (c.slot a s):=⟨rfl,fun k hk=>by
 show nth (c.slots.set a.toNat s) k=_;unfold nth;rw[List.getD_eq_getElem?_getD,List.getElem?_set,List.getD_eq_getElem?_getD];by_cases e:a.toNat=k
 ·subst e;exact(hk h).elim
 ·rw[if_neg e]⟩
def qI(c:Ck)(e a:Int):Ns c (c.aE e a):=by unfold Ck.aE;split<;>exact uX rfl rfl
def oN(c:Ck)(b:Bool)(a:Int):Ns c (c.av b a):=by unfold Ck.av;split;exact .refl _;exact qI _ _ _
def yN(c:Ck)(a:Int)(h:jY (c.node a).kind):Ns c (c.named a).1:=by unfold Ck.named;split;exact qI _ _ _;exact Io c a _ h
def UH(c:Ck)(a t:Int):Ns c (c.note a t):=⟨rfl,fun _ _=>rfl⟩
def D1(c:Ck)(a:Int):Ns c (c.ai a):=⟨rfl,fun _ _=>rfl⟩
def uk{c x y:Ck}{q:Prop}[Decidable q](h:Ns c x)(k:Ns c y):Ns c (if q then x else y):=by split;exact h;exact k
theorem Fa{ex:Ck->Int->Ck×Int}(hx:∀c a,Ns c (ex c a).1):∀(L:UP) (c:Ck) (ts:UP),Ns c (gG ex c L ts).1
 |[],c,ts=>by unfold gG;exact .refl c
 |a::L,c,ts=>by
  unfold gG;split
  ·exact(hx c a).trans (Fa hx L _ _)
  ·exact .refl c
theorem Eo(a:Int):∀(ts:UP) (ps:List bM) (c:Ck),Ns c (iE a c ts ps)
 |[],ps,c=>by rw[tV];exact .refl c
 |_::_,[],c=>by rw[ux];exact .refl c
 |x::ts,p::ps,c=>by
  unfold iE;split
  ·exact(oN _ _ _).trans (Eo a ts ps _)
  ·exact .refl c
def Qi(hx:∀c a,Ns c (ex c a).1)(c:Ck)(a:Int):Ns c (je ex c a).1:=by
 unfold je;split
 ·exact qI _ _ _
 ·simp only;exact((Fa hx _ c _).trans (uk (qI _ _ _) (.refl _))).trans (Eo _ _ _ _)
def OL(hx:∀c a,Ns c (ex c a).1)(c:Ck)(a:Int):Ns c (cw ex c a).1:=by
 unfold cw;simp only;split
 ·exact .refl c
 split
 ·exact .refl c
 split
 ·exact .refl c
 split
 ·rename_i e;exact yN _ _ (.inl e)
 split
 ·exact Qi hx c a
 split
 ·rename_i e;exact((yN _ _ (.inr (.inl e))).trans (hx _ _)).trans (oN _ _ _)
 split
 ·exact((hx _ _).trans (hx _ _)).trans (oN _ _ _)
 split
 ·exact(hx _ _).trans (oN _ _ _)
 split
 ·exact(hx _ _).trans (oN _ _ _)
 split
 ·exact(hx _ _).trans (oN _ _ _)
 ·exact(hx _ _).trans (oN _ _ _)
theorem ra:∀(n:Nat) (c:Ck) (a:Int),Ns c (aA n c a).1
 |0,c,a=>by unfold aA;exact .refl c
 |n+1,c,a=>by
  unfold aA;split
  ·exact .refl c
  ·exact(OL (ra n) c a).trans (UH _ _ _)
def T2(hx:∀c a,Ns c (ex c a).1)(c:Ck)(a:Int)(hk:jY (c.node a).kind):Ns c (pm ex c a):=by have hA:Ns c (iS ex c a):=(hx c _).trans (oN _ _ _);have hB:Ns (iS ex c a) (jO ex c a):=uk (qI _ _ _) (.refl _);have hC:Ns (jO ex c a) (eR ex c a):=uk (qI _ _ _) (.refl _);rw[uF];have haM:=(hA.trans hB).trans hC;exact haM.trans ((Io (eR ex c a) a _ (by unfold Ck.node;rw[haM.aa];exact hk)).trans (uX rfl rfl))
def Qu(hx:∀c a,Ns c (ex c a).1)(c:Ck)(a:Int):Ns c (kJ ex c a):=by
 unfold kJ;simp only;split
 ·exact qI _ _ _
 split
 ·exact(hx _ _).trans (oN _ _ _)
 ·exact .refl c
theorem AH{st:Ck->Int->Ck}(hs:∀c a,Ns c (st c a)):∀(L:UP) (c:Ck),Ns c (dS st c L)
 |[],c=>by unfold dS;exact .refl c
 |a::L,c=>by
  unfold dS;split
  ·exact(hs c a).trans (AH hs L _)
  ·exact .refl c
def Fe(hs:∀c a,Ns c (st c a))(c:Ck)(a:Int):Ns c (fp st c a):=by unfold fp;simp only;exact((D1 c a).trans (AH hs _ _)).trans (uX rfl rfl)
theorem Hj:∀(n:Nat) (c:Ck) (a:Int),Ns c (bU n c a)
 |0,c,a=>by unfold bU;exact .refl c
 |n+1,c,a=>by
  unfold bU;simp only;refine(D1 c a).trans ?_;split
  ·rename_i e;exact T2 (ra n) _ _ (.inr (.inr (.inl e)))
  split
  ·rename_i e;exact((yN _ _ (.inr (.inr (.inr (.inl e))))).trans (ra n _ _)).trans (oN _ _ _)
  split
  ·rename_i e;exact(((yN _ _ (.inr (.inr (.inr (.inr e))))).trans (ra n _ _)).trans (ra n _ _)).trans (oN _ _ _)
  split
  ·exact ra n _ _
  split
  ·exact(ra n _ _).trans (oN _ _ _)
  split
  ·exact Qu (ra n) _ _
  ·exact((ra n _ _).trans (oN _ _ _)).trans (AH (fun c a=>Fe (Hj n) c a) _ _)
theorem Jl(body:Int):∀(ps:List bM) (c:Ck) (i:Int),Ns c (fF body c ps i)
 |[],c,i=>by unfold fF;exact .refl c
 |p::ps,c,i=>by unfold fF;simp only;have h1:Ns c (if 0<=c.find p.name then c.aE 41 body else c):=uk (qI c 41 body) (.refl c);generalize (if 0<=c.find p.name then c.aE 41 body else c)=d at*;refine h1.trans ?_;exact Ns.trans (b:={ d with vars:=d.vars++[⟨p.name,p.ty,i⟩],more:=d.more.drop 1,size:=d.size+1 }) (uX rfl rfl) (Jl body ps _ _)
def LQ(c:Ck)(k:Nat):Ns c (gU c k):=by
 have h:Ns { c with fn:=(k:Int),vars:=[],more:=[],size:=0 } (gU c k):=by unfold gU;simp only;exact((Jl _ _ _ _).trans (uk (Fe (Hj _) _ _) (.refl _))).trans (uX rfl rfl)
 exact Ns.trans (b:={ c with fn:=(k:Int),vars:=[],more:=[],size:=0 }) (uX rfl rfl) h
theorem H7:∀(n i:Nat) (c:Ck),Ns c (gA c i n)
 |0,i,c=>by unfold gA;exact .refl c
 |n+1,i,c=>by
  unfold gA;split
  ·exact(LQ c i).trans (H7 n (i+1) _)
  ·exact .refl c
theorem Hq(x:bj):∀(l:List bj) (c:Ck),Ns c (kT x c l)
 |[],c=>by unfold kT;exact .refl c
 |f::l,c=>by unfold kT;exact(uk (qI _ _ _) (.refl _):Ns c (if f.name=x.name then c.aE 41 x.body else c)).trans (Hq x l _)
theorem Bg(aw:List bj):∀(n i:Nat) (c:Ck) (m:Bool),Ns c (kn aw c m i n).1
 |0,i,c,m=>by unfold kn;exact .refl c
 |n+1,i,c,m=>by unfold kn;exact(Hq _ _ c).trans (Bg aw n (i+1) _ _)
def Ol(c:Ck):Ns c (jd c):=by unfold jd;simp only;exact uk (Bg _ _ _ _ _) ((Bg _ _ _ _ _).trans (qI _ _ _))
def RQ{t:aH}(he:(iA t).2.2=0):∀k,k<t.nodes.length->¬jY (nth t.nodes k).kind->nth (iA t).1.slots k<=0:=fun k hk hn=>by
 unfold iA at he ⊢;split at he
 ·rename_i h;exact(h he).elim
 rename_i h;rw[if_neg h];have h1:=(Ol (jU t)).trans (H7 t.aw.length 0 _);show nth (gA (jd (jU t)) 0 t.aw.length).slots k<=0;rw[h1.slots k hn];show nth (t.nodes.map fun _=>(-1:Int)) k<=0;unfold nth;rw[List.getD_eq_getElem?_getD,List.getElem?_map,List.getElem?_eq_getElem hk];show(-1:Int)<=0;omega
def KL{t:List bq}{lo hi:Nat}{L:UP}(h:aL t lo L hi):∀k,lo<=k->k<hi->∃j,j<L.length/\k<=(nth L j).toNat/\(if j=0 then lo else(nth L (j-1)).toNat+1)<=k:=by
 induction h with
 |nil=>intro k h1 h2;omega
 |@cons lo c hi L hc h1 h2 i1 i2=>
  intro k Vr Vc;by_cases e:k<=c
  ·exact⟨0,jE,by show k<=(c:Int).toNat;omega,by rw[if_pos rfl];exact Vr⟩
  ·obtain⟨j,g1,g2,g3⟩:=i2 k jB Vc;refine⟨j+1,by simp;omega,g2,?_⟩;rw[jN];by_cases e0:j=0
   ·subst e0;show(c:Int).toNat+1<=k;omega
   ·rw[if_neg e0]at g3;rw[show j+1-1=(j-1)+1 from jB];exact g3
def P9(h:gi p):∀k,k<p.aa.nodes.length->jY (nth p.aa.nodes k).kind->0<=nth p.slots k:=fun k hk hs=>by
 obtain⟨j,g1,g2,g3⟩:=KL h.ok.aa.chain k (Nat.zero_le _) hk;have g1:j<p.aa.aw.length:=by simpa using g1
 have e:∀i,i<p.aa.aw.length->nth (p.aa.aw.map (·.body)) i=(nth p.aa.aw i).body:=fun i hi=>by unfold nth;rw[List.getD_eq_getElem?_getD,List.getElem?_map,List.getD_eq_getElem?_getD,List.getElem?_eq_getElem hi];rfl
 rw[e j g1]at g2;have hf:=h.aw j g1;refine(hf.all k ?_ jB hs).1;unfold kS;split at g3
 ·rename_i e0;rw[if_pos e0];exact g3
 ·rename_i e0;rw[if_neg e0];rw[e (j-1) jB]at g3;exact g3
def Qs(he:(fZ s).2.2=0):∀k,k<(fZ s).1.aa.nodes.length->¬jY (nth (fZ s).1.aa.nodes k).kind->nth (fZ s).1.slots k<=0:=by
 have hok:=Ec he;unfold fZ at he hok ⊢;split at he
 ·rename_i h;exact(h he).elim
 rename_i h;rw[if_neg h]at hok ⊢;have h:(gY s).2.2=0:=jB;simp only at he hok ⊢;split at he
 ·cases he
 rename_i h2;split at he
 ·rename_i h3;exact(h3 he).elim
 rename_i h3;rw[if_neg h2,if_neg h3]at hok ⊢;have ht:=(zb (u9 h) jB).2;simp only at hok ⊢;rw[ht];exact RQ jB
attribute [local go_sem] iI
def NH(hp:fg p):aB prog 109 [.agg (cf p)] (.agg (xJ (bA p))):=by
 have ht:=hp.ok.ok.aa;have hm:=ht.many;have hbe:=ht.aw;have eV:bA p=fk p p.aa.aw.length:=by unfold bA fk;rw[List.take_length]
 rw[eV];have WH:=DB hp.ok;have WV:=Aw p;rw[BK];refine bF func109 ntmps109 ?_;refine S ?_
 (repeat' (first|refine aq fun K hK=>?_|refine ak ?_|(refine hK _ _ ?_;clear hK K)|(refine ao ?_ ?_<;>intro hc<;>try exact jz)|refine aV 2 ?_|refine al 3 ?_|refine al 0 ?_|refine ap ?_|exact jI|(clear hK K)))
 refine jW (dT.gl 1 0 6 176 4 rfl jC rfl rfl) ?_
 (refine S ?_;try exact jI)
 refine jW (dT.nil 5 4 3 (sz:=1) rfl jC (Or.inl rfl)) ?_
 (refine S ?_;try exact jI)
 have Vb:=hK;clear hK;refine ee (S:=Nat) [(4,1),(6,1),(13,17)] (fun k=>k<=p.aa.aw.length) (fun k=>[(4,.rs 5 k 1 k),(13,rI k)])
  (fun k=>⟨[],[(2,.var 30 (km p)),(3,.var 162 [.raw (.slice none 0 0),.raw (.slice none 0 0)]),(0,.var 202 (km p++[.rs 1 (fk p k).ins.length 4 (fk p k).ins.length])),(1,.aG 176 4 ((fk p k).ins.map du)),(5,.aG 3 1 ((fk p k).entry.map eI))]⟩)
  (fun k=>p.aa.aw.length-k) 0 jB (dZ rfl cr) ?_
 rintro k hk Kr U5;have X3:=WH k hk;have hek:=WV k hk;by_cases I':k<p.aa.aw.length
 ·have hs:=zT p k I';have Wi:=pB ht (k:=k) I';have WG:=Wi.1;have W4:=Wi.2;have Yu:=ht.body _ (fa I');have hbl:=zP ht (mZ p) (nth p.aa.aw k).body (fk p k).ins.length jB jB Yu;have hcb:=BN hp (xP hp (mZ p)) (nth p.aa.aw k).body (fk p k).ins jB jB Yu (by show _<=p.aa.nodes.length;omega) (by have:mZ p<=300:=hm;omega);change ab _ _ _ _ (fun r l=>r=.aQ []/\l=bV p ((fk p k).ins++qJ p (mZ p) (nth p.aa.aw k).body (fk p k).ins.length))at hcb
  change (qJ p (mZ p) (nth p.aa.aw k).body (fk p k).ins.length).length<=1200 at hbl
  have YI:=jg p ((fk p k).ins++qJ p (mZ p) (nth p.aa.aw k).body (fk p k).ins.length) 22 (nth p.aa.aw k).ret (by rw[List.length_append];omega);have e1:(fk p (k+1)).ins=(fk p k).ins++qJ p (mZ p) (nth p.aa.aw k).body (fk p k).ins.length++[iI 22 (nth p.aa.aw k).ret]:=by rw[hs];rfl
  have e2:(fk p (k+1)).entry=(fk p k).entry++[((fk p k).ins.length:Int)]:=by rw[hs];rfl
  generalize qJ p (mZ p) (nth p.aa.aw k).body (fk p k).ins.length=B at*;generalize hC':fk p (k+1)=C' at*;generalize fk p k=C at*;generalize hF:nth p.aa.aw k=F at*;refine S ?_
  (have W:=jA hF hek;repeat' (first|refine aq fun K hK=>?_|refine ak ?_|(refine hK _ _ ?_;clear hK K)|(refine ao ?_ ?_<;>intro hc<;>try exact jz)|refine al 6 ?_|refine cm (hcb) ?_|refine cm (YI) ?_|refine ap ?_|exact jI|(clear hK K)))
  refine U5 _ _ (po [6] (k+1) jB (by show p.aa.aw.length-(k+1)<p.aa.aw.length-k;omega) rfl Sd (by rw[hC',e1,e2];simp only[km,List.map_append,List.length_append,List.map_cons,List.map_nil,List.length_cons,List.length_nil];rfl) jo)
 ·have e:k=p.aa.aw.length:=jB;subst e;generalize fk p p.aa.aw.length=C at*;refine S ?_
  (have W:=hek;repeat' (first|refine aq fun K hK=>?_|refine ak ?_|(refine hK _ _ ?_;clear hK K)|(refine ao ?_ ?_<;>intro hc<;>try exact jz)|refine Vb _ _ ?_|refine ap ?_|exact jI|(clear hK K)))
  refine fH [.cell 2 162] ?_;exact bt.agg (ds:=[aM du 4 C.ins,aM eI 1 C.entry]) (jA (cY.row (enc:=du) C.ins rfl rfl jE) (jA (cY.row (enc:=eI) C.entry rfl rfl (by simp[hek])) trivial))
def A0(he:(fZ s).2.2=0):fg (fZ s).1:=⟨yI he,Qs he,P9 (yI he)⟩
def SD(f:bj):aB prog 128 [.agg (fY f)] (rB (decide (f.name=(⟨#[109,97,105,110]⟩:UR)))):=by
 refine bF func128 ntmps128 ?_
 (repeat' (first|refine aq fun K hK=>?_|refine ak ?_|(refine hK _ _ ?_;clear hK K)|(refine ao ?_ ?_<;>intro hc<;>try exact jz)|refine aV 4 ?_|refine ap ?_|exact jI|(clear hK K)))
 (refine aW [.tmp 2] ?_;try simp only[go_sem])
def Mb(L:List bj)(k:Nat)(hL:L.length<=1000)(hk:k<L.length)(Vd:(nth L k).name=(⟨#[109,97,105,110]⟩:UR))(Xc:∀i,i<k->(nth L i).name≠(⟨#[109,97,105,110]⟩:UR)) :
  aB prog 127 [aM fY 5 L,.raw (.func (.func 128) #[] #[])] (rI k):=by
 refine bF func127 ntmps127 ?_
 (repeat' (first|refine aq fun K hK=>?_|refine ak ?_|(refine hK _ _ ?_;clear hK K)|(refine ao ?_ ?_<;>intro hc<;>try exact jz)|refine ap ?_|exact jI|(clear hK K)))
 refine ee (S:=Nat) [(4,2),(8,11)] (fun i=>i<=k) (fun i=>[(8,rI i)]) (fun i=>⟨[],[]⟩) (fun i=>k-i) 0 jB (dZ rfl cr) ?_;rintro i hi Kr U5;have Xv:=SD (nth L i);by_cases e:i=k
 ·subst e;rw[decide_eq_true Vd]at Xv;refine S ?_
  (repeat' (first|refine aq fun K hK=>?_|refine ak ?_|(refine hK _ _ ?_;clear hK K)|(refine ao ?_ ?_<;>intro hc<;>try exact jz)|refine cp (Xv) ?_|refine ap ?_|exact jI|(clear hK K)))
  (refine aW [.tmp 4] ?_;try simp only[go_sem])
 ·rw[decide_eq_false (Xc i jB)]at Xv;refine S ?_
  (repeat' (first|refine aq fun K hK=>?_|refine ak ?_|(refine hK _ _ ?_;clear hK K)|(refine ao ?_ ?_<;>intro hc<;>try exact jz)|refine cp (Xv) ?_|refine ap ?_|exact jI|(clear hK K)))
  refine U5 _ _ (dY (i+1) jB jJ rfl cr)
def Tk(m:Nat)(hL:p.aa.aw.length<=1000)(hk:m<p.aa.aw.length)(Vd:(nth p.aa.aw m).name=(⟨#[109,97,105,110]⟩:UR))(Xc:∀i,i<m->(nth p.aa.aw i).name≠(⟨#[109,97,105,110]⟩:UR)):aB prog 112 [.agg (cf p)] (rI m):=by
 have XA:=Mb p.aa.aw m hL hk Vd Xc;rw[BK];refine bF func112 ntmps112 ?_;refine S ?_
 (repeat' (first|refine aq fun K hK=>?_|refine ak ?_|(refine hK _ _ ?_;clear hK K)|(refine ao ?_ ?_<;>intro hc<;>try exact jz)|refine aV 2 ?_|refine cp (XA) ?_|refine ap ?_|exact jI|(clear hK K)))
 (refine aW [.tmp 2] ?_;try simp only[go_sem])
end Go.Proofs.YtijdhbokcdpklaaGreatDoor