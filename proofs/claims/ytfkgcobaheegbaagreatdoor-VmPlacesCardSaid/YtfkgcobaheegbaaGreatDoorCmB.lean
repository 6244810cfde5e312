/- Lemmas. No conditions. -/
import Derived.Test.YtfkgcobaheegbaaGreatDoorVnE
set_option linter.all false
set_option maxHeartbeats 4000000
set_option maxRecDepth 10000
namespace Go.Gd
open Go
def jO(h:List (List Int))(k:Nat):Nat:=(h.take k).flatten.length
def ll(h:List (List Int)):List Int:=(List.range h.length).map fun k=>((jO h (k+1):Nat):Int)
theorem uS(h:List (List Int)):(ll h).length=h.length:=by simp[ll]
variable{h:List (List Int)}{k:Nat}
theorem uL(hk:k<h.length):jO h (k+1)=jO h k+(nth h k).length:=by
 unfold jO;rw[List.take_succ,List.getElem?_eq_getElem hk,List.flatten_append,List.length_append,dN hk];simp
theorem wU(h:List (List Int))(k:Nat):jO h k<=h.flatten.length:=by
 unfold jO;have:h.flatten=(h.take k).flatten++(h.drop k).flatten:=by rw[<-List.flatten_append,List.take_append_drop]
 rw[this,List.length_append];omega
theorem CP(hk:k<h.length):nth (ll h) k=(jO h (k+1):Nat):=by
 rw[dN (by rw[uS];exact hk)];simp[ll]
theorem Mp{i:Nat}(hk:k<h.length)(hi:i<(nth h k).length):nth h.flatten (jO h k+i)=nth (nth h k) i:=by
 have e:h.flatten=(h.take k).flatten++(nth h k++(h.drop (k+1)).flatten):=by
  rw[dN hk,<-List.flatten_cons,List.getElem_cons_drop,<-List.flatten_append,List.take_append_drop]
 rw[e];unfold jO;unfold nth at hi ⊢;rw[List.getD_eq_getElem?_getD,List.getElem?_append_right jB,Nat.add_sub_cancel_left,List.getElem?_append_left hi,<-List.getD_eq_getElem?_getD]
theorem HH{i:Nat}(n:Int)(hk:k<h.length)(hi:i<(nth h k).length):(h.set k ((nth h k).set i n)).flatten=h.flatten.set (jO h k+i) n:=by
 have e:h.flatten=(h.take k).flatten++(nth h k++(h.drop (k+1)).flatten):=by
  rw[dN hk,<-List.flatten_cons,List.getElem_cons_drop,<-List.flatten_append,List.take_append_drop]
 have e2:h.set k ((nth h k).set i n)=h.take k++((nth h k).set i n::h.drop (k+1)):=by rw[List.set_eq_take_append_cons_drop,if_pos hk]
 rw[e2,List.flatten_append,List.flatten_cons,e];unfold jO;rw[List.set_append_right _ _ jB,Nat.add_sub_cancel_left,List.set_append_left _ _ hi]
theorem Im(l:List Int)(hl:l.length=(nth h k).length)(hk:k<h.length):ll (h.set k l)=ll h:=by
 unfold ll;rw[List.length_set];apply List.map_congr_left;intro j _;congr 1
 unfold jO;rw[List.take_set,List.length_flatten,List.length_flatten,List.map_set];congr 1
 apply List.ext_getElem jE;intro i h1 h2;rw[List.getElem_set];split
 ·rename_i e;subst e;rw[List.getElem_map,List.getElem_take,hl,dN hk]
 ·rfl
def gr(h:List (List Int)):List (Nat×Row):=[(2,.var 197 [.rs 3 h.flatten.length 1 h.flatten.length,.rs 4 h.length 1 h.length]),(3,.aO 3 1 (h.flatten.map eI)),(4,.aO 3 1 ((ll h).map eI))]
attribute [go_sem] gr
end Go.Gd
namespace Go.Proofs.YtfkgcobaheegbaaGreatDoor
open Go Go.Gd Tryz
theorem zG(h:List (List Int))(a:Int)(hl:h.length<=1000)(ha:a<1\/(h.length:Int)<a):aj prog 135 [.pt 2 0 0 0,rI a] (gr h) (fun r l=>r=.raw (.slice none 0 0)/\l=gr h):=by
 have hel:=uS h;by_cases h1:a<1
 ·refine aU func135 ntmps135 ?_
  (refine S ?_;try exact jI)
  (repeat' (first|refine aA fun K hK=>?_|refine aC ?_|(refine hK _ _ ?_;clear hK K)|(refine aB ?_ ?_<;>intro hc<;>try exact jz)|refine az ?_|exact jI|(clear hK K)))
  (refine bV [.tmp 4] ?_ ?_<;>(try simp only[go_sem]))
 ·refine aU func135 ntmps135 ?_
  (refine S ?_;try exact jI)
  (repeat' (first|refine aA fun K hK=>?_|refine aC ?_|(refine hK _ _ ?_;clear hK K)|(refine aB ?_ ?_<;>intro hc<;>try exact jz)|refine az ?_|exact jI|(clear hK K)))
  (refine bV [.tmp 4] ?_ ?_<;>(try simp only[go_sem]))
theorem vH(h:List (List Int))(k:Nat)(a:Int)(ha:a=(k:Int)+1)(hl:h.length<=1000)(hf:h.flatten.length<=1000)(hk:k<h.length):aj prog 135 [.pt 2 0 0 0,rI a] (gr h) (fun r l=>r=.rv 3 h.flatten.length 1 (jO h k) (nth h k).length/\l=gr h):=by
 have hel:=uS h;have e1:nth (ll h) (a-1).toNat=(jO h k+(nth h k).length:Nat):=by rw[show(a-1).toNat=k from jB,CP hk,uL hk]
 have e2:=uL hk;have e3:=wU h (k+1);generalize (nth h k).length=c at*;by_cases h1:k=0
 ·have e0:jO h k=0:=by subst h1;rfl
  rw[e0]at e1 e2;rw[e0];refine aU func135 ntmps135 ?_
  (refine S ?_;try exact jI)
  (have W:=jA hel e1;repeat' (first|refine aA fun K hK=>?_|refine aC ?_|(refine hK _ _ ?_;clear hK K)|(refine aB ?_ ?_<;>intro hc<;>try exact jz)|refine az ?_|exact jI|(clear hK K)));all_goals(try clear W)
  (refine bV [.tmp 4] ?_ ?_<;>(try simp only[go_sem]))
  rw[Nat.sub_zero]
 ·have e4:nth (ll h) (a-2).toNat=(jO h k:Nat):=by
   have e4:=CP (h:=h) (k:=k-1) jB;rw[show k-1+1=k from jB]at e4;rw[show(a-2).toNat=k-1 from jB];exact e4
  generalize jO h k=o at*;refine aU func135 ntmps135 ?_
  (refine S ?_;try exact jI)
  (have W:=jA hel (jA e1 (e4));repeat' (first|refine aA fun K hK=>?_|refine aC ?_|(refine hK _ _ ?_;clear hK K)|(refine aB ?_ ?_<;>intro hc<;>try exact jz)|refine az ?_|exact jI|(clear hK K)));all_goals(try clear W)
  (refine bV [.tmp 4] ?_ ?_<;>(try simp only[go_sem]))
  rw[Nat.add_sub_cancel_left]
theorem M7(h:List (List Int))(a:Int)(hl:h.length<=1000)(hf:h.flatten.length<=1000):aj prog 179 [.pt 2 0 0 0,rI a] (gr h) (fun r l=>r=rI (MV.bo h a).length/\l=gr h):=by
 unfold MV.bo;by_cases e:a<1\/(h.length:Int)<a
 ·have hc1:=zG h a hl e
  rw[if_pos e];refine aU func179 ntmps179 ?_
  (refine S ?_;try exact jI)
  (repeat' (first|refine aA fun K hK=>?_|refine aC ?_|(refine hK _ _ ?_;clear hK K)|(refine aB ?_ ?_<;>intro hc<;>try exact jz)|refine cm (hc1) ?_|refine az ?_|exact jI|(clear hK K)))
  (refine bV [.tmp 4] ?_ ?_<;>(try simp only[go_sem]))
 ·have hc1:=vH h (a-1).toNat a jB hl hf jB
  rw[if_neg e];refine aU func179 ntmps179 ?_
  (refine S ?_;try exact jI)
  (repeat' (first|refine aA fun K hK=>?_|refine aC ?_|(refine hK _ _ ?_;clear hK K)|(refine aB ?_ ?_<;>intro hc<;>try exact jz)|refine cm (hc1) ?_|refine az ?_|exact jI|(clear hK K)))
  (refine bV [.tmp 4] ?_ ?_<;>(try simp only[go_sem]))
theorem NI(h:List (List Int))(a i:Int)(hl:h.length<=1000)(hf:h.flatten.length<=1000):aj prog 180 [.pt 2 0 0 0,rI a,rI i] (gr h) (fun r l=>r=.bg [rI (if i<0\/((MV.bo h a).length:Int)<=i then 0 else nth (MV.bo h a) i.toNat),rI (if i<0\/((MV.bo h a).length:Int)<=i then 2 else 0)]/\l=gr h):=by
 by_cases e:a<1\/(h.length:Int)<a
 ·have hc1:=zG h a hl e
  have e2:MV.bo h a=[]:=by unfold MV.bo;rw[if_pos e]
  have e3:i<0\/(([]:List Int).length:Int)<=i:=by simp only[List.length_nil];omega
  rw[e2,if_pos e3,if_pos e3];by_cases h0:i<0
  ·refine aU func180 ntmps180 ?_
   (refine S ?_;try exact jI)
   (repeat' (first|refine aA fun K hK=>?_|refine aC ?_|(refine hK _ _ ?_;clear hK K)|(refine aB ?_ ?_<;>intro hc<;>try exact jz)|refine cm (hc1) ?_|refine az ?_|exact jI|(clear hK K)))
   (refine bV [.tmp 6,.tmp 7] ?_ ?_<;>(try simp only[go_sem]))
  ·refine aU func180 ntmps180 ?_
   (refine S ?_;try exact jI)
   (repeat' (first|refine aA fun K hK=>?_|refine aC ?_|(refine hK _ _ ?_;clear hK K)|(refine aB ?_ ?_<;>intro hc<;>try exact jz)|refine cm (hc1) ?_|refine az ?_|exact jI|(clear hK K)))
   (refine bV [.tmp 6,.tmp 7] ?_ ?_<;>(try simp only[go_sem]))
 ·have hc1:=vH h (a-1).toNat a jB hl hf jB
  have e2:MV.bo h a=nth h (a-1).toNat:=by unfold MV.bo;rw[if_neg e]
  rw[e2];have hk:(a-1).toNat<h.length:=jB
  generalize (a-1).toNat=k at*;have hof:=uL hk;have hle:=wU h (k+1);by_cases e3:i<0\/((nth h k).length:Int)<=i
  ·rw[if_pos e3,if_pos e3]
   by_cases h0:i<0
   ·refine aU func180 ntmps180 ?_
    (refine S ?_;try exact jI)
    (repeat' (first|refine aA fun K hK=>?_|refine aC ?_|(refine hK _ _ ?_;clear hK K)|(refine aB ?_ ?_<;>intro hc<;>try exact jz)|refine cm (hc1) ?_|refine az ?_|exact jI|(clear hK K)))
    (refine bV [.tmp 6,.tmp 7] ?_ ?_<;>(try simp only[go_sem]))
   ·refine aU func180 ntmps180 ?_
    (refine S ?_;try exact jI)
    (repeat' (first|refine aA fun K hK=>?_|refine aC ?_|(refine hK _ _ ?_;clear hK K)|(refine aB ?_ ?_<;>intro hc<;>try exact jz)|refine cm (hc1) ?_|refine az ?_|exact jI|(clear hK K)))
    (refine bV [.tmp 6,.tmp 7] ?_ ?_<;>(try simp only[go_sem]))
  ·rw[if_neg e3,if_neg e3]
   have hn:=Mp (i:=i.toNat) hk jB;refine aU func180 ntmps180 ?_
   (refine S ?_;try exact jI)
   (have W:=hn;repeat' (first|refine aA fun K hK=>?_|refine aC ?_|(refine hK _ _ ?_;clear hK K)|(refine aB ?_ ?_<;>intro hc<;>try exact jz)|refine cm (hc1) ?_|refine az ?_|exact jI|(clear hK K)));all_goals(try clear W)
   (refine bV [.tmp 6,.tmp 7] ?_ ?_<;>(try simp only[go_sem]))
theorem P1(h:List (List Int))(a i n:Int)(hl:h.length<=1000)(hf:h.flatten.length<=1000)(hi:¬(i<0\/((MV.bo h a).length:Int)<=i)):aj prog 181 [.pt 2 0 0 0,rI a,rI i,rI n] (gr h) (fun r l=>r=rI 0/\l=gr (h.set (a-1).toNat ((nth h (a-1).toNat).set i.toNat n))):=by
 have e:¬(a<1\/(h.length:Int)<a):=fun e=>hi (by unfold MV.bo;rw[if_pos e];simp only[List.length_nil];omega)
 have e2:MV.bo h a=nth h (a-1).toNat:=by unfold MV.bo;rw[if_neg e]
 rw[e2]at hi;have hc1:=vH h (a-1).toNat a jB hl hf jB;have hk:(a-1).toNat<h.length:=jB
 generalize (a-1).toNat=k at*;have hof:=uL hk;have hle:=wU h (k+1);have hn:=HH n hk (i:=i.toNat) jB;have hes:=Im (h:=h) (k:=k) ((nth h k).set i.toNat n) (by rw[List.length_set]) hk;have hfl:(h.flatten.set (jO h k+i.toNat) n).length=h.flatten.length:=List.length_set;unfold gr;rw[hn,hes];simp only[List.length_set,List.map_set];refine aU func181 ntmps181 ?_
 (refine S ?_;try exact jI)
 (repeat' (first|refine aA fun K hK=>?_|refine aC ?_|(refine hK _ _ ?_;clear hK K)|(refine aB ?_ ?_<;>intro hc<;>try exact jz)|refine cm (hc1) ?_|refine az ?_|exact jI|(clear hK K)))
 (refine bV [.tmp 8] ?_ ?_<;>(try simp only[go_sem]))
theorem NP(h:List (List Int))(a i n:Int)(hl:h.length<=1000)(hf:h.flatten.length<=1000)(hi:i<0\/((MV.bo h a).length:Int)<=i):aj prog 181 [.pt 2 0 0 0,rI a,rI i,rI n] (gr h) (fun r l=>r=rI 2/\l=gr h):=by
 by_cases e:a<1\/(h.length:Int)<a
 ·have hc1:=zG h a hl e
  by_cases h0:i<0
  ·refine aU func181 ntmps181 ?_
   (refine S ?_;try exact jI)
   (repeat' (first|refine aA fun K hK=>?_|refine aC ?_|(refine hK _ _ ?_;clear hK K)|(refine aB ?_ ?_<;>intro hc<;>try exact jz)|refine cm (hc1) ?_|refine az ?_|exact jI|(clear hK K)))
   (refine bV [.tmp 8] ?_ ?_<;>(try simp only[go_sem]))
  ·refine aU func181 ntmps181 ?_
   (refine S ?_;try exact jI)
   (repeat' (first|refine aA fun K hK=>?_|refine aC ?_|(refine hK _ _ ?_;clear hK K)|(refine aB ?_ ?_<;>intro hc<;>try exact jz)|refine cm (hc1) ?_|refine az ?_|exact jI|(clear hK K)))
   (refine bV [.tmp 8] ?_ ?_<;>(try simp only[go_sem]))
 ·have hc1:=vH h (a-1).toNat a jB hl hf jB
  have e2:MV.bo h a=nth h (a-1).toNat:=by unfold MV.bo;rw[if_neg e]
  rw[e2]at hi;have hk:(a-1).toNat<h.length:=jB
  generalize (a-1).toNat=k at*;have hof:=uL hk;have hle:=wU h (k+1);by_cases h0:i<0
  ·refine aU func181 ntmps181 ?_
   (refine S ?_;try exact jI)
   (repeat' (first|refine aA fun K hK=>?_|refine aC ?_|(refine hK _ _ ?_;clear hK K)|(refine aB ?_ ?_<;>intro hc<;>try exact jz)|refine cm (hc1) ?_|refine az ?_|exact jI|(clear hK K)))
   (refine bV [.tmp 8] ?_ ?_<;>(try simp only[go_sem]))
  ·refine aU func181 ntmps181 ?_
   (refine S ?_;try exact jI)
   (repeat' (first|refine aA fun K hK=>?_|refine aC ?_|(refine hK _ _ ?_;clear hK K)|(refine aB ?_ ?_<;>intro hc<;>try exact jz)|refine cm (hc1) ?_|refine az ?_|exact jI|(clear hK K)))
   (refine bV [.tmp 8] ?_ ?_<;>(try simp only[go_sem]))
end Go.Proofs.YtfkgcobaheegbaaGreatDoor
namespace Go.Gd
open Go
theorem KH(h:List (List Int))(k:Nat):(h++[List.replicate k 0]).flatten=h.flatten++List.replicate k 0:=jE
theorem IZ(h:List (List Int))(k:Nat):ll (h++[List.replicate k 0])=ll h++[((h.flatten.length+k:Nat):Int)]:=by
 unfold ll;rw[List.length_append,List.length_singleton,List.range_succ,List.map_append,List.map_singleton];congr 1
 ·apply List.map_congr_left
  intro j hj;have hj:j<h.length:=List.mem_range.1 hj;congr 1
  unfold jO;rw[List.take_append_of_le_length jB]
 ·congr 2
  unfold jO;rw[List.take_of_length_le jE];simp
theorem HW(k:Nat):(List.replicate k (0:Int)).map eI=List.replicate k [AV.raw (.int .i64 0)]:=by simp[eI]
end Go.Gd
namespace Go.Proofs.YtfkgcobaheegbaaGreatDoor
open Go Go.Gd Tryz
theorem Pf(h:List (List Int))(n:Int)(hn:n<0\/16<n)(hl:h.length<=40)(hf:h.flatten.length<=40):aj prog 183 [.pt 2 0 0 0,rI n] (gr h) (fun r l=>r=.bg [rI 0,rI 7]/\l=gr h):=by
 have hel:=uS h;refine aU func183 ntmps183 ?_
 (refine S ?_;try exact jI)
 by_cases h0:n<0
 ·(repeat' (first|refine aA fun K hK=>?_|refine aC ?_|(refine hK _ _ ?_;clear hK K)|(refine aB ?_ ?_<;>intro hc<;>try exact jz)|refine az ?_|exact jI|(clear hK K)))
  (refine bV [.tmp 4,.tmp 5] ?_ ?_<;>(try simp only[go_sem]))
 ·(repeat' (first|refine aA fun K hK=>?_|refine aC ?_|(refine hK _ _ ?_;clear hK K)|(refine aB ?_ ?_<;>intro hc<;>try exact jz)|refine az ?_|exact jI|(clear hK K)))
  (refine bV [.tmp 4,.tmp 5] ?_ ?_<;>(try simp only[go_sem]))
theorem Jc(h:List (List Int))(n:Int)(hn:0<=n/\n<=16)(hc:40<(h.length:Int)+h.flatten.length+n+1)(hl:h.length<=40)(hf:h.flatten.length<=40):aj prog 183 [.pt 2 0 0 0,rI n] (gr h) (fun r l=>r=.bg [rI 0,rI 4]/\l=gr h):=by
 have hel:=uS h;refine aU func183 ntmps183 ?_
 (refine S ?_;try exact jI)
 (repeat' (first|refine aA fun K hK=>?_|refine aC ?_|(with_reducible refine gR 3 ?_);refine dE 3 [0,1,2,3,4,5,6,7,8,9,10,11,12,13,14,15] mixed ?_|(refine hK _ _ ?_;clear hK K)|(refine aB ?_ ?_<;>intro hc<;>try exact jz)|refine az ?_|exact jI|(clear hK K)))
 (refine bV [.tmp 4,.tmp 5] ?_ ?_<;>(try simp only[go_sem]))
theorem Po(h:List (List Int))(k:Nat)(hn:k<=16)(hc:h.length+h.flatten.length+k+1<=40):aj prog 183 [.pt 2 0 0 0,rI k] (gr h) (fun r l=>r=.bg [rI (h.length+1:Nat),rI 0]/\l=gr (h++[List.replicate k 0])):=by
 have hel:=uS h;unfold gr;rw[KH,IZ,List.map_append,HW];refine aU func183 ntmps183 ?_
 (refine S ?_;try exact jI)
 (repeat' (first|refine aA fun K hK=>?_|refine aC ?_|(with_reducible refine gR 3 ?_);refine dE 3 [0,1,2,3,4,5,6,7,8,9,10,11,12,13,14,15] mixed ?_|(with_reducible refine gR 6 ?_);refine dE 6 [0,1,2,3,4,5,6,7,8,9,10,11,12,13,14] mixed ?_|(refine hK _ _ ?_;clear hK K)|(refine aB ?_ ?_<;>intro hc<;>try exact jz)|(refine PN (e:=3) (z0:=.int .i64 0) (css:=h.flatten.map eI) jG ⟨.i64,jG⟩ jG jG rfl (by simp only[go_sem];rfl) (by rw[List.length_map]) (by rw[List.length_map]) (by simp only[go_sem,room,List.length_map];omega) ?_;simp only[List.length_map];try refine S ?_)|refine az ?_|exact jI|(clear hK K)))
 (refine bV [.tmp 4,.tmp 5] ?_ ?_<;>(try simp only[go_sem]))
 simp[eI]
end Go.Proofs.YtfkgcobaheegbaaGreatDoor
namespace Go.Gd
open Go
def js(p:ab):List AV:=[bt er 5 p.aa.nodes,bt fU 5 p.aa.ap,bt eI 1 p.types,bt eI 1 p.slots,bt eI 1 p.fn,bt eI 1 p.size]
theorem Be(p:ab):fB p=js p:=rfl
def bK(p:ab)(L:List au):List (Nat×Row):=[(0,.var 194 (js p++[.rs 1 L.length 4 L.length])),(1,.aO 139 4 (L.map cW))]
attribute [go_sem] bK js
end Go.Gd
namespace Go.Proofs.YtfkgcobaheegbaaGreatDoor
open Go Go.Gd Tryz
theorem nV(p:ab)(L:List au)(a:Int)(h0:0<=a)(h1:a.toNat<p.aa.nodes.length):aj prog 169 [.pt 0 0 0 0,rI a] (bK p L) (fun r l=>r=.agg (er (ai p a))/\l=bK p L):=by
 unfold ai;refine aU func169 ntmps169 ?_
 (refine S ?_;try exact jI)
 (repeat' (first|refine aA fun K hK=>?_|refine aC ?_|(refine hK _ _ ?_;clear hK K)|(refine aB ?_ ?_<;>intro hc<;>try exact jz)|refine al 5 ?_|refine az ?_|exact jI|(clear hK K)))
 (refine bH [.cell 4 53] ?_;try simp only[go_sem])
theorem iD(p:ab)(L:List au)(op a:Int)(hL:L.length<=1000000):aj prog 124 [.pt 0 0 0 0,rI op,rI a] (bK p L) (fun r l=>r=rI L.length/\l=bK p (L++[⟨op,a,0,sE⟩])):=by
 refine aU func124 ntmps124 ?_
 (refine S ?_;try exact jI)
 (repeat' (first|refine aA fun K hK=>?_|refine aC ?_|(refine hK _ _ ?_;clear hK K)|(refine aB ?_ ?_<;>intro hc<;>try exact jz)|refine az ?_|exact jI|(clear hK K)))
 (refine bH [.tmp 6] ?_;try simp only[go_sem])
 rw[show((L.length+1:Nat):Int)-1=(L.length:Int) from jB]
theorem AD(p:ab)(L:List au)(k:Nat)(hk:k<L.length)(hL:L.length<=1000000):aj prog 257 [.pt 0 0 0 0,rI k] (bK p L) (fun r l=>r=.bg []/\l=bK p (L.set k { nth L k with a:=L.length })):=by
 refine aU func257 ntmps257 ?_
 (refine S ?_;try exact jI)
 (repeat' (first|refine aA fun K hK=>?_|refine aC ?_|(with_reducible refine gR 0 ?_);refine dE 0 [0,1,2,3,4,5,6,7,8,9,10,11,12] mixed ?_|(refine hK _ _ ?_;clear hK K)|(refine aB ?_ ?_<;>intro hc<;>try exact jz)|refine az ?_|exact jI|(clear hK K)))
 (refine bV [] ?_ ?_<;>(try simp only[go_sem]))
def xk(p:ab)(a:Int):List au:=if(ai p a).kind=1 then[iI 2 (ai p a).n]else if(ai p a).kind=2 then[iI 3 (ai p a).n]else if(ai p a).kind=3 then[⟨4,0,0,(ai p a).name⟩]else if(ai p a).kind=4 then[⟨5,nth p.slots a.toNat,nth p.types a.toNat,sE⟩]else if(ai p a).kind=19 then[iI 14 0]else[]
theorem Ls(p:ab)(L:List au)(a:Int)(h0:0<=a)(h2:a.toNat<p.slots.length)(h3:a.toNat<p.types.length)(hL:L.length<=1000000) :
  aj prog 260 [.pt 0 0 0 0,.agg (er (ai p a)),rI a] (bK p L) (fun r l=>r=.bg []/\l=bK p (L++xk p a)):=by
 unfold xk;have hp1:=iD p L 2 (ai p a).n hL;have hp2:=iD p L 3 (ai p a).n hL;have hp3:=iD p L 14 0 hL;generalize ai p a=nd at*;by_cases k1:nd.kind=1
 ·rw[if_pos k1]
  refine aU func260 ntmps260 ?_
  (refine S ?_;try exact jI)
  (have W:=k1;repeat' (first|refine aA fun K hK=>?_|refine aC ?_|(refine hK _ _ ?_;clear hK K)|(refine aB ?_ ?_<;>intro hc<;>try exact jz)|refine bx 5 ?_|refine cm (hp1) ?_|refine az ?_|exact jI|(clear hK K)));all_goals(try clear W)
  (refine bH [] ?_;try simp only[go_sem])
 rw[if_neg k1];have n1:=eq_false k1;by_cases k2:nd.kind=2
 ·rw[if_pos k2]
  refine aU func260 ntmps260 ?_
  (refine S ?_;try exact jI)
  (have W:=k2;repeat' (first|refine aA fun K hK=>?_|refine aC ?_|(refine hK _ _ ?_;clear hK K)|(refine aB ?_ ?_<;>intro hc<;>try exact jz)|refine bx 5 ?_|refine cm (hp2) ?_|refine az ?_|exact jI|(clear hK K)));all_goals(try clear W)
  (refine bH [] ?_;try simp only[go_sem])
 rw[if_neg k2];have n2:=eq_false k2;by_cases k3:nd.kind=3
 ·rw[if_pos k3]
  refine aU func260 ntmps260 ?_
  (refine S ?_;try exact jI)
  (have W:=k3;repeat' (first|refine aA fun K hK=>?_|refine aC ?_|(with_reducible refine gR 7 ?_);refine dE 7 [0,1,2,3,4,5,6,7,8,9,10,11,12] mixed ?_|(refine hK _ _ ?_;clear hK K)|(refine aB ?_ ?_<;>intro hc<;>try exact jz)|refine bx 5 ?_|refine az ?_|exact jI|(clear hK K)));all_goals(try clear W)
  (refine bH [] ?_;try simp only[go_sem])
 rw[if_neg k3];have n3:=eq_false k3;by_cases k4:nd.kind=4
 ·rw[if_pos k4]
  refine aU func260 ntmps260 ?_
  (refine S ?_;try exact jI)
  (have W:=k4;repeat' (first|refine aA fun K hK=>?_|refine aC ?_|(with_reducible refine gR 9 ?_);refine dE 9 [0,1,2,3,4,5,6,7,8,9,10,11,12,13,14,15,16,17,18,19,20,21,22,23,24,25,26] mixed ?_|(refine hK _ _ ?_;clear hK K)|(refine aB ?_ ?_<;>intro hc<;>try exact jz)|refine bx 5 ?_|refine az ?_|exact jI|(clear hK K)));all_goals(try clear W)
  (refine bH [] ?_;try simp only[go_sem])
 rw[if_neg k4];have n4:=eq_false k4;by_cases k5:nd.kind=19
 ·rw[if_pos k5]
  refine aU func260 ntmps260 ?_
  (refine S ?_;try exact jI)
  (have W:=k5;repeat' (first|refine aA fun K hK=>?_|refine aC ?_|(refine hK _ _ ?_;clear hK K)|(refine aB ?_ ?_<;>intro hc<;>try exact jz)|refine bx 5 ?_|refine cm (hp3) ?_|refine az ?_|exact jI|(clear hK K)));all_goals(try clear W)
  (refine bH [] ?_;try simp only[go_sem])
 rw[if_neg k5,List.append_nil];have n5:=eq_false k5;refine aU func260 ntmps260 ?_
 (refine S ?_;try exact jI)
 (have W:=jA n1 (jA n2 (jA n3 (jA n4 (n5))));repeat' (first|refine aA fun K hK=>?_|refine aC ?_|(refine hK _ _ ?_;clear hK K)|(refine aB ?_ ?_<;>intro hc<;>try exact jz)|refine bx 5 ?_|refine az ?_|exact jI|(clear hK K)));all_goals(try clear W)
 (refine bH [] ?_;try simp only[go_sem])
attribute [local go_sem] iI
theorem BX{p:ab}(ht:aH p.aa):∀(n m:Nat) (a k:Int),0<=a->a.toNat<p.aa.nodes.length->bO (bs p.aa.nodes a)->a.toNat<n->a.toNat<m->aR p n a k=aR p m a k
 |0,m,a,k,_,_,_,hn,_=>by omega
 |n+1,0,a,k,_,_,_,_,hm=>jB
 |n+1,m+1,a,k,h0,hl,hk,hn,hm=>by
  have sh:=(ht.shape a.toNat hl).1;have hb:=(ht.shape a.toNat hl).2.1;have hk':bO (ai p a).kind:=hk;unfold bO at hk';have aw:∀x k,x∈(ai p a).l->bO (bs p.aa.nodes x)->aR p n x k=aR p m x k:=fun x k hx hxe=>by
   have:=hb x hx;exact BX ht n m x k this.1 jB hxe jB jB
  rw[lq,lq];have hcase:(ai p a).kind=1\/(ai p a).kind=2\/(ai p a).kind=3\/(ai p a).kind=4\/((ai p a).kind=5\/(ai p a).kind=6\/(ai p a).kind=7\/(ai p a).kind=8)\/(ai p a).kind=9:=jB
  rcases hcase with e|e|e|e|e|e
  ·rw[if_pos e,if_pos e]
  ·rw[jN,if_pos e,jN,if_pos e]
  ·rw[jN,jN,if_pos e,jN,jN,if_pos e]
  ·rw[jN,jN,jN,if_pos e,jN,jN,jN,if_pos e]
  ·obtain⟨x,hlx,hx⟩:=sh.one (by have e:(nth p.aa.nodes a.toNat).kind=5\/(nth p.aa.nodes a.toNat).kind=6\/(nth p.aa.nodes a.toNat).kind=7\/(nth p.aa.nodes a.toNat).kind=8:=e;omega)
   have hlx:(ai p a).l=[x]:=hlx;have hx0:nth (ai p a).l 0=x:=by rw[hlx];rfl
   have e1:=aw x k (by rw[hlx];simp) hx;rw[hx0,e1];rcases e with e|e|e|e<;>simp only[e,Int.reduceEq,↓reduceIte]
  ·obtain⟨x,y,hlx,hx,hy⟩:=sh.two (.inl e)
   have hlx:(ai p a).l=[x,y]:=hlx;have hx0:nth (ai p a).l 0=x:=by rw[hlx];rfl
   have hy0:nth (ai p a).l 1=y:=by rw[hlx];rfl
   have e1:=fun k=>aw x k (by rw[hlx];simp) hx
   have e2:=fun k=>aw y k (by rw[hlx];simp) hy
   rw[hx0,hy0];simp only[e,e1,e2,Int.reduceEq,↓reduceIte]
structure jb(p:ab):Prop where
 ok:dT p
 neg:∀k,k<p.aa.nodes.length->¬ie (nth p.aa.nodes k).kind->nth p.slots k<=0
 pos:∀k,k<p.aa.nodes.length->ie (nth p.aa.nodes k).kind->0<=nth p.slots k
def AW(p:ab)(n:Nat):Prop:=∀(a:Int) (L:List au),0<=a->a.toNat<p.aa.nodes.length->dM (bs p.aa.nodes a)->a.toNat<n->¬(1000000<L.length+3000*n)->aj prog 225 [.pt 0 0 0 0,rI a] (bK p L) (fun r l=>r=.bg []/\l=bK p (L++iM p n a L.length))
theorem mV{p:ab}{n:Nat}{a k:Int}(h:bO (bs p.aa.nodes a)):iM p n a k=aR p n a k:=by
 have h:bO (ai p a).kind:=h;unfold bO at h;rw[tG,jN,jN,jN]
theorem HQ{p:ab}(hp:jb p){n:Nat}(hx:AW p n)(a:Int)(L:List au)(h0:0<=a)(hl:a.toNat<p.aa.nodes.length)(hk:(ai p a).kind=9)(hn:a.toNat<n+1)(hL:¬(1000000<L.length+3000*(n+1))):aj prog 258 [.pt 0 0 0 0,.agg (er (ai p a))] (bK p L) (fun r l=>r=.bg []/\l=bK p (L++aR p (n+1) a L.length)):=by
 have ht:=hp.ok.ok.aa;have hb:=(ht.shape a.toNat hl).2.1;obtain⟨x,y,hlx,hxE,hyE⟩:=(ht.shape a.toNat hl).1.two (.inl hk);have hlx:(ai p a).l=[x,y]:=hlx;have hx0:nth (ai p a).l 0=x:=by rw[hlx];rfl
 have hy0:nth (ai p a).l 1=y:=by rw[hlx];rfl
 have bx:=hb x (by show x∈(ai p a).l;rw[hlx];simp);have by_:=hb y (by show y∈(ai p a).l;rw[hlx];simp);have hlen:=fun(z:Int) (k:Int) (lo:Nat)=>@lS p ht n z k lo
 obtain⟨lo,hch⟩:=(ht.shape a.toNat hl).2.2;have hch:aG p.aa.nodes lo (ai p a).l a.toNat:=hch;rw[hlx]at hch;obtain⟨c1,c2,c3,c4,c5,c6⟩:=gZ hch;obtain⟨d1,d2,d3,d4,d5⟩:=je c6;have lx:=fun k=>hlen x k lo c1 jB hxE c5
 have ly:=fun k=>hlen y k _ d1 jB hyE d5
 have hm:=ht.many;have ex:=hx x L bx.1 jB (.inl hxE) jB jB;rw[mV hxE]at ex;have ey:=fun(M:List au) (hM:M.length<=L.length+2900)=>hx y M by_.1 jB (.inl hyE) jB jB
 have hL:¬(997000<L.length):=jB
 clear hx;rename_i hL0;clear hL0;simp only[mV hyE]at ey;have e9:aR p (n+1) a L.length=(let x:=aR p n x L.length;if iQ (ai p a).name=7 then x++aR p n y (L.length+x.length)++[⟨7,0,0,(ai p a).name⟩]else let y:=aR p n y (L.length+x.length+1);x++[iI (iQ (ai p a).name) (L.length+x.length+1+y.length)]++y):=by
  rw[lq];simp only[hk,hx0,hy0,Int.reduceEq,↓reduceIte]
 rw[e9];clear e9;generalize hX:aR p n x (L.length:Int)=X at*;have lX:X.length<=1300:=by have:=lx L.length;rw[hX]at this;omega
 have pt:=fun op=>iD p (L++X) op 0 (by simp only[List.length_append];omega)
 have ey1:=ey (L++X) (by simp only[List.length_append];omega);generalize ai p a=nd at*;by_cases k1:nd.name=(⟨#[38,38]⟩:ByteArray)
 ·rw[k1]
  have hs:iQ (⟨#[38,38]⟩:ByteArray)=18:=by unfold iQ;rw[if_pos rfl]
  simp only[hs,Int.reduceEq,↓reduceIte];rw[show(L.length:Int)+X.length+1=((L++X++[iI 18 0]).length:Nat) by simp;omega];have ey2:=ey (L++X++[iI 18 0]) (by simp only[List.length_append,List.length_singleton];omega);generalize hY:aR p n y ((L++X++[iI 18 0]).length:Int)=Y at*;have lY:Y.length<=1300:=by have:=ly (L++X++[iI 18 0]).length;rw[hY]at this;omega
  have hh:=AD p (L++X++[iI 18 0]++Y) (L++X).length (by simp only[List.length_append,List.length_singleton];omega) (by simp only[List.length_append,List.length_singleton];omega);rw[show nth (L++X++[iI 18 0]++Y) (L++X).length=iI 18 0 by rw[List.append_assoc];simp[nth]]at hh;have e8:(L++X++[iI 18 0]++Y).set (L++X).length ⟨18,((L++X++[iI 18 0]++Y).length:Nat),0,sE⟩=L++(X++[iI 18 (((L++X++[iI 18 0]).length:Nat)+Y.length)]++Y):=by
   rw[List.append_assoc,List.set_append_right _ _ jl,Nat.sub_self];simp[iI];omega
  have e8:bK p ((L++X++[iI 18 0]++Y).set (L++X).length { iI 18 0 with a:=((L++X++[iI 18 0]++Y).length:Nat) })=bK p (L++(X++[iI 18 (((L++X++[iI 18 0]).length:Nat)+Y.length)]++Y)):=by rw[<-e8];rfl
  rw[e8,show(L++X).length=L.length+X.length from List.length_append]at hh;clear e8;have hpt:=pt 18;refine aU func258 ntmps258 ?_
  (refine S ?_;try exact jI)
  have d1:(((⟨#[124,124]⟩:ByteArray):ByteArray)=(⟨#[38,38]⟩:ByteArray))=False:=eq_false jC;have k1':(nd.name=(⟨#[38,38]⟩:ByteArray))=True:=eq_true k1
  (have W:=jA k1' (jA hlx (d1));repeat' (first|refine aA fun K hK=>?_|refine aC ?_|(refine hK _ _ ?_;clear hK K)|(refine aB ?_ ?_<;>intro hc<;>try exact jz)|refine cm (ex) ?_|refine sT 6 ?_|refine uw [] qC ?_|refine uw [(⟨#[38,38]⟩:ByteArray)] qC ?_|refine pg (n:=nd.name) (vs:=[rI 18,rI 19]) [(⟨#[38,38]⟩:ByteArray),(⟨#[124,124]⟩:ByteArray)] (.int .i64 0) (.bg [rI 18,rB true]) qC jG (by unfold od;rw[if_pos rfl];simp only[ph,k1,↓reduceIte]) ?_|refine cm (hpt) ?_|refine cm (ey2) ?_|refine cm (hh) ?_|refine az ?_|exact jI|(clear hK K)));all_goals(try clear W)
  (refine bH [] ?_;try simp only[go_sem])
 by_cases k2:nd.name=(⟨#[124,124]⟩:ByteArray)
 ·rw[k2]
  have hs:iQ (⟨#[124,124]⟩:ByteArray)=19:=by unfold iQ;rw[if_neg jC,if_pos rfl]
  simp only[hs,Int.reduceEq,↓reduceIte];rw[show(L.length:Int)+X.length+1=((L++X++[iI 19 0]).length:Nat) by simp;omega];have ey2:=ey (L++X++[iI 19 0]) (by simp only[List.length_append,List.length_singleton];omega);generalize hY:aR p n y ((L++X++[iI 19 0]).length:Int)=Y at*;have lY:Y.length<=1300:=by have:=ly (L++X++[iI 19 0]).length;rw[hY]at this;omega
  have hh:=AD p (L++X++[iI 19 0]++Y) (L++X).length (by simp only[List.length_append,List.length_singleton];omega) (by simp only[List.length_append,List.length_singleton];omega);rw[show nth (L++X++[iI 19 0]++Y) (L++X).length=iI 19 0 by rw[List.append_assoc];simp[nth]]at hh;have e8:(L++X++[iI 19 0]++Y).set (L++X).length ⟨19,((L++X++[iI 19 0]++Y).length:Nat),0,sE⟩=L++(X++[iI 19 (((L++X++[iI 19 0]).length:Nat)+Y.length)]++Y):=by
   rw[List.append_assoc,List.set_append_right _ _ jl,Nat.sub_self];simp[iI];omega
  have e8:bK p ((L++X++[iI 19 0]++Y).set (L++X).length { iI 19 0 with a:=((L++X++[iI 19 0]++Y).length:Nat) })=bK p (L++(X++[iI 19 (((L++X++[iI 19 0]).length:Nat)+Y.length)]++Y)):=by rw[<-e8];rfl
  rw[e8,show(L++X).length=L.length+X.length from List.length_append]at hh;clear e8;have hpt:=pt 19;refine aU func258 ntmps258 ?_
  (refine S ?_;try exact jI)
  have d1:(((⟨#[124,124]⟩:ByteArray):ByteArray)=(⟨#[38,38]⟩:ByteArray))=False:=eq_false jC;have k2':(nd.name=(⟨#[124,124]⟩:ByteArray))=True:=eq_true k2
  (have W:=jA k2' (jA hlx (d1));repeat' (first|refine aA fun K hK=>?_|refine aC ?_|(refine hK _ _ ?_;clear hK K)|(refine aB ?_ ?_<;>intro hc<;>try exact jz)|refine cm (ex) ?_|refine sT 6 ?_|refine uw [] qC ?_|refine uw [(⟨#[38,38]⟩:ByteArray)] qC ?_|refine pg (n:=nd.name) (vs:=[rI 18,rI 19]) [(⟨#[38,38]⟩:ByteArray),(⟨#[124,124]⟩:ByteArray)] (.int .i64 0) (.bg [rI 19,rB true]) qC jG (by unfold od;rw[if_pos rfl];simp only[ph,k2,d1,↓reduceIte]) ?_|refine cm (hpt) ?_|refine cm (ey2) ?_|refine cm (hh) ?_|refine az ?_|exact jI|(clear hK K)));all_goals(try clear W)
  (refine bH [] ?_;try simp only[go_sem])
 have n1:=eq_false k1;have n2:=eq_false k2;have hs:iQ nd.name=7:=by unfold iQ;rw[if_neg k1,if_neg k2]
 simp only[hs,↓reduceIte];rw[show(L.length:Int)+X.length=((L++X).length:Nat) from jE];generalize hY:aR p n y ((L++X).length:Int)=Y at*;have lY:Y.length<=1300:=by have:=ly (L++X).length;rw[hY]at this;omega
 simp only[<-List.append_assoc];refine aU func258 ntmps258 ?_
 (refine S ?_;try exact jI)
 have d1:(((⟨#[124,124]⟩:ByteArray):ByteArray)=(⟨#[38,38]⟩:ByteArray))=False:=eq_false jC
 (have W:=jA n1 (jA n2 (jA hlx (d1)));repeat' (first|refine aA fun K hK=>?_|refine aC ?_|(with_reducible refine gR 6 ?_);refine dE 6 [0,1,2,3,4,5,6,7,8,9,10,11,12] mixed ?_|(refine hK _ _ ?_;clear hK K)|(refine aB ?_ ?_<;>intro hc<;>try exact jz)|refine cm (ex) ?_|refine sT 6 ?_|refine uw [] qC ?_|refine uw [(⟨#[38,38]⟩:ByteArray)] qC ?_|refine pg (n:=nd.name) (vs:=[rI 18,rI 19]) [(⟨#[38,38]⟩:ByteArray),(⟨#[124,124]⟩:ByteArray)] (.int .i64 0) (.bg [rI 0,rB false]) qC jG (by unfold od;rw[if_pos rfl];simp only[ph,k1,k2,↓reduceIte]) ?_|refine cm (ey1) ?_|refine az ?_|exact jI|(clear hK K)));all_goals(try clear W)
 (refine bH [] ?_;try simp only[go_sem])
end Go.Proofs.YtfkgcobaheegbaaGreatDoor
