/- Lemmas. No conditions. -/
import Derived.Test.YtfkgcobaheegbaaGreatDoorVnE
set_option linter.all false
set_option maxHeartbeats 4000000
set_option maxRecDepth 10000
namespace Go.Gd
open Go
def km(h:List (List Int))(k:Nat):Nat:=(h.take k).flatten.length
def jh(h:List (List Int)):List Int:=(List.range h.length).map fun k=>((km h (k+1):Nat):Int)
theorem tq(h:List (List Int)):(jh h).length=h.length:=by simp[jh]
variable{h:List (List Int)}{k:Nat}
theorem vl(hk:k<h.length):km h (k+1)=km h k+(nth h k).length:=by unfold km;rw[List.take_succ,List.getElem?_eq_getElem hk,List.flatten_append,List.length_append,dN hk];simp
theorem wK(h:List (List Int))(k:Nat):km h k<=h.flatten.length:=by
 unfold km;have:h.flatten=(h.take k).flatten++(h.drop k).flatten:=by rw[<-List.flatten_append,List.take_append_drop]
 rw[this,List.length_append];omega
theorem G1(hk:k<h.length):nth (jh h) k=(km h (k+1):Nat):=by rw[dN (by rw[tq];exact hk)];simp[jh]
theorem IP{i:Nat}(hk:k<h.length)(hi:i<(nth h k).length):nth h.flatten (km h k+i)=nth (nth h k) i:=by
 have e:h.flatten=(h.take k).flatten++(nth h k++(h.drop (k+1)).flatten):=by rw[dN hk,<-List.flatten_cons,List.getElem_cons_drop,<-List.flatten_append,List.take_append_drop]
 rw[e];unfold km;unfold nth at hi ⊢;rw[List.getD_eq_getElem?_getD,List.getElem?_append_right jB,Nat.add_sub_cancel_left,List.getElem?_append_left hi,<-List.getD_eq_getElem?_getD]
theorem OH{i:Nat}(n:Int)(hk:k<h.length)(hi:i<(nth h k).length):(h.set k ((nth h k).set i n)).flatten=h.flatten.set (km h k+i) n:=by
 have e:h.flatten=(h.take k).flatten++(nth h k++(h.drop (k+1)).flatten):=by rw[dN hk,<-List.flatten_cons,List.getElem_cons_drop,<-List.flatten_append,List.take_append_drop]
 have e2:h.set k ((nth h k).set i n)=h.take k++((nth h k).set i n::h.drop (k+1)):=by rw[List.set_eq_take_append_cons_drop,if_pos hk]
 rw[e2,List.flatten_append,List.flatten_cons,e];unfold km;rw[List.set_append_right _ _ jB,Nat.add_sub_cancel_left,List.set_append_left _ _ hi]
theorem Jl(l:List Int)(hl:l.length=(nth h k).length)(hk:k<h.length):jh (h.set k l)=jh h:=by
 unfold jh;rw[List.length_set];apply List.map_congr_left;intro j _;congr 1
 unfold km;rw[List.take_set,List.length_flatten,List.length_flatten,List.map_set];congr 1
 apply List.ext_getElem jE;intro i h1 h2;rw[List.getElem_set];split
 ·rename_i e;subst e;rw[List.getElem_map,List.getElem_take,hl,dN hk]
 ·rfl
def gx(h:List (List Int)):List (Nat×Row):=[(2,.var 197 [.rs 3 h.flatten.length 1 h.flatten.length,.rs 4 h.length 1 h.length]),(3,.aL 3 1 (h.flatten.map eI)),(4,.aL 3 1 ((jh h).map eI))]
attribute [go_sem] gx
end Go.Gd
namespace Go.Proofs.YtfkgcobaheegbaaGreatDoor
open Go Go.Gd Tryz
theorem CG(h:List (List Int))(a:Int)(hl:h.length<=1000)(ha:a<1\/(h.length:Int)<a):aj prog 135 [.pt 2 0 0 0,rI a] (gx h) (fun r l=>r=.raw (.slice none 0 0)/\l=gx h):=by
 have hel:=tq h;by_cases h1:a<1
 ·refine aT func135 ntmps135 ?_
  (refine S ?_;try exact jI)
  (repeat' (first|refine aB fun K hK=>?_|refine aC ?_|(refine hK _ _ ?_;clear hK K)|(refine aA ?_ ?_<;>intro hc<;>try exact jz)|refine aD ?_|exact jI|(clear hK K)))
  (refine bW [.tmp 4] ?_ ?_<;>(try simp only[go_sem]))
 ·refine aT func135 ntmps135 ?_
  (refine S ?_;try exact jI)
  (repeat' (first|refine aB fun K hK=>?_|refine aC ?_|(refine hK _ _ ?_;clear hK K)|(refine aA ?_ ?_<;>intro hc<;>try exact jz)|refine aD ?_|exact jI|(clear hK K)))
  (refine bW [.tmp 4] ?_ ?_<;>(try simp only[go_sem]))
theorem wv(h:List (List Int))(k:Nat)(a:Int)(ha:a=(k:Int)+1)(hl:h.length<=1000)(hf:h.flatten.length<=1000)(hk:k<h.length):aj prog 135 [.pt 2 0 0 0,rI a] (gx h) (fun r l=>r=.rv 3 h.flatten.length 1 (km h k) (nth h k).length/\l=gx h):=by
 have hel:=tq h;have e1:nth (jh h) (a-1).toNat=(km h k+(nth h k).length:Nat):=by rw[show(a-1).toNat=k from jB,G1 hk,vl hk]
 have e2:=vl hk;have e3:=wK h (k+1);generalize (nth h k).length=c at*;by_cases h1:k=0
 ·have e0:km h k=0:=by subst h1;rfl
  rw[e0]at e1 e2;rw[e0];refine aT func135 ntmps135 ?_
  (refine S ?_;try exact jI)
  (have W:=jA hel e1;repeat' (first|refine aB fun K hK=>?_|refine aC ?_|(refine hK _ _ ?_;clear hK K)|(refine aA ?_ ?_<;>intro hc<;>try exact jz)|refine aD ?_|exact jI|(clear hK K)));all_goals(try clear W)
  (refine bW [.tmp 4] ?_ ?_<;>(try simp only[go_sem]))
  rw[Nat.sub_zero]
 ·have e4:nth (jh h) (a-2).toNat=(km h k:Nat):=by
   have e4:=G1 (h:=h) (k:=k-1) jB;rw[show k-1+1=k from jB]at e4;rw[show(a-2).toNat=k-1 from jB];exact e4
  generalize km h k=o at*;refine aT func135 ntmps135 ?_
  (refine S ?_;try exact jI)
  (have W:=jA hel (jA e1 (e4));repeat' (first|refine aB fun K hK=>?_|refine aC ?_|(refine hK _ _ ?_;clear hK K)|(refine aA ?_ ?_<;>intro hc<;>try exact jz)|refine aD ?_|exact jI|(clear hK K)));all_goals(try clear W)
  (refine bW [.tmp 4] ?_ ?_<;>(try simp only[go_sem]))
  rw[Nat.add_sub_cancel_left]
theorem J4(h:List (List Int))(a:Int)(hl:h.length<=1000)(hf:h.flatten.length<=1000):aj prog 179 [.pt 2 0 0 0,rI a] (gx h) (fun r l=>r=rI (MV.bq h a).length/\l=gx h):=by
 unfold MV.bq;by_cases e:a<1\/(h.length:Int)<a
 ·have hc1:=CG h a hl e;rw[if_pos e];refine aT func179 ntmps179 ?_
  (refine S ?_;try exact jI)
  (repeat' (first|refine aB fun K hK=>?_|refine aC ?_|(refine hK _ _ ?_;clear hK K)|(refine aA ?_ ?_<;>intro hc<;>try exact jz)|refine cm (hc1) ?_|refine aD ?_|exact jI|(clear hK K)))
  (refine bW [.tmp 4] ?_ ?_<;>(try simp only[go_sem]))
 ·have hc1:=wv h (a-1).toNat a jB hl hf jB;rw[if_neg e];refine aT func179 ntmps179 ?_
  (refine S ?_;try exact jI)
  (repeat' (first|refine aB fun K hK=>?_|refine aC ?_|(refine hK _ _ ?_;clear hK K)|(refine aA ?_ ?_<;>intro hc<;>try exact jz)|refine cm (hc1) ?_|refine aD ?_|exact jI|(clear hK K)))
  (refine bW [.tmp 4] ?_ ?_<;>(try simp only[go_sem]))
theorem Qh(h:List (List Int))(a i:Int)(hl:h.length<=1000)(hf:h.flatten.length<=1000):aj prog 180 [.pt 2 0 0 0,rI a,rI i] (gx h) (fun r l=>r=.bj [rI (if i<0\/((MV.bq h a).length:Int)<=i then 0 else nth (MV.bq h a) i.toNat),rI (if i<0\/((MV.bq h a).length:Int)<=i then 2 else 0)]/\l=gx h):=by
 by_cases e:a<1\/(h.length:Int)<a
 ·have hc1:=CG h a hl e;have e2:MV.bq h a=[]:=by unfold MV.bq;rw[if_pos e]
  have e3:i<0\/(([]:List Int).length:Int)<=i:=by simp only[List.length_nil];omega
  rw[e2,if_pos e3,if_pos e3];by_cases h0:i<0
  ·refine aT func180 ntmps180 ?_
   (refine S ?_;try exact jI)
   (repeat' (first|refine aB fun K hK=>?_|refine aC ?_|(refine hK _ _ ?_;clear hK K)|(refine aA ?_ ?_<;>intro hc<;>try exact jz)|refine cm (hc1) ?_|refine aD ?_|exact jI|(clear hK K)))
   (refine bW [.tmp 6,.tmp 7] ?_ ?_<;>(try simp only[go_sem]))
  ·refine aT func180 ntmps180 ?_
   (refine S ?_;try exact jI)
   (repeat' (first|refine aB fun K hK=>?_|refine aC ?_|(refine hK _ _ ?_;clear hK K)|(refine aA ?_ ?_<;>intro hc<;>try exact jz)|refine cm (hc1) ?_|refine aD ?_|exact jI|(clear hK K)))
   (refine bW [.tmp 6,.tmp 7] ?_ ?_<;>(try simp only[go_sem]))
 ·have hc1:=wv h (a-1).toNat a jB hl hf jB;have e2:MV.bq h a=nth h (a-1).toNat:=by unfold MV.bq;rw[if_neg e]
  rw[e2];have hk:(a-1).toNat<h.length:=jB;generalize (a-1).toNat=k at*;have hof:=vl hk;have hle:=wK h (k+1);by_cases e3:i<0\/((nth h k).length:Int)<=i
  ·rw[if_pos e3,if_pos e3];by_cases h0:i<0
   ·refine aT func180 ntmps180 ?_
    (refine S ?_;try exact jI)
    (repeat' (first|refine aB fun K hK=>?_|refine aC ?_|(refine hK _ _ ?_;clear hK K)|(refine aA ?_ ?_<;>intro hc<;>try exact jz)|refine cm (hc1) ?_|refine aD ?_|exact jI|(clear hK K)))
    (refine bW [.tmp 6,.tmp 7] ?_ ?_<;>(try simp only[go_sem]))
   ·refine aT func180 ntmps180 ?_
    (refine S ?_;try exact jI)
    (repeat' (first|refine aB fun K hK=>?_|refine aC ?_|(refine hK _ _ ?_;clear hK K)|(refine aA ?_ ?_<;>intro hc<;>try exact jz)|refine cm (hc1) ?_|refine aD ?_|exact jI|(clear hK K)))
    (refine bW [.tmp 6,.tmp 7] ?_ ?_<;>(try simp only[go_sem]))
  ·rw[if_neg e3,if_neg e3];have hn:=IP (i:=i.toNat) hk jB;refine aT func180 ntmps180 ?_
   (refine S ?_;try exact jI)
   (have W:=hn;repeat' (first|refine aB fun K hK=>?_|refine aC ?_|(refine hK _ _ ?_;clear hK K)|(refine aA ?_ ?_<;>intro hc<;>try exact jz)|refine cm (hc1) ?_|refine aD ?_|exact jI|(clear hK K)));all_goals(try clear W)
   (refine bW [.tmp 6,.tmp 7] ?_ ?_<;>(try simp only[go_sem]))
theorem Ls(h:List (List Int))(a i n:Int)(hl:h.length<=1000)(hf:h.flatten.length<=1000)(hi:¬(i<0\/((MV.bq h a).length:Int)<=i)):aj prog 181 [.pt 2 0 0 0,rI a,rI i,rI n] (gx h) (fun r l=>r=rI 0/\l=gx (h.set (a-1).toNat ((nth h (a-1).toNat).set i.toNat n))):=by
 have e:¬(a<1\/(h.length:Int)<a):=fun e=>hi (by unfold MV.bq;rw[if_pos e];simp only[List.length_nil];omega)
 have e2:MV.bq h a=nth h (a-1).toNat:=by unfold MV.bq;rw[if_neg e]
 rw[e2]at hi;have hc1:=wv h (a-1).toNat a jB hl hf jB;have hk:(a-1).toNat<h.length:=jB;generalize (a-1).toNat=k at*;have hof:=vl hk;have hle:=wK h (k+1);have hn:=OH n hk (i:=i.toNat) jB;have hes:=Jl (h:=h) (k:=k) ((nth h k).set i.toNat n) (by rw[List.length_set]) hk;have hfl:(h.flatten.set (km h k+i.toNat) n).length=h.flatten.length:=List.length_set;unfold gx;rw[hn,hes];simp only[List.length_set,List.map_set];refine aT func181 ntmps181 ?_
 (refine S ?_;try exact jI)
 (repeat' (first|refine aB fun K hK=>?_|refine aC ?_|(refine hK _ _ ?_;clear hK K)|(refine aA ?_ ?_<;>intro hc<;>try exact jz)|refine cm (hc1) ?_|refine aD ?_|exact jI|(clear hK K)))
 (refine bW [.tmp 8] ?_ ?_<;>(try simp only[go_sem]))
theorem Qd(h:List (List Int))(a i n:Int)(hl:h.length<=1000)(hf:h.flatten.length<=1000)(hi:i<0\/((MV.bq h a).length:Int)<=i):aj prog 181 [.pt 2 0 0 0,rI a,rI i,rI n] (gx h) (fun r l=>r=rI 2/\l=gx h):=by
 by_cases e:a<1\/(h.length:Int)<a
 ·have hc1:=CG h a hl e;by_cases h0:i<0
  ·refine aT func181 ntmps181 ?_
   (refine S ?_;try exact jI)
   (repeat' (first|refine aB fun K hK=>?_|refine aC ?_|(refine hK _ _ ?_;clear hK K)|(refine aA ?_ ?_<;>intro hc<;>try exact jz)|refine cm (hc1) ?_|refine aD ?_|exact jI|(clear hK K)))
   (refine bW [.tmp 8] ?_ ?_<;>(try simp only[go_sem]))
  ·refine aT func181 ntmps181 ?_
   (refine S ?_;try exact jI)
   (repeat' (first|refine aB fun K hK=>?_|refine aC ?_|(refine hK _ _ ?_;clear hK K)|(refine aA ?_ ?_<;>intro hc<;>try exact jz)|refine cm (hc1) ?_|refine aD ?_|exact jI|(clear hK K)))
   (refine bW [.tmp 8] ?_ ?_<;>(try simp only[go_sem]))
 ·have hc1:=wv h (a-1).toNat a jB hl hf jB;have e2:MV.bq h a=nth h (a-1).toNat:=by unfold MV.bq;rw[if_neg e]
  rw[e2]at hi;have hk:(a-1).toNat<h.length:=jB;generalize (a-1).toNat=k at*;have hof:=vl hk;have hle:=wK h (k+1);by_cases h0:i<0
  ·refine aT func181 ntmps181 ?_
   (refine S ?_;try exact jI)
   (repeat' (first|refine aB fun K hK=>?_|refine aC ?_|(refine hK _ _ ?_;clear hK K)|(refine aA ?_ ?_<;>intro hc<;>try exact jz)|refine cm (hc1) ?_|refine aD ?_|exact jI|(clear hK K)))
   (refine bW [.tmp 8] ?_ ?_<;>(try simp only[go_sem]))
  ·refine aT func181 ntmps181 ?_
   (refine S ?_;try exact jI)
   (repeat' (first|refine aB fun K hK=>?_|refine aC ?_|(refine hK _ _ ?_;clear hK K)|(refine aA ?_ ?_<;>intro hc<;>try exact jz)|refine cm (hc1) ?_|refine aD ?_|exact jI|(clear hK K)))
   (refine bW [.tmp 8] ?_ ?_<;>(try simp only[go_sem]))
end Go.Proofs.YtfkgcobaheegbaaGreatDoor
namespace Go.Gd
open Go
theorem NR(h:List (List Int))(k:Nat):(h++[List.replicate k 0]).flatten=h.flatten++List.replicate k 0:=jE
theorem NQ(h:List (List Int))(k:Nat):jh (h++[List.replicate k 0])=jh h++[((h.flatten.length+k:Nat):Int)]:=by
 unfold jh;rw[List.length_append,List.length_singleton,List.range_succ,List.map_append,List.map_singleton];congr 1
 ·apply List.map_congr_left;intro j hj;have hj:j<h.length:=List.mem_range.1 hj;congr 1
  unfold km;rw[List.take_append_of_le_length jB]
 ·congr 2
  unfold km;rw[List.take_of_length_le jE];simp
theorem LN(k:Nat):(List.replicate k (0:Int)).map eI=List.replicate k [AV.raw (.int .i64 0)]:=by simp[eI]
end Go.Gd
namespace Go.Proofs.YtfkgcobaheegbaaGreatDoor
open Go Go.Gd Tryz
theorem Kb(h:List (List Int))(n:Int)(hn:n<0\/16<n)(hl:h.length<=40)(hf:h.flatten.length<=40):aj prog 183 [.pt 2 0 0 0,rI n] (gx h) (fun r l=>r=.bj [rI 0,rI 7]/\l=gx h):=by
 have hel:=tq h;refine aT func183 ntmps183 ?_
 (refine S ?_;try exact jI)
 by_cases h0:n<0
 ·(repeat' (first|refine aB fun K hK=>?_|refine aC ?_|(refine hK _ _ ?_;clear hK K)|(refine aA ?_ ?_<;>intro hc<;>try exact jz)|refine aD ?_|exact jI|(clear hK K)))
  (refine bW [.tmp 4,.tmp 5] ?_ ?_<;>(try simp only[go_sem]))
 ·(repeat' (first|refine aB fun K hK=>?_|refine aC ?_|(refine hK _ _ ?_;clear hK K)|(refine aA ?_ ?_<;>intro hc<;>try exact jz)|refine aD ?_|exact jI|(clear hK K)))
  (refine bW [.tmp 4,.tmp 5] ?_ ?_<;>(try simp only[go_sem]))
theorem MJ(h:List (List Int))(n:Int)(hn:0<=n/\n<=16)(hc:40<(h.length:Int)+h.flatten.length+n+1)(hl:h.length<=40)(hf:h.flatten.length<=40):aj prog 183 [.pt 2 0 0 0,rI n] (gx h) (fun r l=>r=.bj [rI 0,rI 4]/\l=gx h):=by
 have hel:=tq h;refine aT func183 ntmps183 ?_
 (refine S ?_;try exact jI)
 (repeat' (first|refine aB fun K hK=>?_|refine aC ?_|(with_reducible refine gR 3 ?_);refine dE 3 [0,1,2,3,4,5,6,7,8,9,10,11,12,13,14,15] mixed ?_|(refine hK _ _ ?_;clear hK K)|(refine aA ?_ ?_<;>intro hc<;>try exact jz)|refine aD ?_|exact jI|(clear hK K)))
 (refine bW [.tmp 4,.tmp 5] ?_ ?_<;>(try simp only[go_sem]))
theorem QR(h:List (List Int))(k:Nat)(hn:k<=16)(hc:h.length+h.flatten.length+k+1<=40):aj prog 183 [.pt 2 0 0 0,rI k] (gx h) (fun r l=>r=.bj [rI (h.length+1:Nat),rI 0]/\l=gx (h++[List.replicate k 0])):=by
 have hel:=tq h;unfold gx;rw[NR,NQ,List.map_append,LN];refine aT func183 ntmps183 ?_
 (refine S ?_;try exact jI)
 (repeat' (first|refine aB fun K hK=>?_|refine aC ?_|(with_reducible refine gR 3 ?_);refine dE 3 [0,1,2,3,4,5,6,7,8,9,10,11,12,13,14,15] mixed ?_|(with_reducible refine gR 6 ?_);refine dE 6 [0,1,2,3,4,5,6,7,8,9,10,11,12,13,14] mixed ?_|(refine hK _ _ ?_;clear hK K)|(refine aA ?_ ?_<;>intro hc<;>try exact jz)|(refine QW (e:=3) (z0:=.int .i64 0) (css:=h.flatten.map eI) jG ⟨.i64,jG⟩ jG jG rfl (by simp only[go_sem];rfl) (by rw[List.length_map]) (by rw[List.length_map]) (by simp only[go_sem,room,List.length_map];omega) ?_;simp only[List.length_map];try refine S ?_)|refine aD ?_|exact jI|(clear hK K)))
 (refine bW [.tmp 4,.tmp 5] ?_ ?_<;>(try simp only[go_sem]))
 simp[eI]
end Go.Proofs.YtfkgcobaheegbaaGreatDoor
namespace Go.Gd
open Go
def iN(p:ab):List AV:=[bp fb 5 p.aa.nodes,bp gg 5 p.aa.ao,bp eI 1 p.types,bp eI 1 p.slots,bp eI 1 p.fn,bp eI 1 p.size]
theorem BM(p:ab):gp p=iN p:=rfl
def bO(p:ab)(L:List au):List (Nat×Row):=[(0,.var 194 (iN p++[.rs 1 L.length 4 L.length])),(1,.aL 139 4 (L.map cZ))]
attribute [go_sem] bO iN
end Go.Gd
namespace Go.Proofs.YtfkgcobaheegbaaGreatDoor
open Go Go.Gd Tryz
theorem n7(p:ab)(L:List au)(a:Int)(h0:0<=a)(h1:a.toNat<p.aa.nodes.length):aj prog 169 [.pt 0 0 0 0,rI a] (bO p L) (fun r l=>r=.agg (fb (ai p a))/\l=bO p L):=by
 unfold ai;refine aT func169 ntmps169 ?_
 (refine S ?_;try exact jI)
 (repeat' (first|refine aB fun K hK=>?_|refine aC ?_|(refine hK _ _ ?_;clear hK K)|(refine aA ?_ ?_<;>intro hc<;>try exact jz)|refine al 5 ?_|refine aD ?_|exact jI|(clear hK K)))
 (refine bH [.cell 4 53] ?_;try simp only[go_sem])
theorem iS(p:ab)(L:List au)(op a:Int)(hL:L.length<=1000000):aj prog 124 [.pt 0 0 0 0,rI op,rI a] (bO p L) (fun r l=>r=rI L.length/\l=bO p (L++[⟨op,a,0,sE⟩])):=by
 refine aT func124 ntmps124 ?_
 (refine S ?_;try exact jI)
 (repeat' (first|refine aB fun K hK=>?_|refine aC ?_|(refine hK _ _ ?_;clear hK K)|(refine aA ?_ ?_<;>intro hc<;>try exact jz)|refine aD ?_|exact jI|(clear hK K)))
 (refine bH [.tmp 6] ?_;try simp only[go_sem])
 rw[show((L.length+1:Nat):Int)-1=(L.length:Int) from jB]
theorem At(p:ab)(L:List au)(k:Nat)(hk:k<L.length)(hL:L.length<=1000000):aj prog 257 [.pt 0 0 0 0,rI k] (bO p L) (fun r l=>r=.bj []/\l=bO p (L.set k { nth L k with a:=L.length })):=by
 refine aT func257 ntmps257 ?_
 (refine S ?_;try exact jI)
 (repeat' (first|refine aB fun K hK=>?_|refine aC ?_|(with_reducible refine gR 0 ?_);refine dE 0 [0,1,2,3,4,5,6,7,8,9,10,11,12] mixed ?_|(refine hK _ _ ?_;clear hK K)|(refine aA ?_ ?_<;>intro hc<;>try exact jz)|refine aD ?_|exact jI|(clear hK K)))
 (refine bW [] ?_ ?_<;>(try simp only[go_sem]))
def yp(p:ab)(a:Int):List au:=if(ai p a).kind=1 then[iI 2 (ai p a).n]else if(ai p a).kind=2 then[iI 3 (ai p a).n]else if(ai p a).kind=3 then[⟨4,0,0,(ai p a).name⟩]else if(ai p a).kind=4 then[⟨5,nth p.slots a.toNat,nth p.types a.toNat,sE⟩]else if(ai p a).kind=19 then[iI 14 0]else[]
theorem IQ(p:ab)(L:List au)(a:Int)(h0:0<=a)(h2:a.toNat<p.slots.length)(h3:a.toNat<p.types.length)(hL:L.length<=1000000) :
  aj prog 260 [.pt 0 0 0 0,.agg (fb (ai p a)),rI a] (bO p L) (fun r l=>r=.bj []/\l=bO p (L++yp p a)):=by
 unfold yp;have hp1:=iS p L 2 (ai p a).n hL;have hp2:=iS p L 3 (ai p a).n hL;have hp3:=iS p L 14 0 hL;generalize ai p a=nd at*;by_cases k1:nd.kind=1
 ·rw[if_pos k1];refine aT func260 ntmps260 ?_
  (refine S ?_;try exact jI)
  (have W:=k1;repeat' (first|refine aB fun K hK=>?_|refine aC ?_|(refine hK _ _ ?_;clear hK K)|(refine aA ?_ ?_<;>intro hc<;>try exact jz)|refine bx 5 ?_|refine cm (hp1) ?_|refine aD ?_|exact jI|(clear hK K)));all_goals(try clear W)
  (refine bH [] ?_;try simp only[go_sem])
 rw[if_neg k1];have n1:=eq_false k1;by_cases k2:nd.kind=2
 ·rw[if_pos k2];refine aT func260 ntmps260 ?_
  (refine S ?_;try exact jI)
  (have W:=k2;repeat' (first|refine aB fun K hK=>?_|refine aC ?_|(refine hK _ _ ?_;clear hK K)|(refine aA ?_ ?_<;>intro hc<;>try exact jz)|refine bx 5 ?_|refine cm (hp2) ?_|refine aD ?_|exact jI|(clear hK K)));all_goals(try clear W)
  (refine bH [] ?_;try simp only[go_sem])
 rw[if_neg k2];have n2:=eq_false k2;by_cases k3:nd.kind=3
 ·rw[if_pos k3];refine aT func260 ntmps260 ?_
  (refine S ?_;try exact jI)
  (have W:=k3;repeat' (first|refine aB fun K hK=>?_|refine aC ?_|(with_reducible refine gR 7 ?_);refine dE 7 [0,1,2,3,4,5,6,7,8,9,10,11,12] mixed ?_|(refine hK _ _ ?_;clear hK K)|(refine aA ?_ ?_<;>intro hc<;>try exact jz)|refine bx 5 ?_|refine aD ?_|exact jI|(clear hK K)));all_goals(try clear W)
  (refine bH [] ?_;try simp only[go_sem])
 rw[if_neg k3];have n3:=eq_false k3;by_cases k4:nd.kind=4
 ·rw[if_pos k4];refine aT func260 ntmps260 ?_
  (refine S ?_;try exact jI)
  (have W:=k4;repeat' (first|refine aB fun K hK=>?_|refine aC ?_|(with_reducible refine gR 9 ?_);refine dE 9 [0,1,2,3,4,5,6,7,8,9,10,11,12,13,14,15,16,17,18,19,20,21,22,23,24,25,26] mixed ?_|(refine hK _ _ ?_;clear hK K)|(refine aA ?_ ?_<;>intro hc<;>try exact jz)|refine bx 5 ?_|refine aD ?_|exact jI|(clear hK K)));all_goals(try clear W)
  (refine bH [] ?_;try simp only[go_sem])
 rw[if_neg k4];have n4:=eq_false k4;by_cases k5:nd.kind=19
 ·rw[if_pos k5];refine aT func260 ntmps260 ?_
  (refine S ?_;try exact jI)
  (have W:=k5;repeat' (first|refine aB fun K hK=>?_|refine aC ?_|(refine hK _ _ ?_;clear hK K)|(refine aA ?_ ?_<;>intro hc<;>try exact jz)|refine bx 5 ?_|refine cm (hp3) ?_|refine aD ?_|exact jI|(clear hK K)));all_goals(try clear W)
  (refine bH [] ?_;try simp only[go_sem])
 rw[if_neg k5,List.append_nil];have n5:=eq_false k5;refine aT func260 ntmps260 ?_
 (refine S ?_;try exact jI)
 (have W:=jA n1 (jA n2 (jA n3 (jA n4 (n5))));repeat' (first|refine aB fun K hK=>?_|refine aC ?_|(refine hK _ _ ?_;clear hK K)|(refine aA ?_ ?_<;>intro hc<;>try exact jz)|refine bx 5 ?_|refine aD ?_|exact jI|(clear hK K)));all_goals(try clear W)
 (refine bH [] ?_;try simp only[go_sem])
attribute [local go_sem] iI
theorem A1{p:ab}(ht:aH p.aa):∀(n m:Nat) (a k:Int),0<=a->a.toNat<p.aa.nodes.length->bQ (bt p.aa.nodes a)->a.toNat<n->a.toNat<m->aR p n a k=aR p m a k
 |0,m,a,k,_,_,_,hn,_=>by omega
 |n+1,0,a,k,_,_,_,_,hm=>jB
 |n+1,m+1,a,k,h0,hl,hk,hn,hm=>by
  have sh:=(ht.shape a.toNat hl).1;have hb:=(ht.shape a.toNat hl).2.1;have hk':bQ (ai p a).kind:=hk;unfold bQ at hk';have ay:∀x k,x∈(ai p a).l->bQ (bt p.aa.nodes x)->aR p n x k=aR p m x k:=fun x k hx hxe=>by have:=hb x hx;exact A1 ht n m x k this.1 jB hxe jB jB
  rw[lQ,lQ];have hcase:(ai p a).kind=1\/(ai p a).kind=2\/(ai p a).kind=3\/(ai p a).kind=4\/((ai p a).kind=5\/(ai p a).kind=6\/(ai p a).kind=7\/(ai p a).kind=8)\/(ai p a).kind=9:=jB;rcases hcase with e|e|e|e|e|e
  ·rw[if_pos e,if_pos e]
  ·rw[jN,if_pos e,jN,if_pos e]
  ·rw[jN,jN,if_pos e,jN,jN,if_pos e]
  ·rw[jN,jN,jN,if_pos e,jN,jN,jN,if_pos e]
  ·obtain⟨x,hlx,hx⟩:=sh.one (by have e:(nth p.aa.nodes a.toNat).kind=5\/(nth p.aa.nodes a.toNat).kind=6\/(nth p.aa.nodes a.toNat).kind=7\/(nth p.aa.nodes a.toNat).kind=8:=e;omega);have hlx:(ai p a).l=[x]:=hlx;have hx0:nth (ai p a).l 0=x:=by rw[hlx];rfl
   have e1:=ay x k (by rw[hlx];simp) hx;rw[hx0,e1];rcases e with e|e|e|e<;>simp only[e,Int.reduceEq,↓reduceIte]
  ·obtain⟨x,y,hlx,hx,hy⟩:=sh.two (.inl e);have hlx:(ai p a).l=[x,y]:=hlx;have hx0:nth (ai p a).l 0=x:=by rw[hlx];rfl
   have hy0:nth (ai p a).l 1=y:=by rw[hlx];rfl
   have e1:=fun k=>ay x k (by rw[hlx];simp) hx
   have e2:=fun k=>ay y k (by rw[hlx];simp) hy
   rw[hx0,hy0];simp only[e,e1,e2,Int.reduceEq,↓reduceIte]
structure j4(p:ab):Prop where
 ok:dx p
 neg:∀k,k<p.aa.nodes.length->¬iA (nth p.aa.nodes k).kind->nth p.slots k<=0
 pos:∀k,k<p.aa.nodes.length->iA (nth p.aa.nodes k).kind->0<=nth p.slots k
def CE(p:ab)(n:Nat):Prop:=∀(a:Int) (L:List au),0<=a->a.toNat<p.aa.nodes.length->dW (bt p.aa.nodes a)->a.toNat<n->¬(1000000<L.length+3000*n)->aj prog 225 [.pt 0 0 0 0,rI a] (bO p L) (fun r l=>r=.bj []/\l=bO p (L++je p n a L.length))
theorem nk{p:ab}{n:Nat}{a k:Int}(h:bQ (bt p.aa.nodes a)):je p n a k=aR p n a k:=by have h:bQ (ai p a).kind:=h;unfold bQ at h;rw[sW,jN,jN,jN]
theorem Q4{p:ab}(hp:j4 p){n:Nat}(hx:CE p n)(a:Int)(L:List au)(h0:0<=a)(hl:a.toNat<p.aa.nodes.length)(hk:(ai p a).kind=9)(hn:a.toNat<n+1)(hL:¬(1000000<L.length+3000*(n+1))):aj prog 258 [.pt 0 0 0 0,.agg (fb (ai p a))] (bO p L) (fun r l=>r=.bj []/\l=bO p (L++aR p (n+1) a L.length)):=by
 have ht:=hp.ok.ok.aa;have hb:=(ht.shape a.toNat hl).2.1;obtain⟨x,y,hlx,hxE,hyE⟩:=(ht.shape a.toNat hl).1.two (.inl hk);have hlx:(ai p a).l=[x,y]:=hlx;have hx0:nth (ai p a).l 0=x:=by rw[hlx];rfl
 have hy0:nth (ai p a).l 1=y:=by rw[hlx];rfl
 have bx:=hb x (by show x∈(ai p a).l;rw[hlx];simp);have by_:=hb y (by show y∈(ai p a).l;rw[hlx];simp);have hlen:=fun(z:Int) (k:Int) (lo:Nat)=>@mh p ht n z k lo
 obtain⟨lo,hch⟩:=(ht.shape a.toNat hl).2.2;have hch:aG p.aa.nodes lo (ai p a).l a.toNat:=hch;rw[hlx]at hch;obtain⟨c1,c2,c3,c4,c5,c6⟩:=iz hch;obtain⟨d1,d2,d3,d4,d5⟩:=jT c6;have lx:=fun k=>hlen x k lo c1 jB hxE c5
 have ly:=fun k=>hlen y k _ d1 jB hyE d5
 have hm:=ht.many;have ex:=hx x L bx.1 jB (.inl hxE) jB jB;rw[nk hxE]at ex;have ey:=fun(M:List au) (hM:M.length<=L.length+2900)=>hx y M by_.1 jB (.inl hyE) jB jB
 have hL:¬(997000<L.length):=jB;clear hx;rename_i hL0;clear hL0;simp only[nk hyE]at ey;have e9:aR p (n+1) a L.length=(let x:=aR p n x L.length;if jt (ai p a).name=7 then x++aR p n y (L.length+x.length)++[⟨7,0,0,(ai p a).name⟩]else let y:=aR p n y (L.length+x.length+1);x++[iI (jt (ai p a).name) (L.length+x.length+1+y.length)]++y):=by rw[lQ];simp only[hk,hx0,hy0,Int.reduceEq,↓reduceIte]
 rw[e9];clear e9;generalize hX:aR p n x (L.length:Int)=X at*;have lX:X.length<=1300:=by have:=lx L.length;rw[hX]at this;omega
 have pt:=fun op=>iS p (L++X) op 0 (by simp only[List.length_append];omega)
 have ey1:=ey (L++X) (by simp only[List.length_append];omega);generalize ai p a=nd at*;by_cases k1:nd.name=(⟨#[38,38]⟩:ByteArray)
 ·rw[k1];have hs:jt (⟨#[38,38]⟩:ByteArray)=18:=by unfold jt;rw[if_pos rfl]
  simp only[hs,Int.reduceEq,↓reduceIte];rw[show(L.length:Int)+X.length+1=((L++X++[iI 18 0]).length:Nat) by simp;omega];have ey2:=ey (L++X++[iI 18 0]) (by simp only[List.length_append,List.length_singleton];omega);generalize hY:aR p n y ((L++X++[iI 18 0]).length:Int)=Y at*;have lY:Y.length<=1300:=by have:=ly (L++X++[iI 18 0]).length;rw[hY]at this;omega
  have hh:=At p (L++X++[iI 18 0]++Y) (L++X).length (by simp only[List.length_append,List.length_singleton];omega) (by simp only[List.length_append,List.length_singleton];omega);rw[show nth (L++X++[iI 18 0]++Y) (L++X).length=iI 18 0 by rw[List.append_assoc];simp[nth]]at hh;have e8:(L++X++[iI 18 0]++Y).set (L++X).length ⟨18,((L++X++[iI 18 0]++Y).length:Nat),0,sE⟩=L++(X++[iI 18 (((L++X++[iI 18 0]).length:Nat)+Y.length)]++Y):=by rw[List.append_assoc,List.set_append_right _ _ jl,Nat.sub_self];simp[iI];omega
  have e8:bO p ((L++X++[iI 18 0]++Y).set (L++X).length { iI 18 0 with a:=((L++X++[iI 18 0]++Y).length:Nat) })=bO p (L++(X++[iI 18 (((L++X++[iI 18 0]).length:Nat)+Y.length)]++Y)):=by rw[<-e8];rfl
  rw[e8,show(L++X).length=L.length+X.length from List.length_append]at hh;clear e8;have hpt:=pt 18;refine aT func258 ntmps258 ?_
  (refine S ?_;try exact jI)
  have d1:(((⟨#[124,124]⟩:ByteArray):ByteArray)=(⟨#[38,38]⟩:ByteArray))=False:=eq_false jC;have k1':(nd.name=(⟨#[38,38]⟩:ByteArray))=True:=eq_true k1
  (have W:=jA k1' (jA hlx (d1));repeat' (first|refine aB fun K hK=>?_|refine aC ?_|(refine hK _ _ ?_;clear hK K)|(refine aA ?_ ?_<;>intro hc<;>try exact jz)|refine cm (ex) ?_|refine uh 6 ?_|refine uX [] qv ?_|refine uX [(⟨#[38,38]⟩:ByteArray)] qv ?_|refine pg (n:=nd.name) (vs:=[rI 18,rI 19]) [(⟨#[38,38]⟩:ByteArray),(⟨#[124,124]⟩:ByteArray)] (.int .i64 0) (.bj [rI 18,rB true]) qv jG (by unfold oC;rw[if_pos rfl];simp only[pr,k1,↓reduceIte]) ?_|refine cm (hpt) ?_|refine cm (ey2) ?_|refine cm (hh) ?_|refine aD ?_|exact jI|(clear hK K)));all_goals(try clear W)
  (refine bH [] ?_;try simp only[go_sem])
 by_cases k2:nd.name=(⟨#[124,124]⟩:ByteArray)
 ·rw[k2];have hs:jt (⟨#[124,124]⟩:ByteArray)=19:=by unfold jt;rw[if_neg jC,if_pos rfl]
  simp only[hs,Int.reduceEq,↓reduceIte];rw[show(L.length:Int)+X.length+1=((L++X++[iI 19 0]).length:Nat) by simp;omega];have ey2:=ey (L++X++[iI 19 0]) (by simp only[List.length_append,List.length_singleton];omega);generalize hY:aR p n y ((L++X++[iI 19 0]).length:Int)=Y at*;have lY:Y.length<=1300:=by have:=ly (L++X++[iI 19 0]).length;rw[hY]at this;omega
  have hh:=At p (L++X++[iI 19 0]++Y) (L++X).length (by simp only[List.length_append,List.length_singleton];omega) (by simp only[List.length_append,List.length_singleton];omega);rw[show nth (L++X++[iI 19 0]++Y) (L++X).length=iI 19 0 by rw[List.append_assoc];simp[nth]]at hh;have e8:(L++X++[iI 19 0]++Y).set (L++X).length ⟨19,((L++X++[iI 19 0]++Y).length:Nat),0,sE⟩=L++(X++[iI 19 (((L++X++[iI 19 0]).length:Nat)+Y.length)]++Y):=by rw[List.append_assoc,List.set_append_right _ _ jl,Nat.sub_self];simp[iI];omega
  have e8:bO p ((L++X++[iI 19 0]++Y).set (L++X).length { iI 19 0 with a:=((L++X++[iI 19 0]++Y).length:Nat) })=bO p (L++(X++[iI 19 (((L++X++[iI 19 0]).length:Nat)+Y.length)]++Y)):=by rw[<-e8];rfl
  rw[e8,show(L++X).length=L.length+X.length from List.length_append]at hh;clear e8;have hpt:=pt 19;refine aT func258 ntmps258 ?_
  (refine S ?_;try exact jI)
  have d1:(((⟨#[124,124]⟩:ByteArray):ByteArray)=(⟨#[38,38]⟩:ByteArray))=False:=eq_false jC;have k2':(nd.name=(⟨#[124,124]⟩:ByteArray))=True:=eq_true k2
  (have W:=jA k2' (jA hlx (d1));repeat' (first|refine aB fun K hK=>?_|refine aC ?_|(refine hK _ _ ?_;clear hK K)|(refine aA ?_ ?_<;>intro hc<;>try exact jz)|refine cm (ex) ?_|refine uh 6 ?_|refine uX [] qv ?_|refine uX [(⟨#[38,38]⟩:ByteArray)] qv ?_|refine pg (n:=nd.name) (vs:=[rI 18,rI 19]) [(⟨#[38,38]⟩:ByteArray),(⟨#[124,124]⟩:ByteArray)] (.int .i64 0) (.bj [rI 19,rB true]) qv jG (by unfold oC;rw[if_pos rfl];simp only[pr,k2,d1,↓reduceIte]) ?_|refine cm (hpt) ?_|refine cm (ey2) ?_|refine cm (hh) ?_|refine aD ?_|exact jI|(clear hK K)));all_goals(try clear W)
  (refine bH [] ?_;try simp only[go_sem])
 have n1:=eq_false k1;have n2:=eq_false k2;have hs:jt nd.name=7:=by unfold jt;rw[if_neg k1,if_neg k2]
 simp only[hs,↓reduceIte];rw[show(L.length:Int)+X.length=((L++X).length:Nat) from jE];generalize hY:aR p n y ((L++X).length:Int)=Y at*;have lY:Y.length<=1300:=by have:=ly (L++X).length;rw[hY]at this;omega
 simp only[<-List.append_assoc];refine aT func258 ntmps258 ?_
 (refine S ?_;try exact jI)
 have d1:(((⟨#[124,124]⟩:ByteArray):ByteArray)=(⟨#[38,38]⟩:ByteArray))=False:=eq_false jC
 (have W:=jA n1 (jA n2 (jA hlx (d1)));repeat' (first|refine aB fun K hK=>?_|refine aC ?_|(with_reducible refine gR 6 ?_);refine dE 6 [0,1,2,3,4,5,6,7,8,9,10,11,12] mixed ?_|(refine hK _ _ ?_;clear hK K)|(refine aA ?_ ?_<;>intro hc<;>try exact jz)|refine cm (ex) ?_|refine uh 6 ?_|refine uX [] qv ?_|refine uX [(⟨#[38,38]⟩:ByteArray)] qv ?_|refine pg (n:=nd.name) (vs:=[rI 18,rI 19]) [(⟨#[38,38]⟩:ByteArray),(⟨#[124,124]⟩:ByteArray)] (.int .i64 0) (.bj [rI 0,rB false]) qv jG (by unfold oC;rw[if_pos rfl];simp only[pr,k1,k2,↓reduceIte]) ?_|refine cm (ey1) ?_|refine aD ?_|exact jI|(clear hK K)));all_goals(try clear W)
 (refine bH [] ?_;try simp only[go_sem])
end Go.Proofs.YtfkgcobaheegbaaGreatDoor
