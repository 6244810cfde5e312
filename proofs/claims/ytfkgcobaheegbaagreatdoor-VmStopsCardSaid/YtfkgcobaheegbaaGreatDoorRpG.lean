/- Lemmas. No conditions. -/
import Derived.Test.YtfkgcobaheegbaaGreatDoorRpI
set_option linter.all false
set_option maxHeartbeats 4000000
set_option maxRecDepth 10000
namespace Go.Gd
open Go
namespace MV
structure Bd(n:Nat)(m:MV):Prop where
 deep:∀k,k+1<m.calls.length->(nth m.calls k).stack.length<=1000
 slots:∀k,k<m.calls.length->(nth m.calls k).slots.length<=24
 heap:ga m.heap<=40
 outs:m.ax.length<=24
 gK:0<=m.in_
 gw:m.in_<=n
variable {n:Nat}{m:MV}
theorem Bd.af(h:Bd n m)(h1:1<=m.calls.length):m.af.slots.length<=24:=h.slots (m.calls.length-1) jB
theorem Bd.aQ(h:Bd n m){c:MC}(hc:c.slots.length<=24):Bd n (m.aQ c):=by
 have hl:(m.aQ c).calls.length=m.calls.length:=bB _ _;have e:∀k,k<m.calls.length->nth (m.aQ c).calls k=if k=m.calls.length-1 then c else nth m.calls k:=fun k hk=>Go.Gd.bh _ _ _ _ jB
 refine⟨fun k hk=>?_,fun k hk=>?_,h.heap,h.outs,h.gK,h.gw⟩
 ·rw[hl]at hk;rw[e k jB,jN];exact h.deep k hk
 ·rw[hl]at hk;rw[e k hk];split
  ·exact hc
  ·exact h.slots k hk
theorem Bd.status(h:Bd n m)(s t:Int):Bd n { m with status:=s,aZ:=t }:=⟨h.deep,h.slots,h.heap,h.outs,h.gK,h.gw⟩
theorem Bd.push(h:Bd n m)(h1:1<=m.calls.length)(v:ak):Bd n (m.push v):=h.aQ (h.af h1)
theorem Bd.cut(h:Bd n m)(h1:1<=m.calls.length)(k:Nat):Bd n (m.cut k):=h.aQ (h.af h1)
theorem Bd.stops(h:Bd n m)(h1:1<=m.calls.length)(s t:Int):Bd n (m.stops s t):=(h.aQ (c:=m.af.back) (h.af h1)).status s t
theorem Bd.dX(h:Bd n m)(h1:1<=m.calls.length)(r:ak×Int):Bd n (m.dX r):=by
 unfold MV.dX;split
 ·exact h.stops h1 _ _
 ·exact h.push h1 _
theorem cd{α:Type}[Inhabited α]{l:List α}{n k:Nat}(h:k<n):nth (l.take n) k=nth l k:=by unfold nth;rw[List.getD_eq_getElem?_getD,List.getElem?_take,if_pos h,List.getD_eq_getElem?_getD]
theorem Bd.pop(h:Bd n m):Bd n m.pop:=by
 have hl:m.pop.calls.length=m.calls.length-1:=by show(m.calls.take _).length=_;rw[List.length_take];omega
 have e:∀k,k<m.calls.length-1->nth m.pop.calls k=nth m.calls k:=fun k hk=>cd hk
 refine⟨fun k hk=>?_,fun k hk=>?_,h.heap,h.outs,h.gK,h.gw⟩
 ·rw[hl]at hk;rw[e k jB];exact h.deep k jB
 ·rw[hl]at hk;rw[e k hk];exact h.slots k jB
theorem Bd.ends(h:Bd n m)(v:ak):Bd n (m.ends v):=by
 unfold MV.ends;split
 ·exact h.pop.status 2 m.pop.aZ
 ·rename_i h2;refine h.pop.push ?_ v;show 1<=(m.calls.take _).length;rw[List.length_take];omega
theorem Bd.cF{p:ab}{C:aE}(h:Bd n m)(h1:1<=m.calls.length)(hd:m.af.stack.length<=1000){fn:Int}{args:List ak}(s1:nth p.size fn.toNat<=24)(s2:(args.length:Int)<=nth p.size fn.toNat):Bd n (m.cF p C fn args):=by
 have hl:(m.cF p C fn args).calls.length=m.calls.length+1:=by show(m.calls++[_]).length=_;simp
 have e:∀k,k<m.calls.length->nth (m.cF p C fn args).calls k=nth m.calls k:=fun k hk=>my hk
 refine⟨fun k hk=>?_,fun k hk=>?_,h.heap,h.outs,h.gK,h.gw⟩
 ·rw[hl]at hk;rw[e k jB];by_cases hk2:k=m.calls.length-1
  ·subst hk2;exact hd
  ·exact h.deep k jB
 ·rw[hl]at hk;by_cases hk2:k<m.calls.length
  ·rw[e k hk2];exact h.slots k hk2
  ·have:k=m.calls.length:=jB;subst this;have:nth (m.cF p C fn args).calls m.calls.length=io p C fn args:=nM _ _;rw[this];show(args++List.replicate _ v0).length<=24;rw[List.length_append,List.length_replicate];omega
theorem Bd.ns(h:Bd n m){h':List (List Int)}(hc:ga h'<=40):Bd n { m with heap:=h' }:=⟨h.deep,h.slots,hc,h.outs,h.gK,h.gw⟩
end MV
namespace MV
variable (m:MV)(p:ab)(C:aE)(inp:List Int)(x:au)
theorem O1(h:x.op=2):m.ins p C inp x=m.push (vI x.a):=by unfold MV.ins;dsimp only;rw[if_pos h]
theorem Jw(h:x.op=3):m.ins p C inp x=m.push (vB (decide (x.a=1))):=by unfold MV.ins;dsimp only;rw[jN,if_pos h]
theorem Qa(h:x.op=4):m.ins p C inp x=m.push (vT x.s):=by unfold MV.ins;dsimp only;rw[jN,jN,if_pos h]
theorem K9(h:x.op=5):m.ins p C inp x=m.push (dp m.af.slots x.a x.b):=by unfold MV.ins;dsimp only;rw[jN,jN,jN,if_pos h]
theorem Dl(h:x.op=6):m.ins p C inp x=m.aQ { m.af.cut 1 with slots:=m.af.slots.set x.a.toNat m.af.last }:=by unfold MV.ins;dsimp only;rw[jN,jN,jN,jN,if_pos h]
theorem D8(h:x.op=7):m.ins p C inp x=(m.cut 2).dX (kN x.s (m.af.cut 1).last m.af.last):=by unfold MV.ins;dsimp only;rw[jN,jN,jN,jN,jN,if_pos h]
theorem Hu(h:x.op=8):m.ins p C inp x=(m.cut 1).push (kQ (⟨#[45]⟩:ByteArray) m.af.last):=by unfold MV.ins;dsimp only;rw[jN,jN,jN,jN,jN,jN,if_pos h]
theorem C6(h:x.op=9):m.ins p C inp x=(m.cut 1).push (kQ (⟨#[33]⟩:ByteArray) m.af.last):=by unfold MV.ins;dsimp only;rw[jN,jN,jN,jN,jN,jN,jN,if_pos h]
theorem Hq(h:x.op=10):m.ins p C inp x=(m.cut 1).push (vI (if m.af.last.ty=4 then((bq m.heap m.af.last.n).length:Int)else(m.af.last.s.size:Int))):=by unfold MV.ins;dsimp only;rw[jN,jN,jN,jN,jN,jN,jN,jN,if_pos h]
theorem Hj(h:x.op=11):m.ins p C inp x=if m.af.last.n<0\/((bq m.heap (dp m.af.slots x.a 4).n).length:Int)<=m.af.last.n then(m.cut 1).stops 3 2 else(m.cut 1).push (vI (nth (bq m.heap (dp m.af.slots x.a 4).n) m.af.last.n.toNat)):=by unfold MV.ins;dsimp only;rw[jN,jN,jN,jN,jN,jN,jN,jN,jN,if_pos h]
theorem ER(h:x.op=12):m.ins p C inp x=if(m.af.cut 1).last.n<0\/((bq m.heap (dp m.af.slots x.a 4).n).length:Int)<=(m.af.cut 1).last.n then(m.cut 2).stops 3 2 else{ m.cut 2 with heap:=m.heap.set ((dp m.af.slots x.a 4).n-1).toNat ((nth m.heap ((dp m.af.slots x.a 4).n-1).toNat).set (m.af.cut 1).last.n.toNat m.af.last.n) }:=by unfold MV.ins;dsimp only;rw[jN,jN,jN,jN,jN,jN,jN,jN,jN,jN,if_pos h]
theorem FX(h:x.op=13):m.ins p C inp x=if m.af.last.n<0\/16<m.af.last.n then(m.cut 1).stops 3 7 else if 40<ga m.heap+m.af.last.n+1 then(m.cut 1).stops 3 4 else{ (m.cut 1).push ⟨4,m.heap.length+1,sE⟩with heap:=m.heap++[List.replicate m.af.last.n.toNat 0] }:=by unfold MV.ins;dsimp only;rw[jN,jN,jN,jN,jN,jN,jN,jN,jN,jN,jN,if_pos h]
theorem HX(h:x.op=14):m.ins p C inp x=if(inp.length:Int)<=m.in_ then m.stops 1 0 else{ m.push (vI (nth inp m.in_.toNat))with in_:=m.in_+1 }:=by unfold MV.ins;dsimp only;rw[jN,jN,jN,jN,jN,jN,jN,jN,jN,jN,jN,jN,if_pos h]
theorem Dt(h:x.op=15):m.ins p C inp x=if 24<=m.ax.length then m.stops 3 5 else{ m.cut 1 with ax:=m.ax++[kn m.af.last] }:=by unfold MV.ins;dsimp only;rw[jN,jN,jN,jN,jN,jN,jN,jN,jN,jN,jN,jN,jN,if_pos h]
theorem PD(h:x.op=16):m.ins p C inp x=m.aQ (m.af.jump x.a):=by unfold MV.ins;dsimp only;rw[jN,jN,jN,jN,jN,jN,jN,jN,jN,jN,jN,jN,jN,jN,if_pos h]
theorem M5(h:x.op=17):m.ins p C inp x=if m.af.last.n=0 then m.aQ ((m.af.cut 1).jump x.a)else m.cut 1:=by unfold MV.ins;dsimp only;rw[jN,jN,jN,jN,jN,jN,jN,jN,jN,jN,jN,jN,jN,jN,jN,if_pos h]
theorem LW(h:x.op=18\/x.op=19):m.ins p C inp x=if(m.af.last.n=1<->x.op=19)then m.aQ (m.af.jump x.a)else m.cut 1:=by unfold MV.ins;dsimp only;rw[jN,jN,jN,jN,jN,jN,jN,jN,jN,jN,jN,jN,jN,jN,jN,jN,if_pos h]
theorem AJ(h:x.op=20):m.ins p C inp x=if 8<=m.calls.length then(m.cut x.b.toNat).stops 3 3 else(m.cut x.b.toNat).cF p C x.a (m.af.stack.drop (m.af.stack.length-x.b.toNat)):=by unfold MV.ins;dsimp only;rw[jN,jN,jN,jN,jN,jN,jN,jN,jN,jN,jN,jN,jN,jN,jN,jN,jN,if_pos h]
theorem GQ(h:x.op=21):m.ins p C inp x=(m.cut 1).ends m.af.last:=by unfold MV.ins;dsimp only;rw[jN,jN,jN,jN,jN,jN,jN,jN,jN,jN,jN,jN,jN,jN,jN,jN,jN,jN,if_pos h]
theorem Gm(h:x.op=22):m.ins p C inp x=m.ends (vZ x.a):=by unfold MV.ins;dsimp only;rw[jN,jN,jN,jN,jN,jN,jN,jN,jN,jN,jN,jN,jN,jN,jN,jN,jN,jN,jN,if_pos h]
theorem Dw(h:x.op=23):m.ins p C inp x=m.cut 1:=by unfold MV.ins;dsimp only;rw[jN,jN,jN,jN,jN,jN,jN,jN,jN,jN,jN,jN,jN,jN,jN,jN,jN,jN,jN,jN,if_pos h]
theorem Rl(h:x.op<2\/23<x.op):m.ins p C inp x=m:=by unfold MV.ins;dsimp only;rw[jN,jN,jN,jN,jN,jN,jN,jN,jN,jN,jN,jN,jN,jN,jN,jN,jN,jN,jN,jN,jN]
end MV
end Go.Gd
namespace Go.Proofs.YtfkgcobaheegbaaGreatDoor
open Go Go.Gd Tryz
theorem DC:∀h:List (List Int),h.foldl ll (0:Int)=(h.flatten.length:Int)
 |[]=>rfl
 |x::h=>by show h.foldl ll (ll 0 x)=_;rw[mW,DC h,List.flatten_cons,List.length_append];show(0:Int)+(x.length:Int)+_=_;omega
theorem vv(h:List (List Int)):ga h=h.length+h.flatten.length:=by unfold ga;rw[mW,DC]
end Go.Proofs.YtfkgcobaheegbaaGreatDoor
namespace Go.Proofs.YtfkgcobaheegbaaGreatDoor
open Go Go.Gd Tryz Go.Gd.MV
section
variable {p:ab}{C:aE}{m:MV}{N:NM}{e:List (Nat×Row)}(X:List Nat)
theorem ws(hR:bD p C m N e)(h1:1<=m.calls.length)(hb:1<=m.af.stack.length):∃N' l,(To p C (m.cut 1) N N' l/\N'.af.v=N.af.v)/\Up X e l/\du prog 175 [cP N] e (rV m.af.last) l/\∀C D,Cg ([hn 2 N.af.v,hn 16 N.af.c],C,D) e l:=by
 have ht:=hR.af h1;have hb2:=ht.bd;have hl:=hR.len;have e1:m.af.stack.take (m.af.stack.length-1)++[m.af.last]=m.af.stack:=by unfold MC.last;rw[dN jB,List.take_append_getElem,show m.af.stack.length-1+1=m.af.stack.length from jB,List.take_length]
 have hlt:(m.af.stack.take (m.af.stack.length-1)).length=m.af.stack.length-1:=by rw[List.length_take];omega
 have hc:=H4 m.af.fn m.af.at_ m.af.mark (m.af.stack.take (m.af.stack.length-1)) N.af.jk m.af.slots m.af.last (by rw[hlt];omega);rw[e1]at hc;have hb3:(m.af.cut 1).stack.length+(m.af.last::N.af.jk).length<=2000:=by show(m.af.stack.take (m.af.stack.length-1)).length+_<=_;rw[hlt,List.length_cons];omega
 obtain⟨⟨h2,h3⟩,h4,h5⟩:=hR.mX (X:=X) h1 (c':=m.af.cut 1) hb3 rfl rfl hc;refine⟨_,_,⟨⟨h2,rfl,h3⟩,by rw[Ef jB]⟩,h4,h5,fun C D j hj hje=>?_⟩;have hj2:j≠hn 2 N.af.v:=fun e'=>by subst e';simp at hj
 unfold kL;by_cases h0:j=hn 0 N.af.c
 ·right
  subst h0;refine⟨by rw[Kh];simp,137,_,.rs (hn 2 N.af.v) ((m.af.cut 1).stack.length+(m.af.last::N.af.jk).length) 3 (m.af.cut 1).stack.length,_,ht.var,?_⟩;rw[bM,if_neg (db jB jB jB),bM,if_neg (db jB jB jB),bM,if_pos rfl];rfl
 ·left
  rw[bM];by_cases h1':j=hn 1 N.af.c
  ·rw[if_pos h1'];subst h1';rw[ht.eP];rfl
  ·rw[if_neg h1',bM,if_neg hj2,bM,if_neg h0]
theorem OM(hR:bD p C m N e)(h1:1<=m.calls.length)(x:au)(hx:¬(x.op=7\/x.op=8\/x.op=9\/x.op=10)):du prog 127 [mP N,cP N,.agg (cZ x)] e (rB false) e:=by
 have hlo:=hR.ok.low;refine⟨?_,hR.ok,hR.ok,fun _ h=>h,gW hR h1 rfl⟩;refine aT (L:=ids e) func127 ntmps127 ?_ (hL:=rfl);generalize hB:ids e=B;refine fk ?_
 (have W:=hlo;repeat' (first|refine aB fun K hK=>?_|refine aC ?_|(refine hK _ _ ?_;clear hK K)|(refine aA ?_ ?_<;>intro hc<;>try exact jz)|refine fa 9 ?_|refine aD ?_|exact jI|(clear hK K)));all_goals(try clear W)
 exact fp hB hR.ok hR.ok (fun _=>rfl) (eO jC er) [.tmp 6]
theorem EN(h1:1<=m.calls.length)(a b:Nat)(hab:a+b<=m.af.stack.length):(m.cut a).cut b=m.cut (a+b):=by
 unfold MV.cut;rw[MV.cV,MV.aV h1];congr 1
 unfold MC.cut;simp only[List.length_take];rw[Nat.min_eq_left jB,List.take_take,Nat.min_eq_left jB];congr 1
 ·congr 1;omega
 ·omega
theorem DT(hb:1<=m.af.stack.length):m.af.last∈m.af.stack:=by unfold MC.last;rw[dN jB];exact List.getElem_mem _
theorem Nh(hb:2<=m.af.stack.length):(m.af.cut 1).last∈m.af.stack:=by unfold MC.last MC.cut;simp only[List.length_take];rw[Nat.min_eq_left jB,Go.Gd.MV.cd jB,dN jB];exact List.getElem_mem _
theorem PN(hR:bD p C m N e)(inp:List Int)(x:au)(hk:pz p C m x)(hx:x.op=7\/x.op=8\/x.op=9\/x.op=10):kv prog 127 [mP N,cP N,.agg (cZ x)] e X (rB true) (To p C (m.ins p C inp x) N):=by
 have h1:=hk.calls;have hlo:=hR.ok.low;have hdp:=hk.af;have hb1:1<=m.af.stack.length:=by
  by_cases h7:x.op=7
  ·have:=hk.two (.inl h7);omega
  ·exact hk.one jB
 obtain⟨N1,l1,⟨hT1,hv1⟩,hU1,hp1,hx1⟩:=ws X hR h1 hb1;have hc1:(m.cut 1).calls.length=m.calls.length:=MV.bB _ _;have ht1:(m.cut 1).af=m.af.cut 1:=MV.aV h1 _;have hs1:(m.cut 1).af.stack.length=m.af.stack.length-1:=by rw[ht1];show(m.af.stack.take _).length=_;rw[List.length_take];omega
 have hlo1:=hT1.1.ok.low;have eN1:cP N1=cP N:=by unfold cP;rw[hT1.2.2]
 have eM1:mP N1=mP N:=by unfold mP;rw[hT1.2.1]
 by_cases h7:x.op=7
 ·have h2:=hk.two (.inl h7);rw[D8 _ _ _ _ _ h7];obtain⟨N2,l2,⟨hT2,hv2⟩,hU2,hp2,hx2⟩:=ws X hT1.1 jB jB;rw[eN1,ht1]at hp2;rw[hv1,hT1.2.2]at hx2;have ecc:(m.cut 1).cut 1=m.cut 2:=EN h1 1 1 jB;rw[ecc]at hT2;have hlo2:=hT2.1.ok.low;have hc2:(m.cut 2).calls.length=m.calls.length:=MV.bB _ _;have hs2:(m.cut 2).af.stack.length<=1000:=by rw[show(m.cut 2).af=m.af.cut 2 from MV.aV h1 _];show(m.af.stack.take _).length<=_;rw[List.length_take];omega
  obtain⟨N',l,hT,hU,hp⟩:=xc X hT2.1 jB (kN x.s (m.af.cut 1).last m.af.last) hs2;rw[show mP N2=mP N by unfold mP;rw[hT2.2.1,hT1.2.1]]at hp;have hsz1:=hk.j6 _ (DT hb1);have hsz2:=hk.j6 _ (Nh h2);have hbn:=P5 x.s (m.af.cut 1).last m.af.last jB jB;refine⟨N',l,⟨hT.1,hT.2.1.trans (hT2.2.1.trans hT1.2.1),hT.2.2.trans (hT2.2.2.trans hT1.2.2)⟩,hU1.trans (hU2.trans hU),⟨?_,hR.ok,hp.e2,(hU1.trans (hU2.trans hU)).aY,gW hR h1 rfl⟩⟩;refine aT (L:=ids e) func127 ntmps127 ?_ (hL:=rfl);generalize hB:ids e=B;refine fk ?_
  (have W:=jA hlo (jA hlo1 (hlo2));repeat' (first|refine aB fun K hK=>?_|refine aC ?_|(with_reducible refine gR 5 ?_);refine qt 5 [hn 2 N.af.v,hn 16 N.af.c] [] [24] [] [0,1,2,3,4,5,7,6,8,9,10,11] mixed ?_|(refine hK _ _ ?_;clear hK K)|(refine aA ?_ ?_<;>intro hc<;>try exact jz)|refine fa 9 ?_|refine kj 10 ?_|refine cT hp1 ?_|refine pD hp2 (hx2 _ _) ?_|refine cp (hbn) ?_|refine cT hp ?_|refine aD ?_|exact jI|(clear hK K)));all_goals(try clear W)
  exact fp hB hR.ok hp.e2 (fun _=>rfl) (eO jC (eO jC er)) [.tmp 6]
 by_cases h10:x.op=10
 ·rw[Hq _ _ _ _ _ h10];have hsz1:=hk.j6 _ (DT hb1);have hcv:=hk.heap;rw[vv]at hcv;have hle:=QP hT1.1 m.af.last.n (by show m.heap.length<=1000;omega) (by show m.heap.flatten.length<=1000;omega);have hv3:=hT1.1.root;rw[hT1.2.1]at hv3 hle;by_cases hty:m.af.last.ty=4
  ·rw[if_pos hty];obtain⟨N',l,hT,hU,hp⟩:=sr X hT1.1 jB (vI (bq m.heap m.af.last.n).length) jB;rw[eN1]at hp;refine⟨N',l,⟨hT.1,hT.2.1.trans hT1.2.1,hT.2.2.trans hT1.2.2⟩,hU1.trans hU,⟨?_,hR.ok,hp.e2,(hU1.trans hU).aY,gW hR h1 rfl⟩⟩;refine aT (L:=ids e) func127 ntmps127 ?_ (hL:=rfl);generalize hB:ids e=B;refine fk ?_
   (have W:=jA hlo (jA hlo1 (jA hv3 (hT1.2.1)));repeat' (first|refine aB fun K hK=>?_|refine aC ?_|(with_reducible refine gR 14 ?_);refine dC 14 ([],[70],[]) [] [0,1,2,3,4,5,6,7] mixed ?_|(with_reducible refine gR 15 ?_);refine dE 15 [0,1,2,3,4,5] mixed ?_|(refine hK _ _ ?_;clear hK K)|(refine aA ?_ ?_<;>intro hc<;>try exact jz)|refine fa 9 ?_|refine kj 10 ?_|refine o8 hle ?_|refine cT hp1 ?_|refine cp (tu _) ?_|refine cT hp ?_|refine aD ?_|exact jI|(clear hK K)));all_goals(try clear W)
   exact fp hB hR.ok hp.e2 (fun _=>rfl) (eO jC (eO jC er)) [.tmp 6]
  ·rw[if_neg hty];obtain⟨N',l,hT,hU,hp⟩:=sr X hT1.1 jB (vI m.af.last.s.size) jB;rw[eN1]at hp;refine⟨N',l,⟨hT.1,hT.2.1.trans hT1.2.1,hT.2.2.trans hT1.2.2⟩,hU1.trans hU,⟨?_,hR.ok,hp.e2,(hU1.trans hU).aY,gW hR h1 rfl⟩⟩;refine aT (L:=ids e) func127 ntmps127 ?_ (hL:=rfl);generalize hB:ids e=B;refine fk ?_
   (have W:=jA hlo hlo1;repeat' (first|refine aB fun K hK=>?_|refine aC ?_|(with_reducible refine gR 15 ?_);refine dE 15 [0,1,2,3,4,5] mixed ?_|(refine hK _ _ ?_;clear hK K)|(refine aA ?_ ?_<;>intro hc<;>try exact jz)|refine fa 9 ?_|refine kj 10 ?_|refine cT hp1 ?_|refine cp (tu _) ?_|refine cT hp ?_|refine aD ?_|exact jI|(clear hK K)));all_goals(try clear W)
   exact fp hB hR.ok hp.e2 (fun _=>rfl) (eO jC (eO jC er)) [.tmp 6]
 have key:∀g:ByteArray,((x.op=8/\g=(⟨#[45]⟩:ByteArray))\/(x.op=9/\g=(⟨#[33]⟩:ByteArray)))->kv prog 127 [mP N,cP N,.agg (cZ x)] e X (rB true) (To p C ((m.cut 1).push (kQ g m.af.last)) N):=fun g hg=>by
  obtain⟨N',l,hT,hU,hp⟩:=sr X hT1.1 jB (kQ g m.af.last) jB;rw[eN1]at hp;refine⟨N',l,⟨hT.1,hT.2.1.trans hT1.2.1,hT.2.2.trans hT1.2.2⟩,hU1.trans hU,⟨?_,hR.ok,hp.e2,(hU1.trans hU).aY,gW hR h1 rfl⟩⟩;refine aT (L:=ids e) func127 ntmps127 ?_ (hL:=rfl);generalize hB:ids e=B;refine fk ?_;rcases hg with⟨h,rfl⟩|⟨h,rfl⟩
  all_goals
   (have W:=jA hlo hlo1;repeat' (first|refine aB fun K hK=>?_|refine aC ?_|(with_reducible refine gR 7 ?_);refine dE 7 [0,1,2,3,4,5,6,7,8] mixed ?_|(with_reducible refine gR 9 ?_);refine dE 9 [0,1,2,3,4,5,6,7,8] mixed ?_|(refine hK _ _ ?_;clear hK K)|(refine aA ?_ ?_<;>intro hc<;>try exact jz)|refine fa 9 ?_|refine cT hp1 ?_|refine cp (QK _ _) ?_|refine cT hp ?_|refine aD ?_|exact jI|(clear hK K)));all_goals(try clear W)
  all_goals exact fp hB hR.ok hp.e2 (fun _=>rfl) (eO jC er) [.tmp 6]
 by_cases h8:x.op=8
 ·rw[Hu _ _ _ _ _ h8];exact key _ (.inl ⟨h8,rfl⟩)
 ·have h9:x.op=9:=jB;rw[C6 _ _ _ _ _ h9];exact key _ (.inr ⟨h9,rfl⟩)
end
end Go.Proofs.YtfkgcobaheegbaaGreatDoor
