/- Lemmas. No conditions. -/
import Derived.Test.YtfkgcobaheegbaaGreatDoorRpG
import Derived.Test.YtfkgcobaheegbaaGreatDoorSo6
set_option linter.all false
set_option maxHeartbeats 4000000
set_option maxRecDepth 10000
namespace Go.Gd
open Go
namespace MV
variable {p:ab}{C:aE}{m:MV}{N:NM}{e:List (Nat×Row)}
theorem bD.wX(hR:bD p C m N e)(h1:1<=m.calls.length)(l:List ak)(hl:l.length=m.af.slots.length):bD p C (m.aQ { m.af with slots:=l }) N (br e (hn 1 N.af.c) (.aL 59 3 (l.map cv))):=by
 have ht:=hR.af h1;have hlen:=hR.len;have h:=hR.aQ (e':=br e (hn 1 N.af.c) (.aL 59 3 (l.map cv))) h1 (c':={ m.af with slots:=l }) (n':=N.af) rfl ?_ ⟨?_,?_,?_,ht.bd⟩ (.inl rfl) fun j hj n0 n1 n2=>by rw[bM,if_neg n1]
 ·rw[Hr jB]at h;exact h
 ·exact hR.ok.put (.inr (iw _ _)) (fh (q:=dY) (fun _ h=>by cases h) _ (o3 (lJ (enc:=cv) (sz:=3) _)))
 ·rw[bM,if_neg (db jB jB jB),ht.var];unfold MV.cE;rw[<-hl]
 ·rw[bM,if_neg (db jB jB jB)];exact ht.cw
 ·rw[bM,if_pos rfl]
end MV
end Go.Gd
namespace Go.Proofs.YtfkgcobaheegbaaGreatDoor
open Go Go.Gd Tryz Go.Gd.MV
section
variable {p:ab}{C:aE}{m:MV}{N:NM}{e:List (Nat×Row)}(X:List Nat)
theorem Lz(hR:bD p C m N e)(h1:1<=m.calls.length)(x:au)(hx:¬(x.op=6\/x.op=23\/x.op=11\/x.op=12\/x.op=13)):du prog 128 [mP N,cP N,.agg (cZ x)] e (rB false) e:=by
 have hlo:=hR.ok.low;refine⟨?_,hR.ok,hR.ok,fun _ h=>h,gW hR h1 rfl⟩;refine aT (L:=ids e) func128 ntmps128 ?_ (hL:=rfl);generalize hB:ids e=B;refine fk ?_
 (have W:=hlo;repeat' (first|refine aB fun K hK=>?_|refine aC ?_|(refine hK _ _ ?_;clear hK K)|(refine aA ?_ ?_<;>intro hc<;>try exact jz)|refine fa 9 ?_|refine aD ?_|exact jI|(clear hK K)));all_goals(try clear W)
 exact fp hB hR.ok hR.ok (fun _=>rfl) (eO jC er) [.tmp 6]
theorem JH(hR:bD p C m N e)(inp:List Int)(x:au)(hk:pz p C m x)(hx:x.op=6\/x.op=23\/x.op=11\/x.op=12\/x.op=13):kv prog 128 [mP N,cP N,.agg (cZ x)] e X (rB true) (To p C (m.ins p C inp x) N):=by
 have h1:=hk.calls;have hlo:=hR.ok.low;have hdp:=hk.af;have hT:=hR.af h1;have hb1:1<=m.af.stack.length:=by
  by_cases h12:x.op=12
  ·have:=hk.two (.inr h12);omega
  ·exact hk.one jB
 obtain⟨N1,l1,⟨hT1,hv1⟩,hU1,hp1,hx1⟩:=ws X hR h1 hb1;have hc1:(m.cut 1).calls.length=m.calls.length:=MV.bB _ _;have ht1:(m.cut 1).af=m.af.cut 1:=MV.aV h1 _;have hs1:(m.cut 1).af.stack.length=m.af.stack.length-1:=by rw[ht1];show(m.af.stack.take _).length=_;rw[List.length_take];omega
 have hlo1:=hT1.1.ok.low;have eN1:cP N1=cP N:=by unfold cP;rw[hT1.2.2]
 have eM1:mP N1=mP N:=by unfold mP;rw[hT1.2.1]
 have hcv:=hk.heap;rw[vv]at hcv;have hv3:=hT1.1.root;rw[hT1.2.1]at hv3;by_cases h23:x.op=23
 ·rw[Dw _ _ _ _ _ h23];refine⟨N1,l1,hT1,hU1,⟨?_,hR.ok,hp1.e2,hU1.aY,gW hR h1 rfl⟩⟩;refine aT (L:=ids e) func128 ntmps128 ?_ (hL:=rfl);generalize hB:ids e=B;refine fk ?_
  (have W:=jA hlo hlo1;repeat' (first|refine aB fun K hK=>?_|refine aC ?_|(refine hK _ _ ?_;clear hK K)|(refine aA ?_ ?_<;>intro hc<;>try exact jz)|refine fa 9 ?_|refine cT hp1 ?_|refine aD ?_|exact jI|(clear hK K)));all_goals(try clear W)
  exact fp hB hR.ok hp1.e2 (fun _=>rfl) (eO jC er) [.tmp 6]
 by_cases h6:x.op=6
 ·rw[Dl _ _ _ _ _ h6];have hsl:=hk.slot jB;have hss:=hk.slots;have hR2:=hT1.1.wX jB (m.af.slots.set x.a.toNat m.af.last) (by rw[List.length_set,ht1];rfl);have em:(m.cut 1).aQ { (m.cut 1).af with slots:=m.af.slots.set x.a.toNat m.af.last }=m.aQ { m.af.cut 1 with slots:=m.af.slots.set x.a.toNat m.af.last }:=by
   rw[ht1];unfold MV.cut;rw[MV.cV]
  rw[em]at hR2;have hsl1:=(hT1.1.af jB).eP;rw[hT1.2.2,ht1]at hsl1;have hsl1:av l1 (hn 1 N.af.c)=some (.aL 59 3 (m.af.slots.map cv)):=hsl1;rw[hT1.2.2]at hR2;have hU2:Up X l1 (br l1 (hn 1 N.af.c) (.aL 59 3 ((m.af.slots.set x.a.toNat m.af.last).map cv))):=Up.put _ (.inl (by rw[hsl1];simp));refine⟨N1,_,⟨hR2,hT1.2.1,hT1.2.2⟩,hU1.trans hU2,⟨?_,hR.ok,hR2.ok,(hU1.trans hU2).aY,gW hR h1 rfl⟩⟩;have k2:=hR2.ok;clear hR2 hU2 hU1 em;generalize hE:br l1 (hn 1 N.af.c) (.aL 59 3 ((m.af.slots.set x.a.toNat m.af.last).map cv))=E at k2 ⊢;refine aT (L:=ids e) func128 ntmps128 ?_ (hL:=rfl);generalize hB:ids e=B;refine fk ?_
  (have W:=jA hlo (jA hlo1 (jA hT.var (hsl1)));repeat' (first|refine aB fun K hK=>?_|refine aC ?_|(with_reducible refine gR 4 ?_);refine qt 4 [hn 2 N.af.v,hn 16 N.af.c] [] [26,1000000] [] [0,1,2,3,4,5,6,7,8,9,10,11] mixed ?_|(refine hK _ _ ?_;clear hK K)|(refine aA ?_ ?_<;>intro hc<;>try exact jz)|refine fa 9 ?_|refine pD hp1 (hx1 _ _) ?_|refine aD ?_|exact jI|(clear hK K)));all_goals(try clear W)
  subst hE;refine fp (tl:=[(9,.var 139 (cZ x))]) hB hR.ok k2 (fun i=>?_) (eO jC er) [.tmp 6];rw[List.map_set];rfl
 by_cases h11:x.op=11
 ·rw[Hj _ _ _ _ _ h11];have hsl:=hk.slot jB;have hld:=Cr hR h1 x.a 4 hsl (by have:=hk.slots;omega);have hgt:=JN hT1.1 (dp m.af.slots x.a 4).n m.af.last.n (by show m.heap.length<=1000;omega) (by show m.heap.flatten.length<=1000;omega);rw[hT1.2.1]at hgt;have hgt:du prog 180 [.pt (hn 5 N.k) 0 0 0,rI (dp m.af.slots x.a 4).n,rI m.af.last.n] l1 (.bj [rI (if m.af.last.n<0\/((bq m.heap (dp m.af.slots x.a 4).n).length:Int)<=m.af.last.n then 0 else nth (bq m.heap (dp m.af.slots x.a 4).n) m.af.last.n.toNat),rI (if m.af.last.n<0\/((bq m.heap (dp m.af.slots x.a 4).n).length:Int)<=m.af.last.n then 2 else 0)]) l1:=hgt;have eg:(if m.af.last.n<0\/((bq m.heap (dp m.af.slots x.a 4).n).length:Int)<=m.af.last.n then(m.cut 1).stops 3 2 else(m.cut 1).push (vI (nth (bq m.heap (dp m.af.slots x.a 4).n) m.af.last.n.toNat)))=(m.cut 1).dX (vI (if m.af.last.n<0\/((bq m.heap (dp m.af.slots x.a 4).n).length:Int)<=m.af.last.n then 0 else nth (bq m.heap (dp m.af.slots x.a 4).n) m.af.last.n.toNat),if m.af.last.n<0\/((bq m.heap (dp m.af.slots x.a 4).n).length:Int)<=m.af.last.n then 2 else 0):=by
   unfold MV.dX;split
   ·rename_i h;simp only[if_pos h];rfl
   ·rename_i h;simp only[if_neg h];rfl
  rw[eg];generalize (if m.af.last.n<0\/((bq m.heap (dp m.af.slots x.a 4).n).length:Int)<=m.af.last.n then(0:Int)else nth (bq m.heap (dp m.af.slots x.a 4).n) m.af.last.n.toNat)=gn at hgt ⊢;generalize (if m.af.last.n<0\/((bq m.heap (dp m.af.slots x.a 4).n).length:Int)<=m.af.last.n then(2:Int)else 0)=gt at hgt ⊢;obtain⟨N',l,hT2,hU,hp⟩:=xc X hT1.1 jB (vI gn,gt) jB;rw[eM1]at hp;refine⟨N',l,⟨hT2.1,hT2.2.1.trans hT1.2.1,hT2.2.2.trans hT1.2.2⟩,hU1.trans hU,⟨?_,hR.ok,hp.e2,(hU1.trans hU).aY,gW hR h1 rfl⟩⟩;refine aT (L:=ids e) func128 ntmps128 ?_ (hL:=rfl);generalize hB:ids e=B;refine fk ?_
  (have W:=jA hlo (jA hlo1 (hR.root));repeat' (first|refine aB fun K hK=>?_|refine aC ?_|(with_reducible refine gR 8 ?_);refine qt 8 [hn 2 N.af.v,hn 16 N.af.c] [44,51] [49] [] [0,1,2,3,4,5,6,7,8,9,10,11,12,13,14,15,16,17,18,19] mixed ?_|(refine hK _ _ ?_;clear hK K)|(refine aA ?_ ?_<;>intro hc<;>try exact jz)|refine fa 9 ?_|refine o8 hld ?_|refine pD hp1 (hx1 _ _) ?_|refine o8 hgt ?_|refine cp (tu _) ?_|refine cT hp ?_|refine aD ?_|exact jI|(clear hK K)));all_goals(try clear W)
  exact fp hB hR.ok hp.e2 (fun _=>rfl) (eO jC er) [.tmp 6]
 by_cases h13:x.op=13
 ·rw[FX _ _ _ _ _ h13];by_cases c1:m.af.last.n<0\/16<m.af.last.n
  ·rw[if_pos c1];have hmk:=LF hT1.1 m.af.last.n c1 (by show m.heap.length<=40;omega) (by show m.heap.flatten.length<=40;omega);rw[hT1.2.1]at hmk;obtain⟨N',l,hT2,hU,hp⟩:=xc X hT1.1 jB (⟨4,0,sE⟩,7) jB;rw[eM1]at hp;refine⟨N',l,⟨hT2.1,hT2.2.1.trans hT1.2.1,hT2.2.2.trans hT1.2.2⟩,hU1.trans hU,⟨?_,hR.ok,hp.e2,(hU1.trans hU).aY,gW hR h1 rfl⟩⟩;refine aT (L:=ids e) func128 ntmps128 ?_ (hL:=rfl);generalize hB:ids e=B;refine fk ?_
   (have W:=jA hlo (jA hlo1 (hR.root));repeat' (first|refine aB fun K hK=>?_|refine aC ?_|(with_reducible refine gR 16 ?_);refine qt 16 [hn 2 N.af.v,hn 16 N.af.c] [] [97] [] [0,1,2,3,4,5,6,7,8,9,10,11,12,13,14] mixed ?_|(refine hK _ _ ?_;clear hK K)|(refine aA ?_ ?_<;>intro hc<;>try exact jz)|refine fa 9 ?_|refine pD hp1 (hx1 _ _) ?_|refine cT hmk ?_|refine cT hp ?_|refine aD ?_|exact jI|(clear hK K)));all_goals(try clear W)
   exact fp hB hR.ok hp.e2 (fun _=>rfl) (eO jC er) [.tmp 6]
  rw[if_neg c1];by_cases c2:40<ga m.heap+m.af.last.n+1
  ·rw[if_pos c2];have hmk:=Nf hT1.1 m.af.last.n jB (by show 40<(m.heap.length:Int)+m.heap.flatten.length+m.af.last.n+1;rw[vv]at c2;omega) (by show m.heap.length<=40;omega) (by show m.heap.flatten.length<=40;omega);rw[hT1.2.1]at hmk;obtain⟨N',l,hT2,hU,hp⟩:=xc X hT1.1 jB (⟨4,0,sE⟩,4) jB;rw[eM1]at hp;refine⟨N',l,⟨hT2.1,hT2.2.1.trans hT1.2.1,hT2.2.2.trans hT1.2.2⟩,hU1.trans hU,⟨?_,hR.ok,hp.e2,(hU1.trans hU).aY,gW hR h1 rfl⟩⟩;refine aT (L:=ids e) func128 ntmps128 ?_ (hL:=rfl);generalize hB:ids e=B;refine fk ?_
   (have W:=jA hlo (jA hlo1 (hR.root));repeat' (first|refine aB fun K hK=>?_|refine aC ?_|(with_reducible refine gR 16 ?_);refine qt 16 [hn 2 N.af.v,hn 16 N.af.c] [] [97] [] [0,1,2,3,4,5,6,7,8,9,10,11,12,13,14] mixed ?_|(refine hK _ _ ?_;clear hK K)|(refine aA ?_ ?_<;>intro hc<;>try exact jz)|refine fa 9 ?_|refine pD hp1 (hx1 _ _) ?_|refine cT hmk ?_|refine cT hp ?_|refine aD ?_|exact jI|(clear hK K)));all_goals(try clear W)
   exact fp hB hR.ok hp.e2 (fun _=>rfl) (eO jC er) [.tmp 6]
  rw[if_neg c2];obtain⟨N2,l2,hT2,hU2,hmk⟩:=P7 X hT1.1 m.af.last.n jB (by show ga m.heap+_+1<=40;omega) (vv _);rw[hT1.2.1]at hmk;have hmk:du prog 183 [.pt (hn 5 N.k) 0 0 0,rI m.af.last.n] l1 (.bj [rI (m.heap.length+1:Nat),rI 0]) l2:=hmk;obtain⟨N',l,hT3,hU3,hp⟩:=sr X hT2.1 (by show 1<=(m.cut 1).calls.length;omega) ⟨4,m.heap.length+1,sE⟩ (by show(m.cut 1).af.stack.length<=1000;omega);obtain⟨N'',l',hT4,hU4,hp4⟩:=xc X hT2.1 (by show 1<=(m.cut 1).calls.length;omega) (⟨4,m.heap.length+1,sE⟩,0) (by show(m.cut 1).af.stack.length<=1000;omega);rw[show mP N2=mP N by unfold mP;rw[hT2.2.1,hT1.2.1]]at hp4;have hlo2:=hT2.1.ok.low;refine⟨N'',l',⟨hT4.1,hT4.2.1.trans (hT2.2.1.trans hT1.2.1),hT4.2.2.trans (hT2.2.2.trans hT1.2.2)⟩,hU1.trans (hU2.trans hU4),⟨?_,hR.ok,hp4.e2,(hU1.trans (hU2.trans hU4)).aY,gW hR h1 rfl⟩⟩;refine aT (L:=ids e) func128 ntmps128 ?_ (hL:=rfl);generalize hB:ids e=B;refine fk ?_
  (have W:=jA hlo (jA hlo1 (jA hlo2 (hR.root)));repeat' (first|refine aB fun K hK=>?_|refine aC ?_|(with_reducible refine gR 16 ?_);refine qt 16 [hn 2 N.af.v,hn 16 N.af.c] [] [97] [] [0,1,2,3,4,5,6,7,8,9,10,11,12,13,14] mixed ?_|(refine hK _ _ ?_;clear hK K)|(refine aA ?_ ?_<;>intro hc<;>try exact jz)|refine fa 9 ?_|refine pD hp1 (hx1 _ _) ?_|refine cT hmk ?_|refine cT hp4 ?_|refine aD ?_|exact jI|(clear hK K)));all_goals(try clear W)
  exact fp hB hR.ok hp4.e2 (fun _=>rfl) (eO jC er) [.tmp 6]
 have h12:x.op=12:=jB;rw[ER _ _ _ _ _ h12];have h2:=hk.two (.inr h12);have hsl:=hk.slot jB;have hld:=Cr hT1.1 jB x.a 4 (by rw[ht1];exact hsl) (by rw[ht1];have:=hk.slots;show m.af.slots.length<=1000;omega);rw[eN1,ht1]at hld;have hld:du prog 174 [cP N,rI x.a,rI 4] l1 (rV (dp m.af.slots x.a 4)) l1:=hld;obtain⟨N2,l2,⟨hT2,hv2⟩,hU2,hp2,hx2⟩:=ws X hT1.1 jB jB;rw[eN1,ht1]at hp2;rw[hv1,hT1.2.2]at hx2;have ecc:(m.cut 1).cut 1=m.cut 2:=EN h1 1 1 jB;rw[ecc]at hT2;have hlo2:=hT2.1.ok.low;have hc2:(m.cut 2).calls.length=m.calls.length:=MV.bB _ _;have ek:N2.k=N.k:=hT2.2.1.trans hT1.2.1;by_cases hi:(m.af.cut 1).last.n<0\/((bq m.heap (dp m.af.slots x.a 4).n).length:Int)<=(m.af.cut 1).last.n
 ·rw[if_pos hi];have hpt:=KC hT2.1 (dp m.af.slots x.a 4).n (m.af.cut 1).last.n m.af.last.n (by show m.heap.length<=1000;omega) (by show m.heap.flatten.length<=1000;omega) hi;rw[ek]at hpt;obtain⟨N',l,hT3,hU,hp⟩:=vX X hT2.1 jB 3 2;rw[show mP N2=mP N by unfold mP;rw[ek]]at hp;refine⟨N',l,⟨hT3.1,hT3.2.1.trans ek,hT3.2.2.trans (hT2.2.2.trans hT1.2.2)⟩,hU1.trans (hU2.trans hU),⟨?_,hR.ok,hp.e2,(hU1.trans (hU2.trans hU)).aY,gW hR h1 rfl⟩⟩;refine aT (L:=ids e) func128 ntmps128 ?_ (hL:=rfl);generalize hB:ids e=B;refine fk ?_
  (have W:=jA hlo (jA hlo1 (jA hlo2 (jA hv3 (hT1.2.1))));repeat' (first|refine aB fun K hK=>?_|refine aC ?_|(with_reducible refine gR 12 ?_);refine qt 12 [hn 2 N.af.v,hn 16 N.af.c] [73] [78] [] [0,1,2,3,4,5,6,7,8,9,10,11,14,12,13,15,16] mixed ?_|(refine hK _ _ ?_;clear hK K)|(refine aA ?_ ?_<;>intro hc<;>try exact jz)|refine fa 9 ?_|refine cT hp1 ?_|refine o8 hld ?_|refine pD hp2 (hx2 _ _) ?_|refine cT hpt ?_|refine cT hp ?_|refine aD ?_|exact jI|(clear hK K)));all_goals(try clear W)
  exact fp hB hR.ok hp.e2 (fun _=>rfl) (eO jC er) [.tmp 6]
 ·rw[if_neg hi];obtain⟨N',l,hT3,hU,hp⟩:=P8 X hT2.1 (dp m.af.slots x.a 4).n (m.af.cut 1).last.n m.af.last.n (by show m.heap.length<=1000;omega) (by show m.heap.flatten.length<=1000;omega) hi;rw[ek]at hp;refine⟨N',l,⟨hT3.1,hT3.2.1.trans ek,hT3.2.2.trans (hT2.2.2.trans hT1.2.2)⟩,hU1.trans (hU2.trans hU),⟨?_,hR.ok,hp.e2,(hU1.trans (hU2.trans hU)).aY,gW hR h1 rfl⟩⟩;refine aT (L:=ids e) func128 ntmps128 ?_ (hL:=rfl);generalize hB:ids e=B;refine fk ?_
  (have W:=jA hlo (jA hlo1 (jA hlo2 (jA hv3 (hT1.2.1))));repeat' (first|refine aB fun K hK=>?_|refine aC ?_|(with_reducible refine gR 12 ?_);refine qt 12 [hn 2 N.af.v,hn 16 N.af.c] [73] [78] [] [0,1,2,3,4,5,6,7,8,9,10,11,14,12,13,15,16] mixed ?_|(refine hK _ _ ?_;clear hK K)|(refine aA ?_ ?_<;>intro hc<;>try exact jz)|refine fa 9 ?_|refine cT hp1 ?_|refine o8 hld ?_|refine pD hp2 (hx2 _ _) ?_|refine cT hp ?_|refine aD ?_|exact jI|(clear hK K)));all_goals(try clear W)
  exact fp hB hR.ok hp.e2 (fun _=>rfl) (eO jC er) [.tmp 6]
end
end Go.Proofs.YtfkgcobaheegbaaGreatDoor
namespace Go.Gd
open Go
theorem hZ.nil{r:AV}{H:Hp}(i:Nat)(e:TypeId){sz:Nat}(hi:H.get i=none)(h0:0<sz)(hs:r=.raw (.slice none 0 0)):hZ r H (.rs i 0 sz 0) (H.put i (.aL e sz [])):=fun w v h1 h2=>by
 obtain⟨w',e,a,b,c⟩:=dq.nil (F:=[r]) i 0 e hi h0 (.inl (by rw[hs];rfl)) w #[v] h1 ⟨rfl,fun k a x ha hx=>by
  match k with
  |0=>cases ha;cases hx;exact h2
  |k+1=>simp at ha⟩
 exact⟨w',e,a,b.2 0 _ v rfl rfl,c⟩
theorem Ap{P:Program}{fn:Func}{F:List AV}{out:List AV}{e:Exit}(i:Nat)(t:TypeId)(sz:Nat)(h0:0<sz)(rs:List ResultVar)(hout:jU out=.raw (.slice none 0 0))(ho:jg P ⟨[],[]⟩ F rs=some out)(hok:j3 P ⟨[],[]⟩ F rs)(hrs:fn.results.toList=rs:=by rfl)(he:e=.normal\/e=.ret:=by first|exact Or.inr rfl|exact Or.inl rfl|fail) :
  kX P fn (fun r l=>r=.rs i 0 sz 0/\l=[(i,.aL t sz [])]) e F ⟨[],[]⟩:=by
 subst hrs;exact rE he ho hok _ _ (hZ.nil i t rfl h0 hout) ⟨rfl,rfl⟩
end Go.Gd
namespace Go.Proofs.YtfkgcobaheegbaaGreatDoor
open Go Go.Gd Tryz
theorem EL(l:List (ByteArray))(hl:l.length<=1000)(i:Nat):aj prog 80 [bp eS 1 l] [] (fun r l'=>r=.rs i l.length 1 l.length/\l'=[(i,.aL 9 1 (l.map eS))]):=by
 refine aT func80 ntmps80 ?_
 (repeat' (first|refine aB fun K hK=>?_|refine aC ?_|(refine hK _ _ ?_;clear hK K)|(refine aA ?_ ?_<;>intro hc<;>try exact jz)|(with_reducible refine fun(b:Bool) hb=>?_)|refine qy i ?_|refine aD ?_|exact jI|(clear hK K)))
 ·have hb':l=[]:=by simpa using hb hc
  subst hb';exact Ap i 9 1 jC [.tmp 2] rfl rfl trivial
 ·(refine bW [.tmp 2] ?_ ?_<;>(try simp only[go_sem]))
theorem yY(l:List (ak))(hl:l.length<=1000)(i:Nat):aj prog 81 [bp cv 3 l] [] (fun r l'=>r=.rs i l.length 3 l.length/\l'=[(i,.aL 59 3 (l.map cv))]):=by
 refine aT func81 ntmps81 ?_
 (repeat' (first|refine aB fun K hK=>?_|refine aC ?_|(refine hK _ _ ?_;clear hK K)|(refine aA ?_ ?_<;>intro hc<;>try exact jz)|(with_reducible refine fun(b:Bool) hb=>?_)|refine qy i ?_|refine aD ?_|exact jI|(clear hK K)))
 ·have hb':l=[]:=by simpa using hb hc
  subst hb';exact Ap i 59 3 jC [.tmp 2] rfl rfl trivial
 ·(refine bW [.tmp 2] ?_ ?_<;>(try simp only[go_sem]))
theorem Ay(l:List (Int))(hl:l.length<=1000)(i:Nat):aj prog 108 [bp eI 1 l] [] (fun r l'=>r=.rs i l.length 1 l.length/\l'=[(i,.aL 3 1 (l.map eI))]):=by
 refine aT func108 ntmps108 ?_
 (repeat' (first|refine aB fun K hK=>?_|refine aC ?_|(refine hK _ _ ?_;clear hK K)|(refine aA ?_ ?_<;>intro hc<;>try exact jz)|(with_reducible refine fun(b:Bool) hb=>?_)|refine qy i ?_|refine aD ?_|exact jI|(clear hK K)))
 ·have hb':l=[]:=by simpa using hb hc
  subst hb';exact Ap i 3 1 jC [.tmp 2] rfl rfl trivial
 ·(refine bW [.tmp 2] ?_ ?_<;>(try simp only[go_sem]))
end Go.Proofs.YtfkgcobaheegbaaGreatDoor
namespace Go.Gd
open Go
theorem A2{P:Program}{f:FuncId}{args args':List AV}{H:Hp}{K:AV->Hp->Prop}{sz:Nat}{t:TypeId}{α:Type}[Inhabited α]{enc:α->List AV}[he:bG enc sz]{xs:List α}{q:Prop}(i:Nat)(hfl:∀x,ka (enc x)=true)
  (hc:aj P f args' [] fun r l=>r=.rs i xs.length sz xs.length/\l=[(i,.aL t sz (xs.map enc))]) (hi:H.get i=none) (hv:∀w vs,aO w H->bc w args vs->bc (w.cD fun _=>true) args' vs) (k:q) (h0:bz P f=true:=by exact dj) (e:K (bp enc sz xs) H=q:=by exact eJ):fI P (.raw (.func (.func f) #[] #[])) args H K:=
 o7 h0 (CK hfl hi hc hv (e ▸ k))
theorem EY{w w':NW}{a b:AV}{vs:Array Value}(h:bc w [a] vs)(hab:∀v,aw w a v->aw w' b v):bc w' [b] vs:=⟨h.1,fun i x v hx hv=>by
 match i with
 |0=>cases hx;exact hab v (h.2 0 a v rfl hv)
 |i+1=>simp at hx⟩
theorem GI{H:Hp}{i m sz o n:Nat}{t:TypeId}{α:Type}[Inhabited α]{enc:α->List AV}[he:bG enc sz](l more:List α)(hi:H.get i=some (.aL t sz ((l++more).map enc)))(hm:m=l.length+more.length)(hn:o+n=l.length)(h0:0<sz):∀w vs,aO w H->bc w [.rv i m sz o n] vs->bc (w.cD fun _=>true) [bp enc sz (l.drop o)] vs:=fun w vs hw hv=>
 EY hv fun v h=>by
  have:=E5 (d:=enc default) hw hi (by rw[List.length_map,List.length_append];exact hm) jB h0 (lJ (enc:=enc) (sz:=sz) _) h;have e:(((l++more).map enc).drop o).take n=(l.drop o).map enc:=by rw[<-List.map_drop,<-List.map_take,List.drop_append_of_le_length jB,List.take_append_of_le_length (by rw[List.length_drop];omega),List.take_of_length_le (by rw[List.length_drop];omega)]
  rw[e]at this;exact this
namespace MV
variable {p:ab}{C:aE}{m:MV}{N:NM}{e:List (Nat×Row)}
theorem bD.Bz(hR:bD p C m N e)(h1:1<=m.calls.length)(b:Nat)(hb:b<=m.af.stack.length):bD p C (m.cut b) (N.aQ ⟨N.af.c,N.af.v,m.af.stack.drop (m.af.stack.length-b)++N.af.jk⟩) (br e (hn 0 N.af.c) (.var 137 (MV.cE (m.af.cut b) ⟨N.af.c,N.af.v,m.af.stack.drop (m.af.stack.length-b)++N.af.jk⟩))):=by
 have ht:=hR.af h1;have hbd:=ht.bd;refine hR.aQ h1 (c':=m.af.cut b) rfl ?_ ⟨?_,?_,?_,?_⟩ (.inl rfl) fun j hj n0 n1 n2=>by rw[bM,if_neg n0]
 ·refine hR.ok.put (.inr (iw _ _)) ?_;have i1:=gG ht.eP;have i2:=gG ht.cw;simp only[Row.cells,MV.cE,aW,AV.all,i1,i2,Bool.or_true,Bool.and_self]
 ·rw[bM,if_pos rfl]
 ·rw[bM,if_neg (db jB jB jB)];show _=some (Row.aL _ 3 ((m.af.stack.take (m.af.stack.length-b)++(m.af.stack.drop (m.af.stack.length-b)++N.af.jk)).map cv));rw[<-List.append_assoc,List.take_append_drop];exact ht.cw
 ·rw[bM,if_neg (db jB jB jB)];exact ht.eP
 ·show(m.af.stack.take (m.af.stack.length-b)).length+(m.af.stack.drop (m.af.stack.length-b)++N.af.jk).length<=2000;rw[List.length_take,List.length_append,List.length_drop];omega
end MV
end Go.Gd
namespace Go.Proofs.YtfkgcobaheegbaaGreatDoor
open Go Go.Gd Tryz Go.Gd.MV
section
variable {p:ab}{C:aE}{m:MV}{N:NM}{e:List (Nat×Row)}(X:List Nat)
theorem JL(hR:bD p C m N e)(h1:1<=m.calls.length)(x:au)(hx:¬(x.op=20\/x.op=21\/x.op=22)):du prog 130 [mP N,cP N,.agg (cZ x)] e (rB false) e:=by
 have hlo:=hR.ok.low;refine⟨?_,hR.ok,hR.ok,fun _ h=>h,gW hR h1 rfl⟩;refine aT (L:=ids e) func130 ntmps130 ?_ (hL:=rfl);generalize hB:ids e=B;refine fk ?_
 (have W:=hlo;repeat' (first|refine aB fun K hK=>?_|refine aC ?_|(refine hK _ _ ?_;clear hK K)|(refine aA ?_ ?_<;>intro hc<;>try exact jz)|refine fa 9 ?_|refine aD ?_|exact jI|(clear hK K)));all_goals(try clear W)
 exact fp hB hR.ok hR.ok (fun _=>rfl) (eO jC er) [.tmp 6]
theorem MA(h1:1<=m.calls.length)(b:Nat)(hd:∀k,k<m.calls.length->(nth m.calls k).stack.length<=1000):∀k,k<(m.cut b).calls.length->(nth (m.cut b).calls k).stack.length<=1000:=fun k hk=>by
 have hl:(m.cut b).calls.length=m.calls.length:=MV.bB _ _;have e1:nth (m.cut b).calls k=if k=m.calls.length-1 then m.af.cut b else nth m.calls k:=Go.Gd.bh _ _ _ _ jB
 rw[e1];split
 ·show(m.af.stack.take _).length<=_;have:m.af.stack.length<=1000:=hd (m.calls.length-1) jB;rw[List.length_take];omega
 ·exact hd k jB
theorem uZ(x:ak):ka (cv x)=true:=rfl
theorem Rc(hR:bD p C m N e)(inp:List Int)(x:au)(hk:pz p C m x)(hx:x.op=20\/x.op=21\/x.op=22):kv prog 130 [mP N,cP N,.agg (cZ x)] e X (rB true) (fun N' l=>bD p C (m.ins p C inp x) N' l/\N'.k=N.k):=by
 have h1:=hk.calls;have hlo:=hR.ok.low;have hT:=hR.af h1;have hl:=hR.len;by_cases h22:x.op=22
 ·have ei:m.ins p C inp x=m.ends (vZ x.a):=Gm _ _ _ _ _ h22;rw[ei];obtain⟨N',l,hT1,hU,hp⟩:=Eo X hR h1 (vZ x.a) hk.deep;refine⟨N',l,hT1,hU,⟨?_,hR.ok,hp.e2,hU.aY,gW hR h1 rfl⟩⟩;refine aT (L:=ids e) func130 ntmps130 ?_ (hL:=rfl);generalize hB:ids e=B;refine fk ?_
  (have W:=hlo;repeat' (first|refine aB fun K hK=>?_|refine aC ?_|(refine hK _ _ ?_;clear hK K)|(refine aA ?_ ?_<;>intro hc<;>try exact jz)|refine fa 9 ?_|refine cp (BD _) ?_|refine cT hp ?_|refine aD ?_|exact jI|(clear hK K)));all_goals(try clear W)
  exact fp hB hR.ok hp.e2 (fun _=>rfl) (eO jC er) [.tmp 6]
 by_cases h21:x.op=21
 ·have ei:m.ins p C inp x=(m.cut 1).ends m.af.last:=GQ _ _ _ _ _ h21;rw[ei];obtain⟨N1,l1,hT1,hU1,hp1⟩:=Df X hR h1 (hk.one jB);have h11:1<=(m.cut 1).calls.length:=by rw[show(m.cut 1).calls.length=m.calls.length from MV.bB _ _];exact h1
  obtain⟨N',l,hT2,hU,hp⟩:=Eo X hT1.1 h11 m.af.last (MA h1 1 hk.deep);rw[show mP N1=mP N by unfold mP;rw[hT1.2.1]]at hp;have hlo1:=hT1.1.ok.low;refine⟨N',l,⟨hT2.1,hT2.2.trans hT1.2.1⟩,hU1.trans hU,⟨?_,hR.ok,hp.e2,(hU1.trans hU).aY,gW hR h1 rfl⟩⟩;refine aT (L:=ids e) func130 ntmps130 ?_ (hL:=rfl);generalize hB:ids e=B;refine fk ?_
  (have W:=jA hlo hlo1;repeat' (first|refine aB fun K hK=>?_|refine aC ?_|(refine hK _ _ ?_;clear hK K)|(refine aA ?_ ?_<;>intro hc<;>try exact jz)|refine fa 9 ?_|refine cT hp1 ?_|refine cT hp ?_|refine aD ?_|exact jI|(clear hK K)));all_goals(try clear W)
  exact fp hB hR.ok hp.e2 (fun _=>rfl) (eO jC er) [.tmp 6]
 have h20:x.op=20:=jB;obtain⟨c1,c2,c3⟩:=hk.call h20;obtain⟨b,hb⟩:∃b:Nat,x.b=b:=⟨x.b.toNat,jB⟩;have hbt:x.b.toNat=b:=jB;rw[hbt]at c3;have hb2:b<=m.af.stack.length:=jB;have hdp:=hk.af;have hR1:=hR.Bz h1 b hb2;have hU1:Up X e (br e (hn 0 N.af.c) (.var 137 (MV.cE (m.af.cut b) ⟨N.af.c,N.af.v,m.af.stack.drop (m.af.stack.length-b)++N.af.jk⟩))):=Up.put _ (.inl (by rw[hT.var];simp));have eC:MV.cE (m.af.cut b) ⟨N.af.c,N.af.v,m.af.stack.drop (m.af.stack.length-b)++N.af.jk⟩=[.rs (hn 2 N.af.v) (m.af.stack.length+N.af.jk.length) 3 (m.af.stack.length-b),.raw (.int .i64 m.af.fn),.raw (.int .i64 m.af.at_),.raw (.int .i64 m.af.mark),.rs (hn 1 N.af.c) m.af.slots.length 3 m.af.slots.length]:=by
  have e1:(m.af.cut b).stack.length=m.af.stack.length-b:=by show(m.af.stack.take _).length=_;rw[List.length_take];omega
  unfold MV.cE;rw[e1,List.length_append,List.length_drop,show m.af.stack.length-b+(m.af.stack.length-(m.af.stack.length-b)+N.af.jk.length)=m.af.stack.length+N.af.jk.length from jB];rfl
 rw[eC]at hR1 hU1;have hcl:=yY (m.af.stack.drop (m.af.stack.length-b)) (by rw[List.length_drop];omega) 10;have hm1:(m.cut b).calls.length=m.calls.length:=MV.bB _ _;have hlo1:=hR1.ok.low;by_cases h8:8<=m.calls.length
 ·have ei:m.ins p C inp x=(m.cut b).stops 3 3:=by rw[AJ _ _ _ _ _ h20,if_pos h8,hbt]
  rw[ei];obtain⟨N',l,hT2,hU,hp⟩:=vX X hR1 jB 3 3;refine⟨N',l,⟨hT2.1,hT2.2.1⟩,hU1.trans hU,⟨?_,hR.ok,hp.e2,(hU1.trans hU).aY,gW hR h1 rfl⟩⟩;clear eC hU1 hU;refine aT (L:=ids e) func130 ntmps130 ?_ (hL:=rfl);generalize hB:ids e=B;refine fk ?_
  (have W:=jA hlo (jA hR.root (jA hT.var (hb)));repeat' (first|refine aB fun K hK=>?_|refine aC ?_|(with_reducible refine gR 4 ?_);refine dE 4 [0,1,2,3,4,5,6,7,8,9] mixed ?_|(refine hK _ _ ?_;clear hK K)|(refine aA ?_ ?_<;>intro hc<;>try exact jz)|refine fa 9 ?_|refine A2 10 uZ hcl (by show av (tie _ _) _=_;rw[gF,hlo _ jC];rfl) (GI m.af.stack N.af.jk (by show av (tie _ _) _=_;rw[gF,hT.cw];rfl) rfl jB jC) ?_|refine cT hp ?_|refine aD ?_|exact jI|(clear hK K)));all_goals(try clear W)
  exact fp hB hR.ok hp.e2 (fun _=>rfl) (eO jC er) [.tmp 6]
 ·have ei:m.ins p C inp x=(m.cut b).cF p C x.a (m.af.stack.drop (m.af.stack.length-b)):=by rw[AJ _ _ _ _ _ h20,if_neg h8,hbt]
  rw[ei];obtain⟨f0,f1,f2,s0,s1,s2,b1,h8'⟩:=c3 jB;obtain⟨N',l,hT2,hU,hp⟩:=DW X hR1 x.a (m.af.stack.drop (m.af.stack.length-b)) ⟨f0,f1,f2,s0,s1,s2,b1,by rw[hm1];exact h8'⟩;refine⟨N',l,⟨hT2.1,hT2.2⟩,hU1.trans hU,⟨?_,hR.ok,hp.e2,(hU1.trans hU).aY,gW hR h1 rfl⟩⟩;clear eC hU1 hU;refine aT (L:=ids e) func130 ntmps130 ?_ (hL:=rfl);generalize hB:ids e=B;refine fk ?_
  (have W:=jA hlo (jA hR.root (jA hT.var (hb)));repeat' (first|refine aB fun K hK=>?_|refine aC ?_|(with_reducible refine gR 4 ?_);refine dE 4 [0,1,2,3,4,5,6,7,8,9] mixed ?_|(refine hK _ _ ?_;clear hK K)|(refine aA ?_ ?_<;>intro hc<;>try exact jz)|refine fa 9 ?_|refine A2 10 uZ hcl (by show av (tie _ _) _=_;rw[gF,hlo _ jC];rfl) (GI m.af.stack N.af.jk (by show av (tie _ _) _=_;rw[gF,hT.cw];rfl) rfl jB jC) ?_|refine cT hp ?_|refine aD ?_|exact jI|(clear hK K)));all_goals(try clear W)
  exact fp hB hR.ok hp.e2 (fun _=>rfl) (eO jC er) [.tmp 6]
end
theorem Jc{p:ab}{C:aE}{m:MV}{n:Nat}(h:Bd n m)(hn:n<=1000)(hok:m.cJ p C)(hC:C.entry.length<=1000)(hP:p.size.length<=1000):pz p C (m.aQ (m.af.jump (m.af.at_+1))) (m.bg C):=by
 have h1:=hok.calls;have ht:(m.aQ (m.af.jump (m.af.at_+1))).af=m.af.jump (m.af.at_+1):=MV.aV h1 _;have hl:(m.aQ (m.af.jump (m.af.at_+1))).calls.length=m.calls.length:=MV.bB _ _;have hst:(m.af.jump (m.af.at_+1)).stack=m.af.stack:=rfl;have hsl:(m.af.jump (m.af.at_+1)).slots=m.af.slots:=rfl;have hla:(m.af.jump (m.af.at_+1)).last=m.af.last:=rfl;refine⟨by rw[hl];exact h1,by rw[hl];exact hok.nb,?_,?_,?_,?_,?_,fun h20=>?_,?_,?_,fun k hk=>?_,?_,h.heap,h.outs,h.gK,by have:=h.gw;show m.in_<=1000;omega⟩
 ·rw[ht,hst];exact hok.one
 ·rw[ht,hst];exact hok.two
 ·rw[ht,hsl];exact hok.slot
 ·rw[ht,hla];exact hok.bool
 ·rw[ht,hla];exact hok.len
 ·obtain⟨c1,c2,c3,c4,c5,c6,c7,c8,c9⟩:=hok.call h20;rw[ht,hst];refine⟨c1,c2,fun h8=>⟨c4,c5,c6,c7,c8,?_,⟨hC,hP⟩,hok.nb |> (by rw[hl];exact·)⟩⟩;rw[List.length_drop];omega
 ·rw[ht,hla];exact hok.word
 ·rw[ht,hst];exact hok.j6
 ·rw[hl]at hk;have e:nth (m.aQ (m.af.jump (m.af.at_+1))).calls k=if k=m.calls.length-1 then m.af.jump (m.af.at_+1)else nth m.calls k:=Go.Gd.bh _ _ _ _ jB
  rw[e];split
  ·exact hok.deep
  ·exact h.deep k jB
 ·rw[ht,hsl];exact h.af h1
theorem KI{h:List (List Int)}{a i:Int}(hi:¬(i<0\/((MV.bq h a).length:Int)<=i)):(a-1).toNat<h.length/\i.toNat<(nth h (a-1).toNat).length:=by
 unfold MV.bq at hi;by_cases e:a<1\/(h.length:Int)<a
 ·rw[if_pos e]at hi;simp only[List.length_nil]at hi;omega
 ·rw[if_neg e]at hi;omega
theorem Mw{p:ab}{C:aE}{m:MV}{inp:List Int}{x:au}(h:Bd inp.length m)(hk:pz p C m x):Bd inp.length (m.ins p C inp x):=by
 have h1:=hk.calls;have hcut:∀k,(m.cut k).calls.length=m.calls.length:=fun k=>MV.bB _ _
 have hc:∀k,Bd inp.length (m.cut k):=fun k=>h.cut h1 k
 have hc1:∀k,1<=(m.cut k).calls.length:=fun k=>by rw[hcut];exact h1
 by_cases a:x.op=2
 ·rw[O1 _ _ _ _ _ a];exact h.push h1 _
 by_cases a:x.op=3
 ·rw[Jw _ _ _ _ _ a];exact h.push h1 _
 by_cases a:x.op=4
 ·rw[Qa _ _ _ _ _ a];exact h.push h1 _
 by_cases a:x.op=5
 ·rw[K9 _ _ _ _ _ a];exact h.push h1 _
 by_cases a:x.op=6
 ·rw[Dl _ _ _ _ _ a];refine h.aQ ?_;show(m.af.slots.set _ _).length<=24;rw[List.length_set];exact hk.slots
 by_cases a:x.op=7
 ·rw[D8 _ _ _ _ _ a];exact(hc 2).dX (hc1 2) _
 by_cases a:x.op=8
 ·rw[Hu _ _ _ _ _ a];exact(hc 1).push (hc1 1) _
 by_cases a:x.op=9
 ·rw[C6 _ _ _ _ _ a];exact(hc 1).push (hc1 1) _
 by_cases a:x.op=10
 ·rw[Hq _ _ _ _ _ a];exact(hc 1).push (hc1 1) _
 by_cases a:x.op=11
 ·rw[Hj _ _ _ _ _ a];split
  ·exact(hc 1).stops (hc1 1) _ _
  ·exact(hc 1).push (hc1 1) _
 by_cases a:x.op=12
 ·rw[ER _ _ _ _ _ a];split
  ·exact(hc 2).stops (hc1 2) _ _
  ·rename_i hi;refine(hc 2).ns ?_;obtain⟨q1,q2⟩:=KI hi;rw[CL _ _ _ q1 (by rw[List.length_set])];exact h.heap
 by_cases a:x.op=13
 ·rw[FX _ _ _ _ _ a];split
  ·exact(hc 1).stops (hc1 1) _ _
  ·split
   ·exact(hc 1).stops (hc1 1) _ _
   ·refine((hc 1).push (hc1 1) _).ns ?_;rw[IB,List.length_replicate];omega
 by_cases a:x.op=14
 ·rw[HX _ _ _ _ _ a];split
  ·exact h.stops h1 _ _
  ·have:=h.push h1 (vI (nth inp m.in_.toNat));have h0:=h.gK;exact⟨this.deep,this.slots,this.heap,this.outs,by show 0<=m.in_+1;omega,by show m.in_+1<=_;omega⟩
 by_cases a:x.op=15
 ·rw[Dt _ _ _ _ _ a];split
  ·exact h.stops h1 _ _
  ·have:=hc 1;exact⟨this.deep,this.slots,this.heap,by show(m.ax++[_]).length<=24;rw[List.length_append,List.length_singleton];omega,this.gK,this.gw⟩
 by_cases a:x.op=16
 ·rw[PD _ _ _ _ _ a];exact h.aQ hk.slots
 by_cases a:x.op=17
 ·rw[M5 _ _ _ _ _ a];split
  ·exact h.aQ hk.slots
  ·exact hc 1
 by_cases a:x.op=18\/x.op=19
 ·rw[LW _ _ _ _ _ a];split
  ·exact h.aQ hk.slots
  ·exact hc 1
 by_cases a:x.op=20
 ·rw[AJ _ _ _ _ _ a];split
  ·exact(hc _).stops (hc1 _) _ _
  ·rename_i h8;obtain⟨c1,c2,c3⟩:=hk.call a;have c3:=c3 jB;refine(hc _).cF (hc1 _) ?_ c3.s1 c3.s2;rw[show(m.cut x.b.toNat).af=m.af.cut x.b.toNat from MV.aV h1 _];show(m.af.stack.take _).length<=1000;have:=hk.af;rw[List.length_take];omega
 by_cases a:x.op=21
 ·rw[GQ _ _ _ _ _ a];exact(hc 1).ends _
 by_cases a:x.op=22
 ·rw[Gm _ _ _ _ _ a];exact h.ends _
 by_cases a:x.op=23
 ·rw[Dw _ _ _ _ _ a];exact hc 1
 ·rw[Rl _ _ _ _ _ jB];exact h
end Go.Proofs.YtfkgcobaheegbaaGreatDoor
