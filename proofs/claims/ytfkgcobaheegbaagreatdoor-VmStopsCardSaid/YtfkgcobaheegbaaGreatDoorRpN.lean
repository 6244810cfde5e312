/- Lemmas. No conditions. -/
import Derived.Test.YtfkgcobaheegbaaGreatDoorRpK
set_option linter.all false
set_option maxHeartbeats 4000000
set_option maxRecDepth 10000
namespace Go.Gd
open Go
namespace MV
variable {p:ab}{C:aE}{m:MV}{N:NM}{e:List (Nat×Row)}
theorem bD.Bk(hR:bD p C m N e){m':MV}(h1:m'.calls=m.calls)(h2:m'.heap=m.heap):bD p C m' N (br (br e (hn 8 N.k) (.aL 9 1 (m'.ax.map eS))) (hn 3 N.k) (.var 122 (mE p C m' N))):=by
 have kind:∀(a k:Nat) (r:Row),a≠3->a≠8->a<32->av e (hn a k)=some r->av (br (br e (hn 8 N.k) (.aL 9 1 (m'.ax.map eS))) (hn 3 N.k) (.var 122 (mE p C m' N))) (hn a k)=some r:=fun a k r h3 h8 h16 h=>by rw[bM,if_neg (db h16 jB h3),bM,if_neg (db h16 jB h8)];exact h
 refine⟨?_,by rw[bM,if_pos rfl],kind _ _ _ jB jB jB hR.row,?_,?_,?_,?_,by rw[h1];exact hR.len,fun k hk=>?_,hR.nc,hR.nv,hR.bd⟩
 ·refine(hR.ok.put (.inr (iw _ _)) (fh (q:=dY) (fun _ h=>by cases h) _ (o3 (lJ (enc:=eS) (sz:=1) _)))).put (.inr (iw _ _)) ?_;exact fh (fun j hj=>by rw[Bool.or_eq_true];exact .inr hj) _ (hR.gl (fun _ h=>(oj _ _ _ _).2 (.inr h)) m' N rfl)
 ·rw[h2];exact kind _ _ _ jB jB jB hR.hp
 ·rw[h2];exact kind _ _ _ jB jB jB hR.cells
 ·rw[h2];exact kind _ _ _ jB jB jB hR.ends
 ·rw[bM,if_neg (db jB jB jB),bM,if_pos rfl]
 ·rw[h1]at hk ⊢;have hc:=hR.call k hk;exact⟨kind _ _ _ jB jB jB hc.var,kind _ _ _ jB jB jB hc.cw,kind _ _ _ jB jB jB hc.eP,hc.bd⟩
end MV
end Go.Gd
namespace Go.Proofs.YtfkgcobaheegbaaGreatDoor
open Go Go.Gd Tryz Go.Gd.MV
section
variable {p:ab}{C:aE}{m:MV}{N:NM}{e:List (Nat×Row)}(X:List Nat)
theorem J0(hR:bD p C m N e)(inp:List Int)(x:au)(hk:pz p C m x)(hn1:inp.length<=1000)(hx:x.op=14\/x.op=15):kv prog 131 [mP N,cP N,.agg (cZ x),bp eI 1 inp] e X (.bj []) (To p C (m.ins p C inp x) N):=by
 have h1:=hk.calls;have hlo:=hR.ok.low;have hdp:=hk.af;have gK:=hk.gK;have gw:=hk.gw;have hou:=hk.outs;by_cases h14:x.op=14
 ·rw[HX _ _ _ _ _ h14];by_cases hw:(inp.length:Int)<=m.in_
  ·rw[if_pos hw];obtain⟨N',l,hT,hU,hp⟩:=vX X hR h1 1 0;refine⟨N',l,hT,hU,⟨?_,hR.ok,hp.e2,hU.aY,gW hR h1 rfl⟩⟩;refine aT (L:=ids e) func131 ntmps131 ?_ (hL:=rfl);generalize hB:ids e=B;refine fk ?_
   (have W:=jA hlo (hR.root);repeat' (first|refine aB fun K hK=>?_|refine aC ?_|(refine hK _ _ ?_;clear hK K)|(refine aA ?_ ?_<;>intro hc<;>try exact jz)|refine fa 9 ?_|refine cT hp ?_|refine aD ?_|exact jI|(clear hK K)));all_goals(try clear W)
   exact fp hB hR.ok hp.e2 (fun _=>rfl) (eO jC er) []
  ·rw[if_neg hw];obtain⟨N1,l1,hT1,hU1,hp1⟩:=sr X hR h1 (vI (nth inp m.in_.toNat)) hdp;have hR2:=hT1.1.mf (m':={ m.push (vI (nth inp m.in_.toNat))with in_:=m.in_+1 }) rfl rfl rfl;have hlo1:=hT1.1.ok.low;have hr1:=hT1.1.root;rw[hT1.2.1]at hr1;have hin:(m.push (vI (nth inp m.in_.toNat))).in_=m.in_:=rfl;have hU2:Up X l1 (br l1 (hn 3 N1.k) (.var 122 (mE p C { m.push (vI (nth inp m.in_.toNat))with in_:=m.in_+1 } N1))):=Up.put _ (.inl (by rw[hT1.2.1,hr1];simp));refine⟨N1,_,⟨hR2,hT1.2.1,hT1.2.2⟩,hU1.trans hU2,⟨?_,hR.ok,hR2.ok,(hU1.trans hU2).aY,gW hR h1 rfl⟩⟩;have k2:=hR2.ok;clear hR2 hU1 hU2;generalize hE:br l1 (hn 3 N1.k) (.var 122 (mE p C { m.push (vI (nth inp m.in_.toNat))with in_:=m.in_+1 } N1))=E at k2 ⊢;refine aT (L:=ids e) func131 ntmps131 ?_ (hL:=rfl);generalize hB:ids e=B;refine fk ?_
   (have W:=jA hlo (jA hlo1 (jA hR.root (jA hr1 (jA hT1.2.1 (hin)))));repeat' (first|refine aB fun K hK=>?_|refine aC ?_|(with_reducible refine gR 4 ?_);refine dE 4 [0,1,2,3,4,5,6,7,8,9,10,11] mixed ?_|(refine hK _ _ ?_;clear hK K)|(refine aA ?_ ?_<;>intro hc<;>try exact jz)|refine fa 9 ?_|refine cp (tu _) ?_|refine cT hp1 ?_|refine aD ?_|exact jI|(clear hK K)));all_goals(try clear W)
   subst hE;refine fp (tl:=[(9,.var 139 (cZ x))]) hB hR.ok k2 (fun i=>?_) (eO jC er) [];have:=hT1.2.1;unfold mE;rw[this];rfl
 have h15:x.op=15:=jB;rw[Dt _ _ _ _ _ h15];by_cases ho:24<=m.ax.length
 ·rw[if_pos ho];obtain⟨N',l,hT,hU,hp⟩:=vX X hR h1 3 5;refine⟨N',l,hT,hU,⟨?_,hR.ok,hp.e2,hU.aY,gW hR h1 rfl⟩⟩;refine aT (L:=ids e) func131 ntmps131 ?_ (hL:=rfl);generalize hB:ids e=B;refine fk ?_
  (have W:=jA hlo (hR.root);repeat' (first|refine aB fun K hK=>?_|refine aC ?_|(refine hK _ _ ?_;clear hK K)|(refine aA ?_ ?_<;>intro hc<;>try exact jz)|refine fa 9 ?_|refine cT hp ?_|refine aD ?_|exact jI|(clear hK K)));all_goals(try clear W)
  exact fp hB hR.ok hp.e2 (fun _=>rfl) (eO jC er) []
 ·rw[if_neg ho];have hb1:=hk.one jB;obtain⟨N1,l1,⟨hT1,hv1⟩,hU1,hp1,hx1⟩:=ws X hR h1 hb1;have hR2:=hT1.1.Bk (m':={ m.cut 1 with ax:=m.ax++[kn m.af.last] }) rfl rfl;have hlo1:=hT1.1.ok.low;have hr1:=hT1.1.root;have ho1:=hT1.1.outs;rw[hT1.2.1]at hr1 ho1;have hU2:Up X l1 (br (br l1 (hn 8 N1.k) (.aL 9 1 ((m.ax++[kn m.af.last]).map eS))) (hn 3 N1.k) (.var 122 (mE p C { m.cut 1 with ax:=m.ax++[kn m.af.last] } N1))):=by
   refine(Up.put _ (.inl ?_)).trans (Up.put _ (.inl ?_))
   ·rw[hT1.2.1,ho1];simp
   ·rw[bM,if_neg (db jB jB jB),hT1.2.1,hr1];simp
  have hwd:=Ob m.af.last (hk.word h15);refine⟨N1,_,⟨hR2,hT1.2.1,hT1.2.2⟩,hU1.trans hU2,⟨?_,hR.ok,hR2.ok,(hU1.trans hU2).aY,gW hR h1 rfl⟩⟩;have k2:=hR2.ok;clear hR2 hU1 hU2;have ho1:av l1 (hn 8 N.k)=some (.aL 9 1 (m.ax.map eS)):=ho1;show aj _ _ _ _ fun r l'=>r=_/\l'=br (br l1 (hn 8 N1.k) (.aL 9 1 ((m.ax++[kn m.af.last]).map eS))) (hn 3 N1.k) (.var 122 (mE p C { m.cut 1 with ax:=m.ax++[kn m.af.last] } N1))
  have k2:eF 0 (br (br l1 (hn 8 N1.k) (.aL 9 1 ((m.ax++[kn m.af.last]).map eS))) (hn 3 N1.k) (.var 122 (mE p C { m.cut 1 with ax:=m.ax++[kn m.af.last] } N1))):=k2;generalize hE:br (br l1 (hn 8 N1.k) (.aL 9 1 ((m.ax++[kn m.af.last]).map eS))) (hn 3 N1.k) (.var 122 (mE p C { m.cut 1 with ax:=m.ax++[kn m.af.last] } N1))=E at k2 ⊢;refine aT (L:=ids e) func131 ntmps131 ?_ (hL:=rfl);generalize hB:ids e=B;refine fk ?_
  (have W:=jA hlo (jA hlo1 (jA hR.root (jA hr1 (jA ho1 (hT1.2.1)))));repeat' (first|refine aB fun K hK=>?_|refine aC ?_|(with_reducible refine gR 9 ?_);refine qt 9 [hn 2 N.af.v,hn 16 N.af.c] [73] [72,1000000] [] [0,1,2,3,4,5,6,7,8,9,10,11,12,13,14] mixed ?_|(refine hK _ _ ?_;clear hK K)|(refine aA ?_ ?_<;>intro hc<;>try exact jz)|refine fa 9 ?_|refine pD hp1 (hx1 _ _) ?_|refine cq (hwd) ?_|refine aD ?_|exact jI|(clear hK K)));all_goals(try clear W)
  subst hE;refine fp (tl:=[(9,.var 139 (cZ x))]) hB hR.ok k2 (fun i=>?_) (eO jC er) [];have:=hT1.2.1;have e1:(m.ax++[kn m.af.last]).length=m.ax.length+1:=jE;unfold mE;dsimp only;rw[this,List.map_append,e1];rfl
end
end Go.Proofs.YtfkgcobaheegbaaGreatDoor
namespace Go.Gd
open Go
theorem Da{n:Nat}{S:Type}{W:List (Nat×Nat)}{ok:S->Prop}{J:S->List (Nat×AV)}{G:S->Hp}{μ:S->Nat}{F₀ F:List AV}{B:List Nat}{e0 l tl:List (Nat×Row)}(hB:ids e0=B)(k1:eF 0 e0)(k2:eF 0 l)(hl:nF 0 tl)(s:S)(h1:ok s)(h2:μ s<n)(hG:(⟨B,tie l []⟩:Hp)=G s)(h3:bX (cR 0) ⟨B,tie l tl⟩ F (mm (J s) (lS W F₀))):Next n W ok J G μ F₀ F ⟨B,tie l tl⟩:=by obtain⟨a1,a2,a3⟩:=k1.free k2 hB hl;refine AD (cR 0) s h1 h2 a1 a2 ?_ h3;rw[<-hG];show(Hp.mk B (eu (cR 0) (l++tl)))=_;rw[a3,<-wL]
end Go.Gd
namespace Go.Proofs.YtfkgcobaheegbaaGreatDoor
open Go Go.Gd Tryz Go.Gd.MV
section
variable {p:ab}{C:aE}(X:List Nat)
inductive rQ(inp:List Int)(N:NM)(x:au)(e l:List (Nat×Row)):Prop
 |a (h:du prog 126 [mP N,cP N,.agg (cZ x)] e (rB true) l)
 |b (h1:du prog 126 [mP N,cP N,.agg (cZ x)] e (rB false) e) (h:du prog 127 [mP N,cP N,.agg (cZ x)] e (rB true) l)
 |c (h1:du prog 126 [mP N,cP N,.agg (cZ x)] e (rB false) e) (h2:du prog 127 [mP N,cP N,.agg (cZ x)] e (rB false) e) (h:du prog 128 [mP N,cP N,.agg (cZ x)] e (rB true) l)
 |d (h1:du prog 126 [mP N,cP N,.agg (cZ x)] e (rB false) e) (h2:du prog 127 [mP N,cP N,.agg (cZ x)] e (rB false) e) (h3:du prog 128 [mP N,cP N,.agg (cZ x)] e (rB false) e) (h:du prog 129 [mP N,cP N,.agg (cZ x)] e (rB true) l)
 |e (h1:du prog 126 [mP N,cP N,.agg (cZ x)] e (rB false) e) (h2:du prog 127 [mP N,cP N,.agg (cZ x)] e (rB false) e) (h3:du prog 128 [mP N,cP N,.agg (cZ x)] e (rB false) e) (h4:du prog 129 [mP N,cP N,.agg (cZ x)] e (rB false) e) (h:du prog 130 [mP N,cP N,.agg (cZ x)] e (rB true) l)
 |f (h1:du prog 126 [mP N,cP N,.agg (cZ x)] e (rB false) e) (h2:du prog 127 [mP N,cP N,.agg (cZ x)] e (rB false) e) (h3:du prog 128 [mP N,cP N,.agg (cZ x)] e (rB false) e) (h4:du prog 129 [mP N,cP N,.agg (cZ x)] e (rB false) e) (h5:du prog 130 [mP N,cP N,.agg (cZ x)] e (rB false) e) (h:du prog 131 [mP N,cP N,.agg (cZ x),bp eI 1 inp] e (.bj []) l)
variable{m:MV}
theorem I0{N:NM}{e:List (Nat×Row)}(hR:bD p C m N e)(inp:List Int)(hn1:inp.length<=1000)(x:au)(hk:pz p C m x)(hx:2<=x.op/\x.op<=23):∃N' l,(bD p C (m.ins p C inp x) N' l/\N'.k=N.k)/\Up X e l/\rQ inp N x e l:=by
 have h1:=hk.calls;by_cases a:x.op=2\/x.op=3\/x.op=4\/x.op=5
 ·obtain⟨N',l,hT,hU,hp⟩:=Kz X hR inp x hk a;exact⟨N',l,⟨hT.1,hT.2.1⟩,hU,.a hp⟩
 have n1:=L8 hR h1 x a;by_cases b:x.op=7\/x.op=8\/x.op=9\/x.op=10
 ·obtain⟨N',l,hT,hU,hp⟩:=PN X hR inp x hk b;exact⟨N',l,⟨hT.1,hT.2.1⟩,hU,.b n1 hp⟩
 have n2:=OM hR h1 x b;by_cases c:x.op=6\/x.op=23\/x.op=11\/x.op=12\/x.op=13
 ·obtain⟨N',l,hT,hU,hp⟩:=JH X hR inp x hk c;exact⟨N',l,⟨hT.1,hT.2.1⟩,hU,.c n1 n2 hp⟩
 have n3:=Lz hR h1 x c;by_cases d:x.op=16\/x.op=17\/x.op=18\/x.op=19
 ·obtain⟨N',l,hT,hU,hp⟩:=Mm X hR inp x hk d;exact⟨N',l,⟨hT.1,hT.2.1⟩,hU,.d n1 n2 n3 hp⟩
 have n4:=Qj hR h1 x d;by_cases g:x.op=20\/x.op=21\/x.op=22
 ·obtain⟨N',l,hT,hU,hp⟩:=Rc X hR inp x hk g;exact⟨N',l,hT,hU,.e n1 n2 n3 n4 hp⟩
 have n5:=JL hR h1 x g;obtain⟨N',l,hT,hU,hp⟩:=J0 X hR inp x hk hn1 jB;exact⟨N',l,⟨hT.1,hT.2.1⟩,hU,.f n1 n2 n3 n4 n5 hp⟩
structure MS where
 m:MV
 N:NM
 e:List (Nat×Row)
structure Round(p:ab)(C:aE)(inp:List Int)(X:List Nat)(a b:MS):Prop where
 rep:bD p C a.m a.N a.e
 st:a.m.status=0
 op:(a.m.bg C).op≠1
 calls:1<=a.m.calls.length
 a0:0<=a.m.af.at_
 a1:a.m.af.at_<C.ins.length
 up:Up X a.e b.e
 k:b.N.k=a.N.k
 bT:rQ inp a.N (a.m.bg C) (br a.e (hn 0 a.N.af.c) (.var 137 (MV.cE (a.m.af.jump (a.m.af.at_+1)) a.N.af))) b.e
 ok:eF 0 b.e
variable{inp:List Int}
theorem Nx{N:NM}{e:List (Nat×Row)}(hR:bD p C m N e)(hb:Bd inp.length m)(hn1:inp.length<=1000)(hC:C.entry.length<=1000)(hP:p.size.length<=1000)(h0:m.status=0)(h1:(m.bg C).op≠1)(hok:m.cJ p C):∃N' e',Round p C inp X ⟨m,N,e⟩ ⟨m.one p C inp,N',e'⟩/\bD p C (m.one p C inp) N' e'/\Bd inp.length (m.one p C inp):=by have hcl:=hok.calls;have hx:=Jc hb hn1 hok hC hP;have hT:=hR.af hcl;have hR1:=hR.jS hcl (c':=m.af.jump (m.af.at_+1)) rfl rfl;have hU1:Up X e (br e (hn 0 N.af.c) (.var 137 (MV.cE (m.af.jump (m.af.at_+1)) N.af))):=Up.put _ (.inl (by rw[hT.var];simp));obtain⟨N',l,hT2,hU2,hd⟩:=I0 X hR1 inp hn1 (m.bg C) hx (by have:=hok.op;omega);have hb1:Bd inp.length (m.aQ (m.af.jump (m.af.at_+1))):=hb.aQ (hb.af hcl);exact⟨N',l,⟨hR,h0,h1,hcl,hok.a0,hok.a1,hU1.trans hU2,hT2.2,hd,hT2.1.ok⟩,hT2.1,Mw hb1 hx⟩
theorem Qr(hn1:inp.length<=1000)(hC:C.entry.length<=1000)(hP:p.size.length<=1000){n:Nat}{m':MV}(hg:ig p C inp n m m'):∀{N:NM} {e:List (Nat×Row)},bD p C m N e->Bd inp.length m->∃f:Nat->MS,f 0=⟨m,N,e⟩/\(∀i,i<n->Round p C inp X (f i) (f (i+1)))/\(f n).m=m'/\bD p C m' (f n).N (f n).e/\Bd inp.length m':=by
 induction hg with
 |refl m=>intro N e hR hb;exact⟨fun _=>⟨m,N,e⟩,rfl,fun i hi=>jB,rfl,hR,hb⟩
 |@step n m m' h0 h1 hok _ ih=>
  intro N e hR hb;obtain⟨N1,e1,hr,hR1,hb1⟩:=Nx X hR hb hn1 hC hP h0 h1 hok;obtain⟨f,f0,f1,f2,f3,f4⟩:=ih hR1 hb1;refine⟨fun i=>match i with|0=>⟨m,N,e⟩|i+1=>f i,rfl,fun i hi=>?_,f2,f3,f4⟩;match i with
  |0=>show Round p C inp X ⟨m,N,e⟩ (f 0);rw[f0];exact hr
  |i+1=>exact f1 i jB
theorem El{m':MV}{N:NM}{e:List (Nat×Row)}(hR:bD p C m N e)(hb:Bd inp.length m)(hn1:inp.length<=1000)(hC:C.entry.length<=1000)(hP:p.size.length<=1000)(hI:C.ins.length<=1000000)(hg:aS p C inp m m')(hst:m'.ld C)(hat:m'.status=0->1<=m'.calls.length/\0<=m'.af.at_/\m'.af.at_<C.ins.length) :
  kv prog 73 [mP N,bp eI 1 inp] e X (.bj []) (fun N' l=>bD p C m' N' l/\N'.k=N.k/\Bd inp.length m'):=by
 obtain⟨n,hg⟩:=hg;obtain⟨f,f0,f1,f2,f3,f4⟩:=Qr X hn1 hC hP hg hR hb;have hk:∀i,i<=n->(f i).N.k=N.k/\Up X e (f i).e/\eF 0 (f i).e:=fun i=>by
  induction i with
  |zero=>intro _;rw[f0];exact⟨rfl,Up.refl _ _,hR.ok⟩
  |succ i ih=> intro hi;obtain⟨a,b,c⟩:=ih jB;have:=f1 i jB;exact⟨this.k.trans a,b.trans this.up,this.ok⟩
 obtain⟨k1,k2,k3⟩:=hk n jl;refine⟨(f n).N,(f n).e,⟨f3,k1,f4⟩,k2,⟨?_,hR.ok,k3,k2.aY,oI hR rfl⟩⟩;refine aT (L:=ids e) func73 ntmps73 ?_ (hL:=rfl);generalize hB:ids e=B;refine fk ?_
 (repeat' (first|refine aB fun K hK=>?_|refine aC ?_|(refine hK _ _ ?_;clear hK K)|(refine aA ?_ ?_<;>intro hc<;>try exact jz)|refine aD ?_|exact jI|(clear hK K)))
 refine fi (S:=Nat) [(4,68)] (fun i=>i<=n) (fun i=>[]) (fun i=>⟨B,tie (f i).e []⟩) (fun i=>n-i) 0 jB (fj (by rw[f0]) cQ) ?_;rintro i hi Kr hKr;by_cases hlt:i<n
 ·have hr:=f1 i hlt;have hkk:=hk i hi;obtain⟨q1,q2,q3⟩:=hk (i+1) hlt;obtain⟨r1,r2,r3,r4,r5,r6,r7,r8,r9,r10⟩:=hr;generalize hb':f (i+1)=b at*;generalize f i=a at*;obtain⟨am,aN,ae⟩:=a;obtain⟨bm,bN,be⟩:=b;simp only at*;have eM:mP aN=mP N:=by unfold mP;rw[hkk.1]
  have ht:=uu r1 r4;rw[eM]at ht;have hT:=r1.af r4;have hlo:=r1.ok.low;have hroot:=r1.root;rw[hkk.1]at hroot;have hlo3:=r10.low;have hlo2:∀i,i<1000->av (br ae (hn 0 aN.af.c) (.var 137 (MV.cE (am.af.jump (am.af.at_+1)) aN.af))) i=none:=fun i hi=>by rw[bM,if_neg (by have:=iw 0 aN.af.c;omega)];exact hlo i hi
  have hx:nth C.ins am.af.at_.toNat=am.bg C:=rfl;have hxo:=r3;generalize am.bg C=x at*
  (refine S ?_;try exact jI)
  rcases r9 with h|⟨h1,h⟩|⟨h1,h2,h⟩|⟨h1,h2,h3,h⟩|⟨h1,h2,h3,h4,h⟩|⟨h1,h2,h3,h4,h5,h⟩
  all_goals
   simp only[eM]at*
   (have W:=jA hlo (jA hlo2 (jA hlo3 (jA hroot (jA hT.var (jA r2 (hx))))));repeat' (first|(with_reducible refine gR 5 ?_);refine sS [43,50,57,64] ?_|refine aB fun K hK=>?_|refine aC ?_|(with_reducible refine gR 2 ?_);refine dE 2 [0,1,2,3,4,5,6,7,8,9,10,11,12] mixed ?_|(refine hK _ _ ?_;clear hK K)|(refine aA ?_ ?_<;>intro hc<;>try exact jz)|refine kj 9 ?_|refine cT ht ?_|refine cT h ?_|refine cT h1 ?_|refine cT h2 ?_|refine cT h3 ?_|refine cT h4 ?_|refine cT h5 ?_|refine aD ?_|exact jI|(clear hK K)));all_goals(try clear W)
  all_goals exact hKr _ _ (Da hB hR.ok r10 (eO jC er) (i+1) jB (by show n-(i+1)<n-i;omega) (by show _=Hp.mk B (tie (f (i+1)).e []);rw[hb']) ki)
 ·have hin:i=n:=jB;subst hin;have ht0:(f i).m=m':=f2;generalize f i=a at*;obtain⟨am,aN,ae⟩:=a;simp only at*;subst ht0;have eM:mP aN=mP N:=by unfold mP;rw[k1]
  have hlo:=f3.ok.low;have hroot:=f3.root;rw[k1]at hroot;by_cases h0:am.status=0
  ·obtain⟨r4,r5,r6⟩:=hat h0;have hop:(am.bg C).op=1:=by
    rcases hst with h|h
    ·exact(h h0).elim
    ·exact h
   have ht:=uu f3 r4;rw[eM]at ht;have hT:=f3.af r4;have hx:nth C.ins am.af.at_.toNat=am.bg C:=rfl;generalize am.bg C=x at*
   (refine S ?_;try exact jI)
   (have W:=jA hlo (jA hroot (jA hT.var (jA h0 (hx))));repeat' (first|refine aB fun K hK=>?_|refine aC ?_|(with_reducible refine gR 2 ?_);refine dE 2 [0,1,2,3,4,5,6,7,8,9,10,11,12] mixed ?_|(refine hK _ _ ?_;clear hK K)|(refine aA ?_ ?_<;>intro hc<;>try exact jz)|refine kj 9 ?_|refine cT ht ?_|refine aD ?_|exact jI|(clear hK K)));all_goals(try clear W)
   exact fp hB hR.ok f3.ok (fun _=>rfl) (eO jC er) []
  ·(refine S ?_;try exact jI)
   (have W:=jA hlo hroot;repeat' (first|refine aB fun K hK=>?_|refine aC ?_|(refine hK _ _ ?_;clear hK K)|(refine aA ?_ ?_<;>intro hc<;>try exact jz)|refine aD ?_|exact jI|(clear hK K)));all_goals(try clear W)
   exact fp hB hR.ok f3.ok (tl:=[]) (fun _=>rfl) er []
end
end Go.Proofs.YtfkgcobaheegbaaGreatDoor
