/- Lemmas. No conditions. -/
import Derived.Test.YtfkgcobaheegbaaGreatDoorRpQ
import Derived.Test.YtfkgcobaheegbaaGreatDoorViX
import Derived.Test.YtfkgcobaheegbaaGreatDoorSoL
set_option linter.all false
set_option maxHeartbeats 4000000
set_option maxRecDepth 10000
namespace Go.Proofs.YtfkgcobaheegbaaGreatDoor
open Go Go.Gd Tryz
structure so(s:lh):Prop where
 calls:s.calls.length<=8
 heap:s.heap.length<=40
 out:s.ax.length<=24
 sl:∀k,k<s.calls.length->(nth s.calls k).slots.length<=24
 hp:∀k,k<s.heap.length->(nth s.heap k).length<=40
theorem Oo(a b:List (List Int))(h1:a.length<=40)(h2:∀k,k<a.length->(nth a k).length<=40):eG prog 78 [bp nR 1 a,bp nR 1 b] (rB (decide (a=b))):=by
 have no:∀{q:Prop},¬q->(a=b->q)->rB false=rB (decide (a=b)):=fun h1 h2=>by rw[decide_eq_false fun h=>h1 (h2 h)]
 refine fm func78 ntmps78 ?_
 (repeat' (first|refine aB fun K hK=>?_|refine aC ?_|(refine hK _ _ ?_;clear hK K)|(refine aA ?_ ?_<;>intro hc<;>try exact jz)|refine aD ?_|exact jI|(clear hK K)))
 ·(refine bH [.tmp 4] ?_;try simp only[go_sem])
  exact(no (fun h=>h) fun e=>by subst e;revert hc;simp)
 have q6:a.length=b.length:=by revert hc;simp only[Classical.not_not,Int.natCast_inj];exact id
 clear hc;have hKo:=hK;clear hK;refine fi (S:=Nat) [(4,3),(12,17)] (fun k=>k<=a.length/\∀j,j<k->nth a j=nth b j) (fun k=>[(5,rI k)]) (fun k=>⟨[],[]⟩) (fun k=>a.length-k) 0 ⟨jB,fun j h=>jB⟩ (fj rfl cQ) ?_;rintro k ⟨hk1,hk2⟩ Kr hKr;by_cases hk:k<a.length
 ·have hin:=JV (nth a k) (nth b k) (by have:=h2 k hk;omega)
  (refine S ?_;try exact jI)
  (repeat' (first|refine aB fun K hK=>?_|refine aC ?_|(with_reducible refine gR 6 ?_);refine dE 6 [0,1,2,3,4,5,6,7,8,9] mixed ?_|(refine hK _ _ ?_;clear hK K)|(refine aA ?_ ?_<;>intro hc<;>try exact jz)|refine cp (hin) ?_|refine aD ?_|exact jI|(clear hK K)))
  ·(refine bH [.tmp 4] ?_;try simp only[go_sem])
   exact no hc (fun e=>by rw[e])
  ·refine hKr _ _ (fw (k+1) ⟨jB,fun j hj=>?_⟩ jJ rfl cQ);by_cases h:j<k
   ·exact hk2 j h
   ·rw[show j=k from jB];exact hc
 have e4:a=b:=wq q6 fun j hj=>hk2 j jB
 have hke:k=a.length:=jB;subst hke
 (refine S ?_;try exact jI)
 (repeat' (first|refine aB fun K hK=>?_|refine aC ?_|(refine hK _ _ ?_;clear hK K)|(refine aA ?_ ?_<;>intro hc<;>try exact jz)|refine hKo _ _ ?_|refine aD ?_|exact jI|(clear hK K)))
 (refine bH [.tmp 4] ?_;try simp only[go_sem])
 rw[decide_eq_true e4]
theorem LJ(a b:lh)(hf:so a):eG prog 37 [.agg (iQ a),.agg (iQ b)] (rB (decide (a=b))):=by
 have h1:=hf.calls;have h2:=hf.heap;have h3:=hf.out;have hhp:=Oo a.heap b.heap h2 hf.hp;have no:∀{q:Prop},¬q->(a=b->q)->rB false=rB (decide (a=b)):=fun h1 h2=>by rw[decide_eq_false fun h=>h1 (h2 h)]
 refine fm func37 ntmps37 ?_
 (repeat' (first|refine aB fun K hK=>?_|refine aC ?_|(refine hK _ _ ?_;clear hK K)|(refine aA ?_ ?_<;>intro hc<;>try exact jz)|refine fa 0 ?_|refine fa 1 ?_|refine cp (hhp) ?_|refine aD ?_|exact jI|(clear hK K)))
 ·(refine bH [.tmp 4] ?_;try simp only[go_sem])
  exact(no (fun h=>h) fun e=>by subst e;revert hc;simp)
 have hln:(((((a.heap=b.heap/\a.in_=b.in_)/\a.status=b.status)/\a.aZ=b.aZ)/\a.time=b.time)/\a.calls.length=b.calls.length)/\a.ax.length=b.ax.length:=by revert hc;simp only[Classical.not_not,not_or,Int.natCast_inj];exact id
 obtain⟨⟨⟨⟨⟨⟨q0,q1⟩,q2⟩,q3⟩,q4⟩,q5⟩,q7⟩:=hln;clear hc;have hKo:=hK;clear hK;refine fi (S:=Nat) [(4,1),(6,1),(64,18)] (fun k=>k<=a.ax.length/\∀j,j<k->nth a.ax j=nth b.ax j) (fun k=>[(6,rI k)]) (fun k=>⟨[],[(0,.var 72 (iQ a)),(1,.var 72 (iQ b))]⟩) (fun k=>a.ax.length-k) 0 ⟨jB,fun j h=>jB⟩ (fj rfl cQ) ?_;rintro k ⟨hk1,hk2⟩ Kr hKr;by_cases hk:k<a.ax.length
 ·(refine S ?_;try exact jI)
  (repeat' (first|refine aB fun K hK=>?_|refine aC ?_|(with_reducible refine gR 7 ?_);refine dE 7 [0,1,2,3,4,5,6,7,8,9,10] mixed ?_|(refine hK _ _ ?_;clear hK K)|(refine aA ?_ ?_<;>intro hc<;>try exact jz)|refine aD ?_|exact jI|(clear hK K)))
  ·(refine bH [.tmp 4] ?_;try simp only[go_sem])
   exact no hc (fun e=>by rw[e])
  ·refine hKr _ _ (fw (k+1) ⟨jB,fun j hj=>?_⟩ jJ jD cQ);by_cases h:j<k
   ·exact hk2 j h
   ·rw[show j=k from jB];exact hc
 have e3:a.ax=b.ax:=wq q7 fun j hj=>hk2 j jB
 have hke:k=a.ax.length:=jB;subst hke
 (refine S ?_;try exact jI)
 (repeat' (first|refine aB fun K hK=>?_|refine aC ?_|(refine hK _ _ ?_;clear hK K)|(refine aA ?_ ?_<;>intro hc<;>try exact jz)|refine hKo _ _ ?_|refine aD ?_|exact jI|(clear hK K)))
 have hKo:=hK;clear hK;refine fi (S:=Nat) [(4,1),(7,4),(82,56)] (fun k=>k<=a.calls.length/\∀j,j<k->nth a.calls j=nth b.calls j) (fun k=>[(7,rI k)]) (fun k=>⟨[],[(0,.var 72 (iQ a)),(1,.var 72 (iQ b))]⟩) (fun k=>a.calls.length-k) 0 ⟨jB,fun j h=>jB⟩ (fj rfl cQ) ?_;rintro k ⟨hk1,hk2⟩ Kr hKr;by_cases hk:k<a.calls.length
 rotate_left
 ·have e5:a.calls=b.calls:=wq q5 fun j hj=>hk2 j jB
  have hke:k=a.calls.length:=jB;subst hke
  (refine S ?_;try exact jI)
  (repeat' (first|refine aB fun K hK=>?_|refine aC ?_|(refine hK _ _ ?_;clear hK K)|(refine aA ?_ ?_<;>intro hc<;>try exact jz)|refine hKo _ _ ?_|refine aD ?_|exact jI|(clear hK K)))
  (refine bH [.tmp 4] ?_;try simp only[go_sem])
  rw[decide_eq_true];cases a;cases b;simp_all
 have g1:=hf.sl k hk;generalize hx:nth a.calls k=x at*;generalize hy:nth b.calls k=y at*
 (refine S ?_;try exact jI)
 (have W:=jA hx hy;repeat' (first|refine aB fun K hK=>?_|refine aC ?_|(refine hK _ _ ?_;clear hK K)|(refine aA ?_ ?_<;>intro hc<;>try exact jz)|refine al 2 ?_|refine al 3 ?_|refine aD ?_|exact jI|(clear hK K)));all_goals(try clear W)
 ·(refine bH [.tmp 4] ?_;try simp only[go_sem])
  exact no (fun h=>h) fun e=>by rw[e,hy]at hx;subst hx;revert hc;simp
 have hln:(x.fn=y.fn/\x.node=y.node)/\x.slots.length=y.slots.length:=by revert hc;simp only[Classical.not_not,not_or,Int.natCast_inj];exact id
 obtain⟨⟨r1,r2⟩,r3⟩:=hln;clear hc;have hKb:=hK;clear hK;refine fi (S:=Nat) [(4,1),(10,1),(120,18)] (fun i=>i<=x.slots.length/\∀j,j<i->nth x.slots j=nth y.slots j) (fun i=>[(10,rI i)]) (fun i=>⟨[],[(0,.var 72 (iQ a)),(1,.var 72 (iQ b)),(2,.var 77 (mo x)),(3,.var 77 (mo y))]⟩) (fun i=>x.slots.length-i) 0 ⟨jB,fun j h=>jB⟩ (fj rfl cQ) ?_;rintro i ⟨hi1,hi2⟩ Ks hKs;by_cases hi:i<x.slots.length
 ·(refine S ?_;try exact jI)
  (repeat' (first|refine aB fun K hK=>?_|refine aC ?_|(with_reducible refine gR 19 ?_);refine dE 19 [0,1,2,3,4,5,6,7,8,9,10] mixed ?_|(refine hK _ _ ?_;clear hK K)|(refine aA ?_ ?_<;>intro hc<;>try exact jz)|refine aD ?_|exact jI|(clear hK K)))
  ·(refine bH [.tmp 4] ?_;try simp only[go_sem])
   exact no hc (fun e=>by rw[<-hx,<-hy,e])
  ·refine hKs _ _ (fw (i+1) ⟨jB,fun j hj=>?_⟩ jJ jD cQ);by_cases h:j<i
   ·exact hi2 j h
   ·rw[show j=i from jB];exact hc
 have e6:x.slots=y.slots:=wq r3 fun j hj=>hi2 j jB
 have hie:i=x.slots.length:=jB;subst hie
 (refine S ?_;try exact jI)
 (repeat' (first|refine aB fun K hK=>?_|refine aC ?_|(refine hK _ _ ?_;clear hK K)|(refine aA ?_ ?_<;>intro hc<;>try exact jz)|refine hKb _ _ ?_|refine aD ?_|exact jI|(clear hK K)))
 refine hKr _ _ (zp [2,3] (k+1) ⟨jB,fun j hj=>?_⟩ jJ rfl Sd (by simp only[go_sem];(try rfl)) ki);by_cases h:j<k
 ·exact hk2 j h
 ·rw[show j=k from jB,hx,hy];cases x;cases y;simp_all
end Go.Proofs.YtfkgcobaheegbaaGreatDoor
namespace Go.Proofs.YtfkgcobaheegbaaGreatDoor
open Go Go.Gd Tryz Go.Gd.MV
structure ja(p:ab)(inp:List Int)(n:Nat)(s:aJ):Prop where
 ec:lA p n s
 wt:ee p (RS.of s)
 q:vC inp s
variable{p:ab}
theorem Cc(hw:iW p)(inp:List Int):ja p inp 0 (ot p):=by refine⟨FN hw.ok,?_,Ac hw.ok inp⟩;rw[FM];exact ee.st (sM ((gO p).left+1) (gO p) (th hw.ok).inv jB).1.ok.nf (ee.settle hw _ (th hw.ok).inv (Eg hw))
variable{s:aJ}
theorem zh(hw:iW p){inp:List Int}(hn:inp.length<=1000)(hi:∀x∈inp,cY x){n:Nat}(h:ja p inp n s):ja p inp (n+1) (dn p s inp):=
 ⟨Hg hw.ok h.ec hn hi,Qx hw h.ec.inv h.wt hn,(DO hw.ok h.ec hn h.q).1⟩
variable{C:aE}
theorem QN(hs:dx p)(hC:di p C){f:aI}{c:MC}(hT:qE p C f c)(hf:dr p f)(hb:mI p f):0<=c.mark/\c.mark<C.ins.length/\nth C.ins c.mark.toNat=iI 1 (ci p f):=by obtain⟨n,k,hS,hpos,_⟩:=hT.pos;obtain⟨l1,l2,l3,l4⟩:=zu hs hC hf.f0 hf.f1 hS _ _ (kP hb.1);have hX:=hf.pl _ (mD hb.1);have ha0:=hX.a0;have hb2:=hb.2;have hi:f.pl.at_.toNat<(dD p f.pl.block).length:=jB;have hm:ci p f∈dD p f.pl.block:=dT hi;obtain⟨k0,k1,k2,k3⟩:=hX.ay hs hf.f0 hf.f1 hm;obtain⟨n',rfl⟩:∃n',n=n'+1:=⟨n-1,jB⟩;have hl:=y8 l1 hi;rw[wO]at hl;have hh:=hl.head;have hpos:c.mark=((mT (gN p (n'+1)) k (dD p f.pl.block) f.pl.at_.toNat:Nat):Int):=hpos;rw[hpos,Int.toNat_natCast];exact⟨jB,by have:=hh.1;omega,by rw[hh.2.1];rfl⟩
theorem Dq(hs:dx p)(hC:di p C){m:MV}(hI:cI p s)(h:mY p C s m)(h2:s.status=2->s.aq.length=0):m.calls.length=s.aq.length/\∀k,k<m.calls.length->(0<=m.fJ k/\m.fJ k<C.ins.length)/\m.spot C k=ww p (nth s.aq k):=by
 have hlen:m.calls.length=s.aq.length:=h.eZ.len;refine⟨hlen,fun k hk=>?_⟩;have hst:s.status≠2:=fun e=>by have:=h2 e;omega
 have h1:1<=(RS.of s).nf:=hI.inv.go hst;have hnf:(RS.of s).nf=s.aq.length:=rfl;unfold MV.spot MV.fJ;by_cases hla:(k:Int)=(m.calls.length:Int)-1
 ·rw[if_pos hla];have ek:k=m.calls.length-1:=jB;have et:nth m.calls k=m.af:=by rw[ek];rfl
  have ef:nth s.aq k=(RS.of s).ah:=by rw[ek,hlen];rfl
  obtain⟨a0,a1,a2⟩:=h.at_ hst;have hT:=h.eZ.af h1;rw[et,ef];refine⟨⟨a0,a1⟩,?_⟩;rw[a2,hT.fn,hT.slots];rfl
 ·rw[if_neg hla];have hk1:k+1<(RS.of s).nf:=jB;have hL:=h.eZ.low k hk1;obtain⟨a0,a1,a2⟩:=QN hs hC hL (hI.inv.fr k jB) (hI.inv.busy k hk1);refine⟨⟨a0,a1⟩,?_⟩;rw[a2,hL.fn,hL.slots];rfl
theorem yd(hs:dx p)(hC:di p C){m:MV}(hI:cI p s)(h:mY p C s m)(h2:s.status=2->s.aq.length=0):m.qZ C=fH p s:=by
 obtain⟨hlen,hsel⟩:=Dq hs hC hI h h2;unfold MV.qZ fH;have e1:(List.range m.calls.length).map (m.spot C)=s.aq.map (ww p):=by
  apply List.ext_getElem
  ·simp[hlen]
  ·intro i h1 h2;simp only[List.getElem_map,List.getElem_range];rw[(hsel i (by simpa using h1)).2,dN (by simpa using h2)]
 have a:=h.eZ.heap;have b:=h.eZ.in_;have c:=h.eZ.ax;have d:=h.eZ.status;rw[e1,a,b,c,d,h.aZ,h.time];rfl
theorem yQ(hs:dx p)(hC:di p C){m:MV}(hI:cI p s)(h:mY p C s m)(h2:s.status=2->s.aq.length=0):vU C m:=by obtain⟨hlen,hsel⟩:=Dq hs hC hI h h2;have hf:=hI.fits hs;have h8:=hf.aK;refine⟨jB,fun k hk=>(hsel k hk).1,fun k hk=>?_,by rw[h.eZ.heap];exact hI.cells,by rw[h.eZ.ax];exact hI.outs,hC.qG⟩;have e:=(hsel k hk).2;have es:(nth m.calls k).slots=(nth s.aq k).slots:=congrArg kW.slots e;rw[es];exact(hf.fr k jB).1
end Go.Proofs.YtfkgcobaheegbaaGreatDoor
namespace Go.Gd
open Go
def qs(s:ByteArray):ByteArray:=if 700<s.size then s.extract 0 700 else s
theorem KA(s:ByteArray):(qs s).size<=1000000:=by
 unfold qs;split
 ·rw[ByteArray.size_extract];omega
 ·omega
def cU(l:List Int):List Int:=l.take 20
theorem IS(l:List Int):(cU l).length<=20:=by unfold cU;simp;omega
theorem Rb{l:List Int}(h:∀x∈l,cY x):∀x∈cU l,cY x:=fun x hx=>h x (List.mem_of_mem_take hx)
theorem GF{P:Program}{f:FuncId}{args:List AV}{B:List Nat}{l tl:List (Nat×Row)}{K:AV->Hp->Prop}{r0:AV}{q:Prop}(hc:aj P f args [] fun r l'=>r=r0/\l'=l)(h2:eF 0 l)(k:q)(ha:aW dY args=true:=by rfl)(h0:bz P f=true:=by exact dj)(hl:nF 0 tl:=by(repeat' first|exact er|(refine eO (by decide) ?_)|fail))(e0:K r0 ⟨B,tie l tl⟩=q:=by exact eJ):fI P (.raw (.func (.func f) #[] #[])) args ⟨B,tl⟩ K:=
 cG (e:=[]) (e':=l) (lo:=0) hc rfl ⟨fun _ _ _=>rfl,List.nodup_nil,fun i r h=>by cases h⟩ h2 (fun i h=>(h rfl).elim) hl (fh (fun _ h=>by cases h) _ ha) h0 (e0 ▸ k)
end Go.Gd
namespace Go.Proofs.YtfkgcobaheegbaaGreatDoor
open Go Go.Gd Tryz Go.Gd.MV
theorem HG(s:ByteArray):eG prog 33 [rS s] (rS (qs s)):=by
 refine fm func33 ntmps33 ?_
 (repeat' (first|refine aB fun K hK=>?_|refine aC ?_|(refine hK _ _ ?_;clear hK K)|(refine aA ?_ ?_<;>intro hc<;>try exact jz)|refine aD ?_|exact jI|(clear hK K)))
 ·(refine bH [.tmp 2] ?_;try simp only[go_sem])
  unfold qs;rw[jP]
 ·(refine bH [.tmp 2] ?_;try simp only[go_sem])
  unfold qs;rw[jN]
theorem Ku(l:List Int):eG prog 34 [bp eI 1 l] (bp eI 1 (cU l)):=by
 refine fm func34 ntmps34 ?_
 (repeat' (first|refine aB fun K hK=>?_|refine aC ?_|(refine hK _ _ ?_;clear hK K)|(refine aA ?_ ?_<;>intro hc<;>try exact jz)|refine aD ?_|exact jI|(clear hK K)))
 ·(refine bH [.tmp 2] ?_;try simp only[go_sem])
  rfl
 ·(refine bH [.tmp 2] ?_;try simp only[go_sem])
  rw[show cU l=l from List.take_of_length_le jB]
theorem Pf{a:Int}(m:Nat)(hm:0<m)(h:0<=a/\a<256):∃n:Nat,n<m/\a.tmod m=(n:Int):=by refine⟨(a.tmod m).toNat,?_,?_⟩<;>(rw[Int.tmod_eq_emod_of_nonneg h.1];have:=Int.emod_nonneg a (b:=m) jB;have:=Int.emod_lt_of_pos a (b:=(m:Int)) jB;omega)
theorem Pn{p:ab}(hs:dx p){s:aJ}(h:cI p s):so (fH p s):=by
 have hf:=h.fits hs;have hl:(fH p s).calls.length=s.aq.length:=by show(s.aq.map _).length=_;simp
 refine⟨by rw[hl];exact hf.aK,hf.heap,hf.out,fun k hk=>?_,hf.hp⟩;rw[hl]at hk;have:nth (fH p s).calls k=ww p (nth s.aq k):=by show nth (s.aq.map (ww p)) k=_;rw[dN (by simpa using hk),dN hk];simp
 rw[this];exact(hf.fr k hk).1
theorem zV{p:ab}(hw:iW p){inp:List Int}(hn:inp.length<=1000)(hi:∀x∈inp,cY x){n:Nat}(hnn:n<=100000){s:aJ}(hv:ja p inp n s){m:MV}{N:NM}{e:List (Nat×Row)}(hR:bD p (gU p) m N e)(hS:mY p (gU p) s m)(hb:Bd inp.length m)(X:List Nat) :
  ∃m',mY p (gU p) (dn p s inp) m'/\Bd inp.length m'/\kv prog 40 [mP N,bp eI 1 inp] e X (.bj []) (fun N' l=>bD p (gU p) m' N' l/\N'.k=N.k):=by
 have hms:=hS.eZ.status;by_cases h2:s.status=2\/s.status=3
 ·have e1:dn p s inp=s:=by unfold dn;rw[if_pos (by unfold dK;rw[if_pos h2];decide)]
  rw[e1];refine⟨m,hS,hb,N,e,⟨hR,rfl⟩,Up.refl _ _,Lc hR inp ?_⟩;have:m.status=s.status:=hms;omega
 ·have hs:=hw.ok;have hC:=o0 hs;obtain⟨m1,hg,hst,hS1⟩:=OG hw hC hv.ec.inv hv.wt hv.ec.cY hv.q hn h2 hS;have hv1:=zh hw hn hi hv;obtain⟨a0,a1,_⟩:=hS.at_ (fun e=>h2 (.inl e));have hcl:=hC.len;have hfs:=hs.ok.aa.ao;have hsz:=hs.ok.size;have hbig:=hC.qG;have hlen:m.calls.length=s.aq.length:=hS.eZ.len;have h1:1<=s.aq.length:=hv.ec.inv.inv.go (fun e=>h2 (.inl e));have hlen1:m1.calls.length=(dn p s inp).aq.length:=hS1.eZ.len;have hst1:m1.status=(dn p s inp).status:=hS1.eZ.status;have ht:=hS.time;have ht0:=hv.ec.t0;have ht1:=hv.ec.t1;have ht2:=hv1.ec.t0;have ht3:=hv1.ec.t1;have htm:(if m1.status=1 then m1.time else m1.time+1)=(dn p s inp).time:=hS1.time;obtain⟨N',l,⟨hR',hk',hb'⟩,hU,hp⟩:=Oh X hR jB hb hn jB jB hbig (by have:m.status=s.status:=hms;omega) ⟨a0,jB⟩ jB hg hst (fun e0=>by
   have h02:(dn p s inp).status≠2:=jB;have h3:1<=(dn p s inp).aq.length:=hv1.ec.inv.inv.go h02;obtain⟨b0,b1,_⟩:=hS1.at_ h02;exact⟨jB,b0,b1⟩) (by split at htm<;>omega)
  exact⟨_,hS1,hb',N',l,⟨hR',hk'⟩,hU,hp⟩
theorem Fo{p:ab}(hw:iW p)(hp:j4 p)(X:List Nat)(inp:List Int):∃m N l,bD p (gU p) m N l/\(∀i,av l i≠none->i ∉ X)/\mY p (gU p) (ot p) m/\Bd inp.length m/\aj prog 35 [.agg (gp p)] [] (fun r l'=>r=mP N/\l'=l):=by
 have hC:=o0 hw.ok;obtain⟨m1,hg,hst,hS⟩:=Pq (inp:=[]) hw hC;have hv:=Cc hw [];have hlen:m1.calls.length=(ot p).aq.length:=hS.eZ.len;have hst1:m1.status=(ot p).status:=hS.eZ.status;obtain⟨N,l,hR,hX,hb,hc⟩:=OT hp X hg hst (fun e0=>by have h02:(ot p).status≠2:=jB;have h3:1<=(ot p).aq.length:=hv.ec.inv.inv.go h02;obtain⟨b0,b1,_⟩:=hS.at_ h02;exact⟨jB,b0,b1⟩)
 exact⟨m1,N,l,hR,hX,hS,⟨hb.deep,hb.slots,hb.heap,hb.outs,hb.gK,by have:=hb.gw;omega⟩,hc⟩
end Go.Proofs.YtfkgcobaheegbaaGreatDoor
