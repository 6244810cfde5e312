/- Lemmas. No conditions. -/
import Derived.Test.YtbjookcdpondlaaGreatDoorRpQ
set_option linter.all false
set_option maxHeartbeats 4000000
set_option maxRecDepth 10000
namespace Go.Gd
open Go
def rM(s:SK):SK:=if 700<s.size then s.extract 0 700 else s
def NF(s:SK):(rM s).size<=1000000:=by
 unfold rM;split
 ·rw[ByteArray.size_extract];omega
 ·omega
def jO(l:SI):SI:=l.take 20
def Qt(l:SI):(jO l).length<=20:=by unfold jO;simp;omega
def PQ{l:SI}(h:∀x∈l,dr x):∀x∈jO l,dr x:=fun x hx=>h x (List.mem_of_mem_take hx)
def D8{P:SQ}{f:FuncId}{args:SG}{B:SJ}{l tl:SF}{K:SD}{r0:AV}{q:Prop}(hc:ai P f args [] fun r l'=>r=r0/\l'=l)(h2:gZ 0 l)(k:q)(ha:ba cZ args=true:=by rfl)(h0:bn P f=true:=by exact dT)(hl:oq 0 tl:=by(repeat' first|exact fg|(refine fk (by decide) ?_)|fail))(e0:K r0 ⟨B,tie l tl⟩=q:=by exact fq):fz P (.raw (.func (.func f) #[] #[])) args ⟨B,tl⟩ K:=
 cG (e:=[]) (e':=l) (lo:=0) hc rfl ⟨fun _ _ _=>rfl,List.nodup_nil,fun i r h=>by cases h⟩ h2 (fun i h=>(h rfl).elim) hl (fM (fun _ h=>by cases h) _ ha) h0 (e0 ▸ k)
end Go.Gd
namespace Go.Proofs.YtbjookcdpondlaaGreatDoor
open Go Go.Gd Tryz
structure sU(p:ab)(s:aM):Prop where
 pa:∀k,k<s.ap.length->1<=(nth s.ap k).path.length/\(nth s.ap k).path.length<=1000
 b:∀k,k<s.ap.length->0<=(nth s.ap k).pl.block/\(nth s.ap k).pl.block.toNat<p.aa.nodes.length
 at_:∀k,k<s.ap.length->0<=(nth s.ap k).pl.at_/\(nth s.ap k).pl.at_<(ao p (nth s.ap k).pl.block).l.length
def RC{p:ab}{s:aM}(h:sU p s)(hf:Fits s):aP prog 12 [.agg (bV p),.agg (dD s)] (.agg (jU (po p s))):=by
 have Uk:=hf.aw;refine df func12 ntmps12 ?_
 (repeat' (first|refine aA fun K hK=>?_|refine ax ?_|(with_reducible refine gR 7 ?_);refine dE 7 (bo 0 23) mixed ?_|(refine hK _ _ ?_;clear hK K)|(refine az ?_ ?_<;>intro hc<;>try exact jz)|refine bx 0 ?_|refine bx 1 ?_|refine al 2 ?_|refine al 3 ?_|refine ay ?_|exact jI|(clear hK K)))
 refine iJ (dJ.fB 4 3 0 54 3 rfl jC rfl rfl) ?_
 (refine S ?_;try exact jI)
 have Tc:=hK;clear hK;refine fa (S:=Nat) [(6,3),(22,42)] (fun k=>k<=s.ap.length) (fun k=>[(6,rI k)]) (fun k=>⟨[],[(0,.var 29 (bV p)),(1,.var 41 (dD s)),(2,.var 46 [.raw (.slice none 0 0),.raw (.slice none 0 0),rI 0,.raw (.slice none 0 0),rI 0,rI 0,rI 0]),(3,.var 46 [.rs 4 k 3 k,bh kg 1 s.heap,rI s.in_,bh eS 1 s.aC,rI s.status,rI s.bp,rI s.time]),(4,.aK 54 3 (((s.ap.take k).map (rY p)).map mo))]⟩) (fun k=>s.ap.length-k) 0 jB (fb rfl cI) ?_;rintro k hk Kr S8;have Vw:((s.ap.take k).map (rY p)).length=k:=by simp;omega
 by_cases SX:k<s.ap.length
 ·obtain⟨a1,a2⟩:=h.pa k SX;obtain⟨b1,b2⟩:=h.b k SX;obtain⟨c1,c2⟩:=h.at_ k SX;unfold aH.pl at b1 b2 c1 c2;unfold ao at c2;generalize hx:nth s.ap k=x at*;refine S ?_
  (have W:=jA Vw hx;repeat' (first|refine aA fun K hK=>?_|refine ax ?_|(with_reducible refine gR 7 ?_);refine dE 7 (bo 0 23) mixed ?_|(refine hK _ _ ?_;clear hK K)|(refine az ?_ ?_<;>intro hc<;>try exact jz)|refine al 5 ?_|refine al 6 ?_|refine Tc _ _ ?_|refine ay ?_|exact jI|(clear hK K)))
  refine S8 _ _ (x8 [5,6] (k+1) jB (by show s.ap.length-(k+1)<s.ap.length-k;omega) rfl Sd ?_ lU);show Hp.mk _ [_,_,_,_,(4,_)]=Hp.mk _ [_,_,_,_,(4,.aK _ _ (((s.ap.take (k+1)).map (rY p)).map mo))];rw[xM SX,List.map_append,List.map_append,hx];rfl
 ·have VV:k=s.ap.length:=jB;subst VV;rw[List.take_length]at Vw ⊢;refine S ?_
  (have W:=Vw;repeat' (first|refine aA fun K hK=>?_|refine ax ?_|(with_reducible refine gR 7 ?_);refine dE 7 (bo 0 23) mixed ?_|(refine hK _ _ ?_;clear hK K)|(refine az ?_ ?_<;>intro hc<;>try exact jz)|refine Tc _ _ ?_|refine ay ?_|exact jI|(clear hK K)))
  refine lW [.cell 4 46] ?_;refine bK.agg (ds:=jU (po p s)) ⟨dM.row ((s.ap).map (rY p)) rfl rfl jE,.same _ rfl,.same _ rfl,.same _ rfl,.same _ rfl,.same _ rfl,.same _ rfl,trivial⟩
structure tz(s:ld):Prop where
 calls:s.calls.length<=8
 heap:s.heap.length<=40
 out:s.aC.length<=24
 sl:∀k,k<s.calls.length->(nth s.calls k).slots.length<=24
 hp:∀k,k<s.heap.length->(nth s.heap k).length<=40
def QK(a b:SH)(h1:a.length<=40)(h2:∀k,k<a.length->(nth a k).length<=40):aP prog 24 [bh kg 1 a,bh kg 1 b] (rB (decide (a=b))):=by
 have no:∀{q:Prop},¬q->(a=b->q)->rB false=rB (decide (a=b)):=fun h1 h2=>by rw[decide_eq_false fun h=>h1 (h2 h)]
 refine df func24 ntmps24 ?_
 (repeat' (first|refine aA fun K hK=>?_|refine ax ?_|(refine hK _ _ ?_;clear hK K)|(refine az ?_ ?_<;>intro hc<;>try exact jz)|refine ay ?_|exact jI|(clear hK K)))
 ·(refine bG [.tmp 4] ?_;try simp only[go_sem])
  exact(no (fun h=>h) fun e=>by subst e;revert hc;simp)
 have q6:a.length=b.length:=by revert hc;simp only[Classical.not_not,Int.natCast_inj];exact id
 clear hc;have Tc:=hK;clear hK;refine fa (S:=Nat) [(4,3),(12,17)] (fun k=>k<=a.length/\∀j,j<k->nth a j=nth b j) (fun k=>[(5,rI k)]) (fun k=>⟨[],[]⟩) (fun k=>a.length-k) 0 ⟨jB,fun j h=>jB⟩ (fb rfl cI) ?_;rintro k ⟨Te,S5⟩ Kr S8;by_cases hk:k<a.length
 ·have TP:=Mx (nth a k) (nth b k) (by have:=h2 k hk;omega);refine S ?_
  (repeat' (first|refine aA fun K hK=>?_|refine ax ?_|(with_reducible refine gR 6 ?_);refine dE 6 (bo 0 10) mixed ?_|(refine hK _ _ ?_;clear hK K)|(refine az ?_ ?_<;>intro hc<;>try exact jz)|refine cp (TP) ?_|refine ay ?_|exact jI|(clear hK K)))
  ·(refine bG [.tmp 4] ?_;try simp only[go_sem])
   exact no hc (fun e=>by rw[e])
  ·refine S8 _ _ (fc (k+1) ⟨jB,fun j hj=>?_⟩ jJ rfl cI);by_cases h:j<k
   ·exact S5 j h
   ·rw[show j=k from jB];exact hc
 have e4:a=b:=wP q6 fun j hj=>S5 j jB
 have VV:k=a.length:=jB;subst VV;refine S ?_
 (repeat' (first|refine aA fun K hK=>?_|refine ax ?_|(refine hK _ _ ?_;clear hK K)|(refine az ?_ ?_<;>intro hc<;>try exact jz)|refine Tc _ _ ?_|refine ay ?_|exact jI|(clear hK K)))
 (refine bG [.tmp 4] ?_;try simp only[go_sem])
 rw[decide_eq_true e4]
def K5(a b:ld)(hf:tz a):aP prog 10 [.agg (jU a),.agg (jU b)] (rB (decide (a=b))):=by
 have h1:=hf.calls;have h2:=hf.heap;have h3:=hf.out;have hhp:=QK a.heap b.heap h2 hf.hp;have no:∀{q:Prop},¬q->(a=b->q)->rB false=rB (decide (a=b)):=fun h1 h2=>by rw[decide_eq_false fun h=>h1 (h2 h)]
 refine df func10 ntmps10 ?_
 (repeat' (first|refine aA fun K hK=>?_|refine ax ?_|(refine hK _ _ ?_;clear hK K)|(refine az ?_ ?_<;>intro hc<;>try exact jz)|refine cz 0 ?_|refine cz 1 ?_|refine cp (hhp) ?_|refine ay ?_|exact jI|(clear hK K)))
 ·(refine bG [.tmp 4] ?_;try simp only[go_sem])
  exact(no (fun h=>h) fun e=>by subst e;revert hc;simp)
 have WD:(((((a.heap=b.heap/\a.in_=b.in_)/\a.status=b.status)/\a.bp=b.bp)/\a.time=b.time)/\a.calls.length=b.calls.length)/\a.aC.length=b.aC.length:=by revert hc;simp only[Classical.not_not,not_or,Int.natCast_inj];exact id
 obtain⟨⟨⟨⟨⟨⟨q0,q1⟩,q2⟩,q3⟩,q4⟩,q5⟩,q7⟩:=WD;clear hc;have Tc:=hK;clear hK;refine fa (S:=Nat) [(4,1),(6,1),(64,18)] (fun k=>k<=a.aC.length/\∀j,j<k->nth a.aC j=nth b.aC j) (fun k=>[(6,rI k)]) (fun k=>⟨[],[(0,.var 46 (jU a)),(1,.var 46 (jU b))]⟩) (fun k=>a.aC.length-k) 0 ⟨jB,fun j h=>jB⟩ (fb rfl cI) ?_;rintro k ⟨Te,S5⟩ Kr S8;by_cases hk:k<a.aC.length
 ·(refine S ?_;try exact jI)
  (repeat' (first|refine aA fun K hK=>?_|refine ax ?_|(with_reducible refine gR 7 ?_);refine dE 7 (bo 0 11) mixed ?_|(refine hK _ _ ?_;clear hK K)|(refine az ?_ ?_<;>intro hc<;>try exact jz)|refine ay ?_|exact jI|(clear hK K)))
  ·(refine bG [.tmp 4] ?_;try simp only[go_sem])
   exact no hc (fun e=>by rw[e])
  ·refine S8 _ _ (fc (k+1) ⟨jB,fun j hj=>?_⟩ jJ jD cI);by_cases h:j<k
   ·exact S5 j h
   ·rw[show j=k from jB];exact hc
 have e3:a.aC=b.aC:=wP q7 fun j hj=>S5 j jB
 have VV:k=a.aC.length:=jB;subst VV;refine S ?_
 (repeat' (first|refine aA fun K hK=>?_|refine ax ?_|(refine hK _ _ ?_;clear hK K)|(refine az ?_ ?_<;>intro hc<;>try exact jz)|refine Tc _ _ ?_|refine ay ?_|exact jI|(clear hK K)))
 have Tc:=hK;clear hK;refine fa (S:=Nat) [(4,1),(7,4),(82,56)] (fun k=>k<=a.calls.length/\∀j,j<k->nth a.calls j=nth b.calls j) (fun k=>[(7,rI k)]) (fun k=>⟨[],[(0,.var 46 (jU a)),(1,.var 46 (jU b))]⟩) (fun k=>a.calls.length-k) 0 ⟨jB,fun j h=>jB⟩ (fb rfl cI) ?_;rintro k ⟨Te,S5⟩ Kr S8;by_cases hk:k<a.calls.length
 rotate_left
 ·have e5:a.calls=b.calls:=wP q5 fun j hj=>S5 j jB
  have VV:k=a.calls.length:=jB;subst VV;refine S ?_
  (repeat' (first|refine aA fun K hK=>?_|refine ax ?_|(refine hK _ _ ?_;clear hK K)|(refine az ?_ ?_<;>intro hc<;>try exact jz)|refine Tc _ _ ?_|refine ay ?_|exact jI|(clear hK K)))
  (refine bG [.tmp 4] ?_;try simp only[go_sem])
  rw[decide_eq_true];cases a;cases b;simp_all
 have g1:=hf.sl k hk;generalize hx:nth a.calls k=x at*;generalize hy:nth b.calls k=y at*;refine S ?_
 (have W:=jA hx hy;repeat' (first|refine aA fun K hK=>?_|refine ax ?_|(refine hK _ _ ?_;clear hK K)|(refine az ?_ ?_<;>intro hc<;>try exact jz)|refine al 2 ?_|refine al 3 ?_|refine ay ?_|exact jI|(clear hK K)))
 ·(refine bG [.tmp 4] ?_;try simp only[go_sem])
  exact no (fun h=>h) fun e=>by rw[e,hy]at hx;subst hx;revert hc;simp
 have WD:(x.fn=y.fn/\x.node=y.node)/\x.slots.length=y.slots.length:=by revert hc;simp only[Classical.not_not,not_or,Int.natCast_inj];exact id
 obtain⟨⟨r1,r2⟩,r3⟩:=WD;clear hc;have hKb:=hK;clear hK;refine fa (S:=Nat) [(4,1),(10,1),(120,18)] (fun i=>i<=x.slots.length/\∀j,j<i->nth x.slots j=nth y.slots j) (fun i=>[(10,rI i)]) (fun i=>⟨[],[(0,.var 46 (jU a)),(1,.var 46 (jU b)),(2,.var 54 (mo x)),(3,.var 54 (mo y))]⟩) (fun i=>x.slots.length-i) 0 ⟨jB,fun j h=>jB⟩ (fb rfl cI) ?_;rintro i ⟨VZ,Xq⟩ Ks Zz;by_cases hi:i<x.slots.length
 ·(refine S ?_;try exact jI)
  (repeat' (first|refine aA fun K hK=>?_|refine ax ?_|(with_reducible refine gR 19 ?_);refine dE 19 (bo 0 11) mixed ?_|(refine hK _ _ ?_;clear hK K)|(refine az ?_ ?_<;>intro hc<;>try exact jz)|refine ay ?_|exact jI|(clear hK K)))
  ·(refine bG [.tmp 4] ?_;try simp only[go_sem])
   exact no hc (fun e=>by rw[<-hx,<-hy,e])
  ·refine Zz _ _ (fc (i+1) ⟨jB,fun j hj=>?_⟩ jJ jD cI);by_cases h:j<i
   ·exact Xq j h
   ·rw[show j=i from jB];exact hc
 have e6:x.slots=y.slots:=wP r3 fun j hj=>Xq j jB
 have hie:i=x.slots.length:=jB;subst hie;refine S ?_
 (repeat' (first|refine aA fun K hK=>?_|refine ax ?_|(refine hK _ _ ?_;clear hK K)|(refine az ?_ ?_<;>intro hc<;>try exact jz)|refine hKb _ _ ?_|refine ay ?_|exact jI|(clear hK K)))
 refine S8 _ _ (x8 [2,3] (k+1) ⟨jB,fun j hj=>?_⟩ jJ rfl Sd (by simp only[go_sem];(try rfl)) lU);by_cases h:j<k
 ·exact S5 j h
 ·rw[show j=k from jB,hx,hy];cases x;cases y;simp_all
end Go.Proofs.YtbjookcdpondlaaGreatDoor
namespace Go.Proofs.YtbjookcdpondlaaGreatDoor
open Go Go.Gd Tryz Go.Gd.MV
structure oS(p:ab)(inp:List Int)(n:Nat)(s:aM):Prop where
 fC:lZ p n s
 wt:eN p (RS.of s)
 q:wu inp s
variable{p:ab}
def CP(hw:kf p)(inp:SI):oS p inp 0 (oe p):=by refine⟨Pq hw.ok,?_,Q5 hw.ok inp⟩;rw[CE];exact eN.st (qL ((gS p).left+1) (gS p) (un hw.ok).inv jB).1.ok.nf (eN.settle hw _ (un hw.ok).inv (EG hw))
variable{inp:SI}{s:aM}
def BH(hw:kf p)(hn:inp.length<=1000)(hi:∀x∈inp,dr x){n:Nat}(h:oS p inp n s):oS p inp (n+1) (gN p s inp):=
 ⟨RV hw.ok h.fC hn hi,Rp hw h.fC.inv h.wt hn,(Rm hw.ok h.fC hn h.q).1⟩
variable{C:aI}
def J2(hs:cY p)(hC:dB p C){f:aH}{c:MC}(hT:rA p C f c)(hf:dF p f)(hb:mC p f):0<=c.mark/\c.mark<C.ins.length/\nth C.ins c.mark.toNat=iI 1 (cD p f):=by obtain⟨n,k,hS,Tk,_⟩:=hT.pos;obtain⟨l1,l2,l3,l4⟩:=yM hs hC hf.f0 hf.f1 hS _ _ (lE hb.1);have hX:=hf.pl _ (lJ hb.1);have Ua:=hX.a0;have Us:=hb.2;have hi:f.pl.at_.toNat<(dz p f.pl.block).length:=jB;have hm:cD p f∈dz p f.pl.block:=er hi;obtain⟨k0,k1,k2,k3⟩:=hX.aE hs hf.f0 hf.f1 hm;obtain⟨n',rfl⟩:∃n',n=n'+1:=⟨n-1,jB⟩;have hl:=z7 l1 hi;rw[yl]at hl;have hh:=hl.head;have Tk:c.mark=((nD (gX p (n'+1)) k (dz p f.pl.block) f.pl.at_.toNat:Nat):Int):=Tk;rw[Tk,Int.toNat_natCast];exact⟨jB,by have:=hh.1;omega,by rw[hh.2.1];rfl⟩
variable{m:MV}
def Gl(hs:cY p)(hC:dB p C)(hI:cC p s)(h:pZ p C s m)(h2:s.status=2->s.ap.length=0):m.calls.length=s.ap.length/\∀k,k<m.calls.length->(0<=m.fS k/\m.fS k<C.ins.length)/\m.spot C k=rY p (nth s.ap k):=by
 have D':m.calls.length=s.ap.length:=h.fA.len;refine⟨D',fun k hk=>?_⟩;have P':s.status≠2:=fun e=>by have:=h2 e;omega
 have h1:1<=(RS.of s).nf:=hI.inv.go P';have TB:(RS.of s).nf=s.ap.length:=rfl;unfold MV.spot MV.fS;by_cases S6:(k:Int)=(m.calls.length:Int)-1
 ·rw[if_pos S6];have ek:k=m.calls.length-1:=jB;have et:nth m.calls k=m.aj:=by rw[ek];rfl
  have ef:nth s.ap k=(RS.of s).ah:=by rw[ek,D'];rfl
  obtain⟨a0,a1,a2⟩:=h.at_ P';have hT:=h.fA.aj h1;rw[et,ef];refine⟨⟨a0,a1⟩,?_⟩;rw[a2,hT.fn,hT.slots];rfl
 ·rw[if_neg S6];have Te:k+1<(RS.of s).nf:=jB;have hL:=h.fA.low k Te;obtain⟨a0,a1,a2⟩:=J2 hs hC hL (hI.inv.fr k jB) (hI.inv.busy k Te);refine⟨⟨a0,a1⟩,?_⟩;rw[a2,hL.fn,hL.slots];rfl
def Ej(hs:cY p)(hC:dB p C)(hI:cC p s)(h:pZ p C s m)(h2:s.status=2->s.ap.length=0):m.rj C=po p s:=by
 obtain⟨D',XK⟩:=Gl hs hC hI h h2;unfold MV.rj po;have e1:(List.range m.calls.length).map (m.spot C)=s.ap.map (rY p):=by
  apply List.ext_getElem
  ·simp[D']
  ·intro i h1 h2;simp only[List.getElem_map,List.getElem_range];rw[(XK i (by simpa using h1)).2,dV (by simpa using h2)]
 have a:=h.fA.heap;have b:=h.fA.in_;have c:=h.fA.aC;have d:=h.fA.status;rw[e1,a,b,c,d,h.bp,h.time];rfl
def FE(hs:cY p)(hC:dB p C)(hI:cC p s)(h:pZ p C s m)(h2:s.status=2->s.ap.length=0):yf C m:=by obtain⟨D',XK⟩:=Gl hs hC hI h h2;have hf:=hI.fits hs;have h8:=hf.aw;refine⟨jB,fun k hk=>(XK k hk).1,fun k hk=>?_,by rw[h.fA.heap];exact hI.cells,by rw[h.fA.aC];exact hI.outs,hC.rZ⟩;have e:=(XK k hk).2;have es:(nth m.calls k).slots=(nth s.ap k).slots:=congrArg lh.slots e;rw[es];exact(hf.fr k jB).1
def HZ(s:SK):aP prog 6 [rS s] (rS (rM s)):=by
 refine df func6 ntmps6 ?_
 (repeat' (first|refine aA fun K hK=>?_|refine ax ?_|(refine hK _ _ ?_;clear hK K)|(refine az ?_ ?_<;>intro hc<;>try exact jz)|refine ay ?_|exact jI|(clear hK K)))
 ·(refine bG [.tmp 2] ?_;try simp only[go_sem])
  unfold rM;rw[jP]
 ·(refine bG [.tmp 2] ?_;try simp only[go_sem])
  unfold rM;rw[jN]
def Lf(l:SI):aP prog 7 [bh eI 1 l] (bh eI 1 (jO l)):=by
 refine df func7 ntmps7 ?_
 (repeat' (first|refine aA fun K hK=>?_|refine ax ?_|(refine hK _ _ ?_;clear hK K)|(refine az ?_ ?_<;>intro hc<;>try exact jz)|refine ay ?_|exact jI|(clear hK K)))
 ·(refine bG [.tmp 2] ?_;try simp only[go_sem])
  rfl
 ·(refine bG [.tmp 2] ?_;try simp only[go_sem])
  rw[show jO l=l from List.take_of_length_le jB]
def MF{a:Int}(m:Nat)(hm:0<m)(h:0<=a/\a<256):∃n:Nat,n<m/\a.tmod m=(n:Int):=by refine⟨(a.tmod m).toNat,?_,?_⟩<;>(rw[Int.tmod_eq_emod_of_nonneg h.1];have:=Int.emod_nonneg a (b:=m) jB;have:=Int.emod_lt_of_pos a (b:=(m:Int)) jB;omega)
def RT(hs:cY p)(h:cC p s)(h2:s.status=2->s.ap.length=0):sU p s:=by
 have fC:∀k,k<s.ap.length->dF p (nth s.ap k)/\mC p (nth s.ap k):=fun k hk=>by
  refine⟨h.inv.fr k hk,?_⟩;by_cases Te:k+1<s.ap.length
  ·exact h.inv.busy k Te
  ·have:=h.aj (fun e=>by have:=h2 e;omega);have ek:k=s.ap.length-1:=jB;rw[ek];exact this
 refine⟨fun k hk=>?_,fun k hk=>?_,fun k hk=>?_⟩<;>obtain⟨a,b⟩:=fC k hk
 ·have:=a.len hs;exact⟨List.length_pos_iff.2 b.1,jB⟩
 ·have hx:=a.pl _ (lJ b.1);exact⟨hx.b0,hx.in_ hs a.f0 a.f1⟩
 ·have hx:=a.pl _ (lJ b.1);exact⟨hx.a0,b.2⟩
def OR(hs:cY p)(h:cC p s):tz (po p s):=by
 have hf:=h.fits hs;have hl:(po p s).calls.length=s.ap.length:=by show(s.ap.map _).length=_;simp
 refine⟨by rw[hl];exact hf.aw,hf.heap,hf.out,fun k hk=>?_,hf.hp⟩;rw[hl]at hk;have:nth (po p s).calls k=rY p (nth s.ap k):=by show nth (s.ap.map (rY p)) k=_;rw[dV (by simpa using hk),dV hk];simp
 rw[this];exact(hf.fr k hk).1
def HY(hw:kf p)(hn:inp.length<=1000)(hi:∀x∈inp,dr x){n:Nat}(Zi:n<=100000)(hv:oS p inp n s){N:NM}{e:SF}(hR:bU p (kN p) m N e)(hS:pZ p (kN p) s m)(hb:Bd inp.length m)(X:SJ) :
  ∃m',pZ p (kN p) (gN p s inp) m'/\Bd inp.length m'/\kU prog 13 [mP N,bh eI 1 inp] e X (.bf []) (fun N' l=>bU p (kN p) m' N' l/\N'.k=N.k):=by
 have hms:=hS.fA.status;by_cases h2:s.status=2\/s.status=3
 ·have e1:gN p s inp=s:=by unfold gN;rw[if_pos (by unfold dG;rw[if_pos h2];decide)]
  rw[e1];refine⟨m,hS,hb,N,e,⟨hR,rfl⟩,Up.refl _ _,Me hR inp ?_⟩;have:m.status=s.status:=hms;omega
 ·have hs:=hw.ok;have hC:=sV hs;obtain⟨m1,hg,P',Z2⟩:=M7 hw hC hv.fC.inv hv.wt hv.fC.dr hv.q hn h2 hS;have UJ:=BH hw hn hi hv;obtain⟨a0,a1,_⟩:=hS.at_ (fun e=>h2 (.inl e));have S9:=hC.len;have hfs:=hs.ok.aa.aq;have SY:=hs.ok.size;have UH:=hC.rZ;have D':m.calls.length=s.ap.length:=hS.fA.len;have h1:1<=s.ap.length:=hv.fC.inv.inv.go (fun e=>h2 (.inl e));have hlen1:m1.calls.length=(gN p s inp).ap.length:=Z2.fA.len;have haF:m1.status=(gN p s inp).status:=Z2.fA.status;have ht:=hS.time;have Yz:=hv.fC.t0;have WA:=hv.fC.t1;have ht2:=UJ.fC.t0;have ht3:=UJ.fC.t1;have Zo:(if m1.status=1 then m1.time else m1.time+1)=(gN p s inp).time:=Z2.time;obtain⟨N',l,⟨S7,SW,Ul⟩,hU,hp⟩:=NL X hR jB hb hn jB jB UH (by have:m.status=s.status:=hms;omega) ⟨a0,jB⟩ jB hg P' (fun e0=>by
   have Z3:(gN p s inp).status≠2:=jB;have h3:1<=(gN p s inp).ap.length:=UJ.fC.inv.inv.go Z3;obtain⟨b0,b1,_⟩:=Z2.at_ Z3;exact⟨jB,b0,b1⟩) (by split at Zo<;>omega)
  exact⟨_,Z2,Ul,N',l,⟨S7,SW⟩,hU,hp⟩
def E9(hw:kf p)(hp:kj p)(X:SJ)(inp:SI):∃m N l,bU p (kN p) m N l/\(∀i,aD l i≠none->i ∉ X)/\pZ p (kN p) (oe p) m/\Bd inp.length m/\ai prog 8 [.agg (bV p)] [] (fun r l'=>r=mP N/\l'=l):=by
 have hC:=sV hw.ok;obtain⟨m1,hg,P',hS⟩:=Md (inp:=[]) hw hC;have hv:=CP hw [];have D':m1.calls.length=(oe p).ap.length:=hS.fA.len;have haF:m1.status=(oe p).status:=hS.fA.status;obtain⟨N,l,hR,hX,hb,hc⟩:=KH hp X hg P' (fun e0=>by have Z3:(oe p).status≠2:=jB;have h3:1<=(oe p).ap.length:=hv.fC.inv.inv.go Z3;obtain⟨b0,b1,_⟩:=hS.at_ Z3;exact⟨jB,b0,b1⟩)
 exact⟨m1,N,l,hR,hX,hS,⟨hb.deep,hb.slots,hb.heap,hb.outs,hb.gV,by have:=hb.hZ;omega⟩,hc⟩
def xC:SK:=(⟨#[102,110,32,109,97,105,110,40,41,123,112,114,105,110,116,32,49,59,112,114,105,110,116,32,50,59,125]⟩:SK)
def AO:(gy xC).2.2=0:=by decide +kernel
def RD:po (gy xC).1 (mU (gy xC).1 [] 1)=⟨[⟨0,3,[]⟩],[],0,[(⟨#[49]⟩:SK)],0,0,1⟩:=by decide +kernel
def RU:∃p x,gy xC=(p,x,0)/\kf p/\kj p/\po p (mU p [] 1)=⟨[⟨0,3,[]⟩],[],0,[(⟨#[49]⟩:SK)],0,0,1⟩:=
 ⟨_,_,by rw[<-AO],GD AO,FH AO,RD⟩
def Ee:aP prog 4 [] (rB true):=by
 obtain⟨p,x,e,hw,hp,hl⟩:=RU;have hs:=IA xC jC;rw[e]at hs;obtain⟨m,N,l,hR,_,hS,hb,Vs⟩:=E9 hw hp [] [];have hv:=CP hw [];obtain⟨m',Z4,Ul,N',l',⟨S7,SW⟩,hU,P'⟩:=HY hw jC (fun x hx=>by cases hx) (n:=0) jC hv hR hS hb [];have UJ:=BH hw jC (fun x hx=>by cases hx) hv;have P':=P'.args (args:=[mP N,.raw (.slice none 0 0)]) (fun w vs hw hv=>uJ hv (fun _ h=>h) fun us hu=>uJ hu (Bi 1 _) (fun _ h=>h)) (pO hR rfl);have VF:=EK S7 (FE hw.ok (sV hw.ok) UJ.fC.inv Z4 UJ.q.none);rw[Ej hw.ok (sV hw.ok) UJ.fC.inv Z4 UJ.q.none,show gN p (oe p) []=mU p [] 1 from rfl,hl]at VF;rw[show mP N'=mP N by unfold mP;rw[SW]]at VF;have SU:=hR.ok.low;have YL:=S7.ok.low;refine df func4 ntmps4 ?_
 (have W:=jA SU (YL);repeat' (first|refine aA fun K hK=>?_|refine ax ?_|(refine hK _ _ ?_;clear hK K)|(refine az ?_ ?_<;>intro hc<;>try exact jz)|refine cM 0 ?_|refine cM 1 ?_|refine cp (hs) ?_|refine D8 Vs hR.ok ?_|refine cT P' ?_|refine cT VF ?_|refine ay ?_|exact jI|(clear hK K)))
 exact ui [.tmp 0] rfl (.same _ rfl)
structure LS where
 i:Nat
 m:MV
 N:NM
 e:List (Nat×Row)
def LI(s:SK)(inp:SI)(a:Int)(hi:∀x∈inp,dr x)(ha:0<=a/\a<256):aP prog 3 [rS s,bh eI 1 inp,.raw (.int .u8 a)] (rB true):=by
 have hs:=IA (rM s) (NF s);have Xz:=@GD (rM s);have Zh:=@FH (rM s);obtain⟨n,hn,ea⟩:=MF 101 jC ha;have ea:a.tmod 101=(n:Int):=ea;generalize gy (rM s)=R at hs Xz Zh;obtain⟨p,x,e⟩:=R;simp only at hs Xz Zh;by_cases he:e=0
 rotate_left
 ·refine df func3 ntmps3 ?_
  (have W:=he;repeat' (first|refine aA fun K hK=>?_|refine ax ?_|(refine hK _ _ ?_;clear hK K)|(refine az ?_ ?_<;>intro hc<;>try exact jz)|refine cp (Ee) ?_|refine cp (HZ _) ?_|refine al 0 ?_|refine cp (hs) ?_|refine ay ?_|exact jI|(clear hK K)))
  (refine bG [.tmp 6] ?_;try simp only[go_sem])
 have hw:kf p:=Xz he;have hp:kj p:=Zh he;have TP:=Qt inp;have hir:=PQ hi;have hl:(jO inp).length<=1000:=jB;have haG:=Ny hw.ok;obtain⟨m0,N0,l0,VC,_,hS0,VP,Vs⟩:=E9 hw hp [] (jO inp);have YK:=VC.ok.low;refine df func3 ntmps3 ?_
 (have W:=jA he YK;repeat' (first|refine aA fun K hK=>?_|refine ax ?_|(refine hK _ _ ?_;clear hK K)|(refine az ?_ ?_<;>intro hc<;>try exact jz)|refine cp (Ee) ?_|refine cp (HZ _) ?_|refine cM 0 ?_|refine cM 1 ?_|refine cp (hs) ?_|refine cp (Lf _) ?_|refine D8 Vs VC.ok ?_|refine cp (haG) ?_|refine ay ?_|exact jI|(clear hK K)))
 have Tc:=hK;clear hK;refine fa (S:=LS) [(6,1),(13,2),(34,22)] (fun t=>t.i<=n+1/\bU p (kN p) t.m t.N t.e/\pZ p (kN p) (mU p (jO inp) t.i) t.m/\Bd (jO inp).length t.m/\t.N.k=N0.k/\oS p (jO inp) t.i (mU p (jO inp) t.i)) (fun t=>[(13,rI t.i)]) (fun t=>⟨[],tie t.e [(0,.var 29 (bV p)),(1,.var 41 (dD (mU p (jO inp) t.i)))]⟩) (fun t=>n+1-t.i) ⟨0,m0,N0,l0⟩ ⟨Nat.zero_le _,VC,hS0,VP,rfl,CP hw _⟩ (fb rfl cI) ?_;rintro⟨i,m,N,e⟩ ⟨Xq,hR,hS,hb,hNk,hv⟩ Kr S8;simp only at Xq hR hS hb hNk hv;have SU:=hR.ok.low;have eM:mP N=mP N0:=by unfold mP;rw[hNk]
 by_cases SX:i<=n
 ·have UJ:=BH hw hl hir hv;have VF:=EK hR (FE hw.ok (sV hw.ok) hv.fC.inv hS hv.q.none);rw[Ej hw.ok (sV hw.ok) hv.fC.inv hS hv.q.none,eM]at VF;have UY:=RC (RT hw.ok hv.fC.inv hv.q.none) (hv.fC.inv.fits hw.ok);have Zw:=K5 (po p (mU p (jO inp) i)) (po p (mU p (jO inp) i)) (OR hw.ok hv.fC.inv);rw[decide_eq_true rfl]at Zw;obtain⟨m',Z4,Ul,N',l',⟨S7,SW⟩,hU,P'⟩:=HY hw hl hir (n:=i) jB hv hR hS hb [];rw[eM]at P';have hs7:=MZ hw.ok hv.fC jB (jO inp) hl;have e2:mU p (jO inp) (i+1)=gN p (mU p (jO inp) i) (jO inp):=rfl;rw[<-e2]at hs7 Z4 UJ;have YL:=S7.ok.low;generalize h2e:mU p (jO inp) (i+1)=s2 at*;generalize mU p (jO inp) i=s1 at*;generalize po p s1=t1 at*;refine S ?_
  (have W:=jA ea (jA SU (YL));repeat' (first|refine aA fun K hK=>?_|refine ax ?_|(with_reducible refine gR 13 ?_);refine dC 13 ([],[42],[]) [] (bo 0 7) mixed ?_|(refine hK _ _ ?_;clear hK K)|(refine az ?_ ?_<;>intro hc<;>try exact jz)|refine qd VF ?_|refine cp (UY) ?_|refine cp (Zw) ?_|refine cT P' ?_|refine cp (hs7) ?_|refine ay ?_|exact jI|(clear hK K)))
  refine S8 _ _ (fc ⟨i+1,m',N',l'⟩ ⟨by show i+1<=n+1;omega,S7,by show pZ p (kN p) (mU p (jO inp) (i+1)) m';rw[h2e];exact Z4,Ul,SW.trans hNk,by show oS p (jO inp) (i+1) (mU p (jO inp) (i+1));rw[h2e];exact UJ⟩ (by show n+1-(i+1)<n+1-i;omega) ?_ cI);show _=Hp.mk [] (tie l' [_,(1,Row.var _ (dD (mU p (jO inp) (i+1))))]);rw[h2e];rfl
 ·have TP:i=n+1:=jB;subst TP;refine S ?_
  (have W:=jA ea SU;repeat' (first|refine aA fun K hK=>?_|refine ax ?_|(refine hK _ _ ?_;clear hK K)|(refine az ?_ ?_<;>intro hc<;>try exact jz)|refine Tc _ _ ?_|refine ay ?_|exact jI|(clear hK K)))
  exact ui [.tmp 6] rfl (.same _ rfl)
end Go.Proofs.YtbjookcdpondlaaGreatDoor