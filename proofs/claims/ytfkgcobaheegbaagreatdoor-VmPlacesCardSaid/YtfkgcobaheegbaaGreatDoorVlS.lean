/- Lemmas. No conditions. -/
import Derived.Test.YtfkgcobaheegbaaGreatDoorRpQ
import Derived.Test.YtfkgcobaheegbaaGreatDoorViX
import Derived.Test.YtfkgcobaheegbaaGreatDoorSoL
set_option linter.all false
set_option maxHeartbeats 4000000
set_option maxRecDepth 10000
namespace Go.Proofs.YtfkgcobaheegbaaGreatDoor
open Go Go.Gd Tryz
structure vr(s:kS):Prop where
 calls:s.calls.length<=8
 heap:s.heap.length<=40
 out:s.ay.length<=24
 sl:∀k,k<s.calls.length->(nth s.calls k).slots.length<=24
 hp:∀k,k<s.heap.length->(nth s.heap k).length<=40
end Go.Proofs.YtfkgcobaheegbaaGreatDoor
namespace Go.Proofs.YtfkgcobaheegbaaGreatDoor
open Go Go.Gd Tryz Go.Gd.MV
structure lF(p:ab)(inp:List Int)(n:Nat)(s:aK):Prop where
 fD:lz p n s
 wt:dP p (RS.of s)
 q:wR inp s
variable{p:ab}
theorem zt(hw:iH p)(inp:List Int):lF p inp 0 (oi p):=by
 refine⟨O1 hw.ok,?_,Ii hw.ok inp⟩;rw[Gg];exact dP.st (rp ((jM p).left+1) (jM p) (vJ hw.ok).inv jB).1.ok.nf (dP.settle hw _ (vJ hw.ok).inv (Hs hw))
variable{s:aK}
theorem zq(hw:iH p){inp:List Int}(hn:inp.length<=1000)(hi:∀x∈inp,dj x){n:Nat}(h:lF p inp n s):lF p inp (n+1) (hZ p s inp):=
 ⟨Pe hw.ok h.fD hn hi,M6 hw h.fD.inv h.wt hn,(PE hw.ok h.fD hn h.q).1⟩
variable{C:aF}
theorem JK(hs:dT p)(hC:dh p C){f:aI}{c:MC}(hT:qq p C f c)(hf:dc p f)(hb:lH p f):0<=c.mark/\c.mark<C.ins.length/\nth C.ins c.mark.toNat=iI 1 (bS p f):=by
 obtain⟨n,k,hS,hpos,_⟩:=hT.pos;obtain⟨l1,l2,l3,l4⟩:=yg hs hC hf.f0 hf.f1 hS _ _ (kG hb.1);have hX:=hf.pl _ (lI hb.1);have ha0:=hX.a0;have hb2:=hb.2;have hi:f.pl.at_.toNat<(dm p f.pl.block).length:=jB
 have hm:bS p f∈dm p f.pl.block:=dx hi;obtain⟨k0,k1,k2,k3⟩:=hX.aw hs hf.f0 hf.f1 hm;obtain⟨n',rfl⟩:∃n',n=n'+1:=⟨n-1,jB⟩;have hl:=xR l1 hi;rw[wj]at hl;have hh:=hl.head;have hpos:c.mark=((mz (gw p (n'+1)) k (dm p f.pl.block) f.pl.at_.toNat:Nat):Int):=hpos;rw[hpos,Int.toNat_natCast];exact⟨jB,by have:=hh.1;omega,by rw[hh.2.1];rfl⟩
theorem Di(hs:dT p)(hC:dh p C){m:MV}(hI:cV p s)(h:oT p C s m)(h2:s.status=2->s.ao.length=0):m.calls.length=s.ao.length/\∀k,k<m.calls.length->(0<=m.fq k/\m.fq k<C.ins.length)/\m.spot C k=qi p (nth s.ao k):=by
 have hlen:m.calls.length=s.ao.length:=h.eT.len;refine⟨hlen,fun k hk=>?_⟩;have hst:s.status≠2:=fun e=>by have:=h2 e;omega
 have h1:1<=(RS.of s).nf:=hI.inv.go hst;have hnf:(RS.of s).nf=s.ao.length:=rfl;unfold MV.spot MV.fq;by_cases hla:(k:Int)=(m.calls.length:Int)-1
 ·rw[if_pos hla]
  have ek:k=m.calls.length-1:=jB
  have et:nth m.calls k=m.af:=by rw[ek];rfl
  have ef:nth s.ao k=(RS.of s).ah:=by rw[ek,hlen];rfl
  obtain⟨a0,a1,a2⟩:=h.at_ hst;have hT:=h.eT.af h1;rw[et,ef];refine⟨⟨a0,a1⟩,?_⟩;rw[a2,hT.fn,hT.slots];rfl
 ·rw[if_neg hla]
  have hk1:k+1<(RS.of s).nf:=jB
  have hL:=h.eT.low k hk1;obtain⟨a0,a1,a2⟩:=JK hs hC hL (hI.inv.fr k jB) (hI.inv.busy k hk1);refine⟨⟨a0,a1⟩,?_⟩;rw[a2,hL.fn,hL.slots];rfl
theorem EQ(hs:dT p)(hC:dh p C){m:MV}(hI:cV p s)(h:oT p C s m)(h2:s.status=2->s.ao.length=0):m.qv C=oF p s:=by
 obtain⟨hlen,hsel⟩:=Di hs hC hI h h2;unfold MV.qv oF;have e1:(List.range m.calls.length).map (m.spot C)=s.ao.map (qi p):=by
  apply List.ext_getElem
  ·simp[hlen]
  ·intro i h1 h2
   simp only[List.getElem_map,List.getElem_range];rw[(hsel i (by simpa using h1)).2,dN (by simpa using h2)]
 have a:=h.eT.heap;have b:=h.eT.in_;have c:=h.eT.ay;have d:=h.eT.status;rw[e1,a,b,c,d,h.bn,h.time];rfl
theorem CT(hs:dT p)(hC:dh p C){m:MV}(hI:cV p s)(h:oT p C s m)(h2:s.status=2->s.ao.length=0):vv C m:=by
 obtain⟨hlen,hsel⟩:=Di hs hC hI h h2;have hf:=hI.fits hs;have h8:=hf.aJ;refine⟨jB,fun k hk=>(hsel k hk).1,fun k hk=>?_,by rw[h.eT.heap];exact hI.cells,by rw[h.eT.ay];exact hI.outs,hC.qX⟩;have e:=(hsel k hk).2;have es:(nth m.calls k).slots=(nth s.ao k).slots:=congrArg ja.slots e;rw[es];exact(hf.fr k jB).1
end Go.Proofs.YtfkgcobaheegbaaGreatDoor
namespace Go.Gd
open Go
def qL(s:ByteArray):ByteArray:=if 700<s.size then s.extract 0 700 else s
theorem Ku(s:ByteArray):(qL s).size<=1000000:=by
 unfold qL;split
 ·rw[ByteArray.size_extract];omega
 ·omega
def kZ(l:List Int):List Int:=l.take 20
theorem MQ(l:List Int):(kZ l).length<=20:=by unfold kZ;simp;omega
theorem HE{l:List Int}(h:∀x∈l,dj x):∀x∈kZ l,dj x:=fun x hx=>h x (List.mem_of_mem_take hx)
theorem Dv{P:Program}{f:FuncId}{args:List AV}{B:List Nat}{l tl:List (Nat×Row)}{K:AV->Hp->Prop}{r0:AV}{q:Prop}(hc:aj P f args [] fun r l'=>r=r0/\l'=l)(h2:fS 0 l)(k:q)(ha:aY dQ args=true:=by rfl)(h0:bz P f=true:=by exact dn)(hl:nF 0 tl:=by(repeat' first|exact eF|(refine eG (by decide) ?_)|fail))(e0:K r0 ⟨B,tie l tl⟩=q:=by exact eL):fF P (.raw (.func (.func f) #[] #[])) args ⟨B,tl⟩ K:=
 cG (e:=[]) (e':=l) (lo:=0) hc rfl ⟨fun _ _ _=>rfl,List.nodup_nil,fun i r h=>by cases h⟩ h2 (fun i h=>(h rfl).elim) hl (fN (fun _ h=>by cases h) _ ha) h0 (e0 ▸ k)
end Go.Gd
namespace Go.Proofs.YtfkgcobaheegbaaGreatDoor
open Go Go.Gd Tryz Go.Gd.MV
theorem Hz(s:ByteArray):dV prog 33 [rS s] (rS (qL s)):=by
 refine eQ func33 ntmps33 ?_
 (repeat' (first|refine aA fun K hK=>?_|refine aC ?_|(refine hK _ _ ?_;clear hK K)|(refine aB ?_ ?_<;>intro hc<;>try exact jz)|refine az ?_|exact jI|(clear hK K)))
 ·(refine bH [.tmp 2] ?_;try simp only[go_sem])
  unfold qL;rw[jP]
 ·(refine bH [.tmp 2] ?_;try simp only[go_sem])
  unfold qL;rw[jN]
theorem JL(l:List Int):dV prog 34 [bt eI 1 l] (bt eI 1 (kZ l)):=by
 refine eQ func34 ntmps34 ?_
 (repeat' (first|refine aA fun K hK=>?_|refine aC ?_|(refine hK _ _ ?_;clear hK K)|(refine aB ?_ ?_<;>intro hc<;>try exact jz)|refine az ?_|exact jI|(clear hK K)))
 ·(refine bH [.tmp 2] ?_;try simp only[go_sem])
  rfl
 ·(refine bH [.tmp 2] ?_;try simp only[go_sem])
  rw[show kZ l=l from List.take_of_length_le jB]
theorem Mu{a:Int}(m:Nat)(hm:0<m)(h:0<=a/\a<256):∃n:Nat,n<m/\a.tmod m=(n:Int):=by
 refine⟨(a.tmod m).toNat,?_,?_⟩<;>(rw[Int.tmod_eq_emod_of_nonneg h.1];have:=Int.emod_nonneg a (b:=m) jB;have:=Int.emod_lt_of_pos a (b:=(m:Int)) jB;omega)
theorem Mw{p:ab}(hs:dT p){s:aK}(h:cV p s):vr (oF p s):=by
 have hf:=h.fits hs;have hl:(oF p s).calls.length=s.ao.length:=by show(s.ao.map _).length=_;simp
 refine⟨by rw[hl];exact hf.aJ,hf.heap,hf.out,fun k hk=>?_,hf.hp⟩;rw[hl]at hk;have:nth (oF p s).calls k=qi p (nth s.ao k):=by
  show nth (s.ao.map (qi p)) k=_;rw[dN (by simpa using hk),dN hk];simp
 rw[this];exact(hf.fr k hk).1
theorem Gw{p:ab}(hw:iH p){inp:List Int}(hn:inp.length<=1000)(hi:∀x∈inp,dj x){n:Nat}(hnn:n<=100000){s:aK}(hv:lF p inp n s){m:MV}{N:NM}{e:List (Nat×Row)}(hR:bJ p (jL p) m N e)(hS:oT p (jL p) s m)(hb:Bd inp.length m)(X:List Nat) :
  ∃m',oT p (jL p) (hZ p s inp) m'/\Bd inp.length m'/\j7 prog 40 [mP N,bt eI 1 inp] e X (.bg []) (fun N' l=>bJ p (jL p) m' N' l/\N'.k=N.k):=by
 have hms:=hS.eT.status;by_cases h2:s.status=2\/s.status=3
 ·have e1:hZ p s inp=s:=by unfold hZ;rw[if_pos (by unfold fG;rw[if_pos h2];decide)]
  rw[e1];refine⟨m,hS,hb,N,e,⟨hR,rfl⟩,Up.refl _ _,O0 hR inp ?_⟩;have:m.status=s.status:=hms;omega
 ·have hs:=hw.ok
  have hC:=rc hs;obtain⟨m1,hg,hst,hS1⟩:=Nr hw hC hv.fD.inv hv.wt hv.fD.dj hv.q hn h2 hS;have hv1:=zq hw hn hi hv;obtain⟨a0,a1,_⟩:=hS.at_ (fun e=>h2 (.inl e));have hcl:=hC.len;have hfs:=hs.ok.aa.ap;have hsz:=hs.ok.size;have hbig:=hC.qX;have hlen:m.calls.length=s.ao.length:=hS.eT.len;have h1:1<=s.ao.length:=hv.fD.inv.inv.go (fun e=>h2 (.inl e));have hlen1:m1.calls.length=(hZ p s inp).ao.length:=hS1.eT.len;have hst1:m1.status=(hZ p s inp).status:=hS1.eT.status;have ht:=hS.time;have ht0:=hv.fD.t0;have ht1:=hv.fD.t1;have ht2:=hv1.fD.t0;have ht3:=hv1.fD.t1;have htm:(if m1.status=1 then m1.time else m1.time+1)=(hZ p s inp).time:=hS1.time;obtain⟨N',l,⟨hR',hk',hb'⟩,hU,hp⟩:=NN X hR jB hb hn jB jB hbig (by have:m.status=s.status:=hms;omega) ⟨a0,jB⟩ jB hg hst (fun e0=>by
   have h02:(hZ p s inp).status≠2:=jB
   have h3:1<=(hZ p s inp).ao.length:=hv1.fD.inv.inv.go h02;obtain⟨b0,b1,_⟩:=hS1.at_ h02;exact⟨jB,b0,b1⟩) (by split at htm<;>omega)
  exact⟨_,hS1,hb',N',l,⟨hR',hk'⟩,hU,hp⟩
theorem Ep{p:ab}(hw:iH p)(hp:jb p)(X:List Nat)(inp:List Int):∃m N l,bJ p (jL p) m N l/\(∀i,aD l i≠none->i ∉ X)/\oT p (jL p) (oi p) m/\Bd inp.length m/\aj prog 35 [.agg (fB p)] [] (fun r l'=>r=mP N/\l'=l):=by
 have hC:=rc hw.ok;obtain⟨m1,hg,hst,hS⟩:=P5 (inp:=[]) hw hC;have hv:=zt hw [];have hlen:m1.calls.length=(oi p).ao.length:=hS.eT.len;have hst1:m1.status=(oi p).status:=hS.eT.status;obtain⟨N,l,hR,hX,hb,hc⟩:=Pm hp X hg hst (fun e0=>by
  have h02:(oi p).status≠2:=jB
  have h3:1<=(oi p).ao.length:=hv.fD.inv.inv.go h02;obtain⟨b0,b1,_⟩:=hS.at_ h02;exact⟨jB,b0,b1⟩)
 exact⟨m1,N,l,hR,hX,hS,⟨hb.deep,hb.slots,hb.heap,hb.outs,hb.gT,by have:=hb.gG;omega⟩,hc⟩
end Go.Proofs.YtfkgcobaheegbaaGreatDoor
