/- Lemmas. No conditions. -/
import Derived.Test.YtfkgcobaheegbaaGreatDoorVnB
import Derived.Test.YtfkgcobaheegbaaGreatDoorLqW
set_option linter.all false
set_option maxHeartbeats 4000000
namespace Go.Proofs.YtfkgcobaheegbaaGreatDoor
open Go Go.Gd
theorem wO(p:ab)(n:Nat)(a k:Int):gN p (n+1) a k=iI 1 a::(
  if(ai p a).kind=10\/(ai p a).kind=11 then je p n (nth (ai p a).l 0) (k+1)++[iI 6 (nth p.slots a.toNat)]
  else if(ai p a).kind=12 then aR p n (nth (ai p a).l 0) (k+1)++aR p n (nth (ai p a).l 1) (k+1+(aR p n (nth (ai p a).l 0) (k+1)).length)++[iI 12 (nth p.slots a.toNat)]
  else if(ai p a).kind=13 then cC p n (nth (ai p a).l 0) (k+1)++[iI 23 0]
  else if(ai p a).kind=14 then aR p n (nth (ai p a).l 0) (k+1)++[iI 15 0]
  else if(ai p a).kind=17 then(if(ai p a).l.length=0 then[iI 22 0]else aR p n (nth (ai p a).l 0) (k+1)++[iI 21 0])
  else px p n (fun b f=>lays (gN p n) f (ai p b).l []) a (k+1)):=rfl
variable{p:ab}{C:aE}
theorem L9(hs:dx p)(hC:di p C){R:RS}{m:MV}(hd:bF p R)(hM:iL p C R m):∃n k ks:Nat,cL p C R.ah.fn R.ah.path (n+1) k/\ks=cH p (n+1) k R.ah.pl.block R.ah.pl.at_.toNat/\m.af.at_=(ks:Int)/\bJ C.ins ks (gN p (n+1) (ci p R.ah) ks)/\
  cH p (n+1) k R.ah.pl.block (R.ah.pl.at_.toNat+1)=ks+(gN p (n+1) (ci p R.ah) ks).length/\lH p R.ah.fn.toNat (ci p R.ah)/\0<=ci p R.ah/\(ci p R.ah).toNat<n+1/\(ci p R.ah).toNat<p.aa.nodes.length:=by
 have hf:=hd.fr;have hT:=hM.af hd.one;obtain⟨n,k,hS,hpos⟩:=hT.pos hd.af.1;obtain⟨l1,l2,l3,l4⟩:=zu hs hC hf.f0 hf.f1 hS _ _ (kP hd.af.1);have hX:=hf.pl _ (mD hd.af.1);have ha0:=hX.a0;have hb2:=hd.af.2;have hi:R.ah.pl.at_.toNat<(dD p R.ah.pl.block).length:=jB;have hm:ci p R.ah∈dD p R.ah.pl.block:=dT hi;obtain⟨k0,k1,k2,k3⟩:=hX.ay hs hf.f0 hf.f1 hm;obtain⟨n',rfl⟩:∃n',n=n'+1:=⟨n-1,jB⟩;exact⟨n',k,_,hS,rfl,hpos,y8 l1 hi,Ix _ _ _ _ hi,⟨k2,by have:=hX.hi;omega⟩,k0,jB,jB⟩
variable{slots:List ak}
theorem Ec{M:MV}{k:Nat}{x:au}{fn ks:Int}{u:ak}{q:Nat}(h1:1<=M.calls.length)(h8:M.calls.length<=8)(hl:k<C.ins.length)(hx:nth C.ins k=x)(hu:u.s.size<=40)
  (ho:(x.op=6/\0<=x.a/\x.a<slots.length)\/x.op=13\/(x.op=15/\cY u.n)\/(x.op=17/\(u.n=0\/u.n=1))\/x.op=21):(M.aQ ⟨fn,k,ks,slots,[u],q⟩).cJ p C:=by
 have hlast:MC.last ⟨fn,k,ks,slots,[u],q⟩=u:=rfl;refine cJ.pm h1 h8 rfl hl hx (fun _=>jE) (fun h=>jB) (fun h=>by show 0<=x.a/\x.a<slots.length;omega) (fun h=>by rw[hlast];omega) (fun h=>jB) (fun h=>jB) jB (fun h=>?_) (fun v hv=>by rw[List.mem_singleton.1 hv];exact hu) jE;rw[hlast];rcases ho with ho|ho|ho|ho|ho
 ·omega
 ·omega
 ·exact ho.2
 ·omega
 ·omega
theorem Gn{M:MV}{k:Nat}{x:au}{fn ks:Int}{q:Nat}(h1:1<=M.calls.length)(h8:M.calls.length<=8)(hl:k<C.ins.length)(hx:nth C.ins k=x)(ho:x.op=14\/x.op=16\/x.op=22):(M.aQ ⟨fn,k,ks,slots,[],q⟩).cJ p C:=
 cJ.pm h1 h8 rfl hl hx (fun h=>jB) (fun h=>jB) (fun h=>jB) (fun h=>jB) (fun h=>jB) (fun h=>jB) jB (fun h=>jB) (fun v hv=>by cases hv) jE
theorem sW(p:ab)(n:Nat)(a k:Int):je p n a k=(if(ai p a).kind=19 then[iI 14 0]else if(ai p a).kind=20 then aR p n (nth (ai p a).l 0) k++[iI 13 0]else if(ai p a).kind=21 then cC p n a k else aR p n a k):=rfl
theorem Le{inp:List Int}(hw:iW p)(hC:di p C){R:RS}{m:MV}(hd:bF p R)(t:ee p R)(rg:bP R)(hM:iL p C R m)(hR:R.status=0) :
  ∃ks:Nat,m.af.at_=(ks:Int)/\ks<C.ins.length/\nth C.ins ks=iI 1 (ci p R.ah)/\∀j,
   (jo p R.st (ci p R.ah) inp->aS p C inp (m.aQ ⟨R.ah.fn,(ks:Int)+1,ks,R.ah.slots,[],j⟩) (m.fL ⟨R.ah.fn,(ks:Int)+1,ks,R.ah.slots,[],j⟩ 1 0))/\
   (¬jo p R.st (ci p R.ah) inp->
    ((R.bT p (ci p R.ah) inp).2≠0->aS p C inp (m.aQ ⟨R.ah.fn,(ks:Int)+1,ks,R.ah.slots,[],j⟩) (m.fL ⟨R.ah.fn,(ks:Int)+1,ks,R.ah.slots,[],j⟩ 3 (R.bT p (ci p R.ah) inp).2))/\
    ((R.bT p (ci p R.ah) inp).2=0->∃m1,aS p C inp (m.aQ ⟨R.ah.fn,(ks:Int)+1,ks,R.ah.slots,[],j⟩) m1/\iL p C (R.bT p (ci p R.ah) inp).1 m1/\fu m m1)):=by
 have hs:=hw.ok;obtain⟨n,k,ks,hS,hks,hpos,hcode,hnext,hIn,s0,sn,sl⟩:=L9 hs hC hd hM;have h1:=hd.one;have h8:=hd.inv.aK;have hfull:=hd.full;have hnf:=hd.inv.ok.nf;have hlen:=hM.len;have hf:=hd.fr;have f0:=hf.f0;have f1:=hf.f1;have hst0:m.status=0:=hM.status.trans hR;have hcl1:1<=m.calls.length:=jB;have hcl8:m.calls.length<=8:=jB;have hX:=hf.pl _ (mD hd.af.1);have ha0:=hX.a0;have hb2:=hd.af.2;have tf:=t.fr (R.nf-1) jB;have hsh:=hs.ok.aa.shape _ sl;have sh:=hsh.1;have ty:=hs.ok.ty (ci p R.ah).toNat (Nat.zero_le _) sl;have hsw:=(u9 hw hf tf hd.af).1 0;have hkind:dL (ai p (ci p R.ah)).kind:=by have hm:ci p R.ah∈dD p R.ah.pl.block:=dT jB;exact(hX.ay hs f0 f1 hm).2.2.2
 have hslots:iA (ai p (ci p R.ah)).kind->0<=nth p.slots (ci p R.ah).toNat/\nth p.slots (ci p R.ah).toNat<R.ah.slots.length:=fun h=>by have:=(hs.ao R.ah.fn.toNat jB).all _ hIn.1 (by have:=hIn.2;omega) h;have:=hf.sl;omega
 generalize hnode:ci p R.ah=node at*;rw[wO]at hcode hnext;have hmark:=hcode.head;refine⟨ks,hpos,hmark.1,hmark.2.1,fun j=>?_⟩;have hbody:=hmark.2.2;rw[show((ks:Int)+1)=((ks+1:Nat):Int) by push_cast;rfl]at hbody hnext ⊢;generalize hk1:ks+1=k1 at*
 -- an expression
 have ex:∀x,0<=x->x.toNat<p.aa.nodes.length->lH p R.ah.fn.toNat x->bQ (bt p.aa.nodes x)->x.toNat<n->∀(kx:Nat) (st:List ak) (j:Nat),bJ C.ins kx (aR p n x kx)->(∀v∈st,v.s.size<=40)->st.length<=2->
   ux p C inp m ⟨R.ah.fn,kx,ks,R.ah.slots,st,j⟩ (R.val p x) (kx+(aR p n x kx).length)/\Told (R.val p x) (nth p.types x.toNat):=fun x x0 x1 x2 x3 x4 kx st j hl hz hd'=>by
  have hm:=hs.ok.aa.many;have hsim:=AH (inp:=inp) hs hcl1 hcl8 hst0 (j:=R.ah.fn.toNat) jB hf.sl n x kx ⟨R.ah.fn,kx,ks,R.ah.slots,st,j⟩ x0 x1 x2 x3 x4 rfl rfl hl hz (by show st.length+x.toNat<=900;omega);rw[hM.heap,Bu hs.ok.aa R.ah.slots R.heap n p.aa.nodes.length x x0 jB x4 jB x3]at hsim;exact⟨hsim,Ff hs R x0 x1 x3⟩
 have ay:∀x,x∈(ai p node).l->0<=x/\x.toNat<p.aa.nodes.length/\lH p R.ah.fn.toNat x/\x.toNat<n:=fun x hx=>by obtain⟨y1,y2,y3,y4⟩:=hIn.ay hs jB hx;exact⟨y2,y4,y1,jB⟩
 -- the last of a statement that stores
 have store:∀(M':MV) (R':RS) (v:ak) (q kst:Nat),iA (ai p node).kind->M'.calls=m.calls->M'.status=0->R'.aK=R.aK->R'.nf=R.nf->M'.heap=R'.heap->M'.in_=R'.in_->M'.ax=R'.ax->R'.status=0->v.s.size<=40->kst<C.ins.length->nth C.ins kst=iI 6 (nth p.slots node.toNat)->kst+1=cH p (n+1) k R.ah.pl.block (R.ah.pl.at_.toNat+1)->
   ∃m1,aS p C inp (M'.aQ ⟨R.ah.fn,kst,ks,R.ah.slots,[v],q⟩) m1/\iL p C (R'.store p node v) m1/\fu M' m1:=fun M' R' v q kst hsl e1 e2 e3 e4 e5 e6 e7 e8 hv hlt hins hnx=>by
  have hss:=hslots hsl;have c1:1<=M'.calls.length:=by rw[e1];exact hcl1
  have c8:M'.calls.length<=8:=by rw[e1];exact hcl8
  have htop:R'.ah=R.ah:=by unfold RS.ah;rw[e3,e4]
  refine⟨M'.aQ ⟨R.ah.fn,(kst:Int)+1,ks,R.ah.slots.set (nth p.slots node.toNat).toNat v,[],q+1⟩,aS.ins (c:=⟨R.ah.fn,kst,ks,R.ah.slots,[v],q⟩) c1 c8 e2 rfl hlt hins (fun h=>by cases h) (Ec c1 c8 hlt hins hv (.inl ⟨rfl,hss⟩)) ?_,?_,⟨rfl,rfl⟩⟩
  ·rw[MV.kZ,MV.aV c1,MV.cV];exact aS.refl _
  ·have hT:=D0 (g:={ R.ah with slots:=R.ah.slots.set (nth p.slots node.toNat).toNat v }) (d:=⟨R.ah.fn,(kst:Int)+1,ks,R.ah.slots.set (nth p.slots node.toNat).toNat v,[],q+1⟩) hS hd.af.1 ha0 rfl rfl rfl rfl rfl (by show(kst:Int)+1=_;rw[<-hnx];push_cast;rfl);refine xp hM hnf h1 hT ?_ (by show R'.nf=_;exact e4) (by show M'.calls.set _ _=_;rw[e1]) e5 e6 e7 (e2.trans e8.symm);unfold RS.store;rw[zB (by rw[e3,e4];omega),htop];show R'.aK.set (R'.nf-1) _=_;rw[e3,e4]
 -- a statement that only goes on
 have goOn:∀(M':MV) (R':RS) (q:Nat),M'.calls=m.calls->R'.aK=R.aK->R'.nf=R.nf->M'.heap=R'.heap->M'.in_=R'.in_->M'.ax=R'.ax->M'.status=R'.status->∀ke:Int,ke=(cH p (n+1) k R.ah.pl.block (R.ah.pl.at_.toNat+1):Int)->iL p C R'.on (M'.aQ ⟨R.ah.fn,ke,ks,R.ah.slots,[],q⟩):=fun M' R' q e1 e3 e4 e5 e6 e7 e8 ke hke=>by have hT:=D0 (g:=R.ah) (d:=⟨R.ah.fn,ke,ks,R.ah.slots,[],q⟩) hS hd.af.1 ha0 rfl rfl rfl rfl rfl hke;refine xp hM hnf h1 hT ?_ (by show R'.nf=_;exact e4) (by show M'.calls.set _ _=_;rw[e1]) e5 e6 e7 e8;show R'.aK.set (R'.nf-1) (fK (nth R'.aK (R'.nf-1)))=_;rw[e3,e4];rfl
 -- an instruction on one value
 have insOne:∀{kx:Nat} {x:au} {u:ak} {q:Nat} {m':MV},kx<C.ins.length->nth C.ins kx=x->x.op≠1->u.s.size<=40->((x.op=6/\0<=x.a/\x.a<R.ah.slots.length)\/x.op=13\/(x.op=15/\cY u.n)\/(x.op=17/\(u.n=0\/u.n=1))\/x.op=21)->aS p C inp ((m.aQ ⟨R.ah.fn,(kx:Int)+1,ks,R.ah.slots,[u],q⟩).ins p C inp x) m'->aS p C inp (m.aQ ⟨R.ah.fn,kx,ks,R.ah.slots,[u],q⟩) m':=fun hl hx hne hu ho hg=> aS.ins (c:=⟨R.ah.fn,_,ks,R.ah.slots,[_],_⟩) hcl1 hcl8 hst0 rfl hl hx hne (Ec hcl1 hcl8 hl hx hu ho) hg
 have nowait:¬kJ p node->¬jo p R.st node inp:=fun h hw=>h hw.1
 have hcase:((ai p node).kind=10\/(ai p node).kind=11)\/(ai p node).kind=12\/(ai p node).kind=13\/(ai p node).kind=14\/(ai p node).kind=15\/(ai p node).kind=16\/(ai p node).kind=17:=by unfold dL at hkind;omega
 rcases hcase with e|e|e|e|e|e|e
 ·obtain⟨a,hla,hr⟩:=sh.right e;have hla:(ai p node).l=[a]:=hla;have hx:nth (ai p node).l 0=a:=by rw[hla];rfl
  obtain⟨a0,a1,a2,a3⟩:=ay a (by rw[hla];simp);rw[if_pos e,hx]at hbody hnext;have hst6:=hbody.last;have hkst:k1+(je p n a k1).length+1=cH p (n+1) k R.ah.pl.block (R.ah.pl.at_.toNat+1):=by rw[hnext];simp only[List.length_cons,List.length_append,List.length_nil];omega
  have hsl:iA (ai p node).kind:=by unfold iA;omega
  have eD:R.bT p node inp=R.right p node inp:=by unfold RS.bT;simp only;rw[if_pos e]
  rw[eD];have hwt:jo p R.st node inp<->(ai p a).kind=19/\(inp.length:Int)<=R.in_:=by
   constructor
   ·rintro⟨_,w2,w3⟩;rw[hx]at w2;exact⟨w2,w3⟩
   ·rintro⟨w2,w3⟩;exact⟨e,by rw[hx];exact w2,w3⟩
  rw[sW]at hst6 hkst;unfold RS.right;simp only[hx];by_cases e19:(ai p a).kind=19
  ·rw[if_pos e19]at hst6 hkst;have h14:=hst6.1.head;have ok14:=Gn (p:=p) (C:=C) (M:=m) (k:=k1) (fn:=R.ah.fn) (ks:=ks) (slots:=R.ah.slots) (q:=j) hcl1 hcl8 h14.1 h14.2.1 (.inl rfl);have g14:∀m',aS p C inp ((m.aQ ⟨R.ah.fn,(k1:Int)+1,ks,R.ah.slots,[],j⟩).ins p C inp (iI 14 0)) m'->aS p C inp (m.aQ ⟨R.ah.fn,k1,ks,R.ah.slots,[],j⟩) m':=fun m' hg=>aS.ins (c:=⟨R.ah.fn,k1,ks,R.ah.slots,[],j⟩) hcl1 hcl8 hst0 rfl h14.1 h14.2.1 (fun h=>by cases h) ok14 hg
   rw[MV.oi]at g14;rw[jN,if_pos e19];refine⟨fun hw'=>g14 _ ?_,fun hnw=>⟨fun h=>(h rfl).elim,fun _=>?_⟩⟩
   ·have:=(hwt.1 hw').2;rw[if_pos (by show(inp.length:Int)<=m.in_;rw[hM.in_];exact this),MV.dB hcl1];exact aS.refl _
   ·have hin:¬((inp.length:Int)<=R.in_):=fun h=>hnw (hwt.2 ⟨e19,h⟩)
    rw[if_neg (by show¬((inp.length:Int)<=m.in_);rw[hM.in_];exact hin),MV.eH hcl1]at g14;obtain⟨m1,g1,M1,K1⟩:=store { m with in_:=m.in_+1 } { R with in_:=R.in_+1 } (vI (nth inp R.in_.toNat)) (j-1) (k1+1) hsl rfl hst0 rfl rfl hM.heap (by show m.in_+1=R.in_+1;rw[hM.in_]) hM.ax hR (Nat.zero_le _) hst6.2.1 hst6.2.2 hkst;refine⟨m1,(g14 _ (aS.refl _)).trans ?_,M1,K1⟩;have eq:({ (m.aQ (MC.push ⟨R.ah.fn,(k1:Int)+1,ks,R.ah.slots,[],j⟩ (vI (nth inp m.in_.toNat))))with in_:=m.in_+1 }:MV)=MV.aQ { m with in_:=m.in_+1 } ⟨R.ah.fn,((k1+1:Nat):Int),ks,R.ah.slots,[vI (nth inp R.in_.toNat)],j-1⟩:=by rw[hM.in_];rfl
    show aS p C inp ({ (m.aQ (MC.push ⟨R.ah.fn,(k1:Int)+1,ks,R.ah.slots,[],j⟩ (vI (nth inp m.in_.toNat))))with in_:=m.in_+1 }:MV) m1;rw[eq];exact g1
  have hnw:¬jo p R.st node inp:=fun h=>e19 (hwt.1 h).1
  refine⟨fun h=>(hnw h).elim,fun _=>?_⟩;rw[if_neg e19]at hst6 hkst;by_cases e20:(ai p a).kind=20
  ·rw[if_pos e20]at hst6 hkst;rw[jN,if_neg e19,if_pos e20];obtain⟨y,hly,hyE⟩:=(hs.ok.aa.shape _ a1).1.one (by have e20:(nth p.aa.nodes a.toNat).kind=20:=e20;omega);have hly:(ai p a).l=[y]:=hly;have hy0:nth (ai p a).l 0=y:=by rw[hly];rfl
   obtain⟨y2,y0,y3,y1⟩:=a2.ay hs jB (b:=y) (by rw[hly];simp);rw[hy0]at hst6 hkst;have hc13:=hst6.1.last;obtain⟨d,tx⟩:=ex y y0 y1 y2 hyE jB k1 [] j hc13.1 (fun v hv=>by cases hv) jE;have hsz:=tx.size;generalize hV:R.val p y=V at*;have eF0:R.fresh p a=(if V.2≠0 then(R,v0,V.2)else if V.1.n<0\/16<V.1.n then(R,v0,7)else if 40<ga R.heap+V.1.n+1 then(R,v0,4)else({ R with heap:=R.heap++[List.replicate V.1.n.toNat 0] },⟨4,R.heap.length+1,sE⟩,0)):=by unfold RS.fresh;simp only[hy0,hV]
   have hl1:(aR p n y (k1:Int)++[iI 13 0]).length=(aR p n y (k1:Int)).length+1:=by rw[List.length_append];rfl
   rw[hl1]at hst6 hkst;by_cases hx0:V.2=0
   rotate_left
   ·rw[if_pos hx0]at eF0;rw[eF0,if_neg (show¬((R,v0,V.2):RS×ak×Int).2.2=0 from hx0)];exact⟨fun _=>d.2 hx0,fun h=>(hx0 h).elim⟩
   obtain⟨q,g⟩:=d.1 hx0;rw[<-Int.natCast_add]at g;rw[if_neg (fun h=>h hx0)]at eF0;have g2:∀m',aS p C inp ((m.aQ ⟨R.ah.fn,((k1+(aR p n y k1).length:Nat):Int)+1,ks,R.ah.slots,[V.1],q⟩).ins p C inp (iI 13 0)) m'->aS p C inp (m.aQ ⟨R.ah.fn,k1,ks,R.ah.slots,[],j⟩) m':=fun m' hg=>g.trans (insOne hc13.2.1 hc13.2.2 (fun h=>by cases h) hsz (.inr (.inl rfl)) hg)
   rw[MV.qS,MV.aV hcl1,MV.cM hcl1]at g2;have elast:MC.last ⟨R.ah.fn,((k1+(aR p n y k1).length:Nat):Int)+1,ks,R.ah.slots,[V.1],q⟩=V.1:=rfl;rw[elast]at g2;by_cases c1:V.1.n<0\/16<V.1.n
   ·rw[if_pos c1]at g2 eF0;rw[eF0,if_neg (show¬((R,v0,(7:Int)):RS×ak×Int).2.2=0 from(by decide:¬((7:Int)=0)))];refine⟨fun _=>g2 _ ?_,fun h=>absurd h (by show¬((7:Int)=0);decide)⟩;rw[MV.dB hcl1];exact aS.refl _
   rw[if_neg c1]at eF0;rw[if_neg c1,MV.ii,hM.heap]at g2;by_cases c2:40<ga R.heap+V.1.n+1
   ·rw[if_pos c2]at g2 eF0;rw[eF0,if_neg (show¬((R,v0,(4:Int)):RS×ak×Int).2.2=0 from(by decide:¬((4:Int)=0)))];refine⟨fun _=>g2 _ ?_,fun h=>absurd h (by show¬((4:Int)=0);decide)⟩;rw[MV.dB hcl1];exact aS.refl _
   rw[if_neg c2]at g2 eF0;rw[eF0,if_pos rfl];refine⟨fun h=>(h rfl).elim,fun _=>?_⟩;obtain⟨m1,g1,M1,K1⟩:=store { m with heap:=R.heap++[List.replicate V.1.n.toNat 0] } { R with heap:=R.heap++[List.replicate V.1.n.toNat 0] } ⟨4,R.heap.length+1,sE⟩ (q+1-1) (k1+((aR p n y k1).length+1)) hsl rfl hst0 rfl rfl rfl hM.in_ hM.ax hR (Nat.zero_le _) hst6.2.1 hst6.2.2 hkst;refine⟨m1,g2 _ ?_,M1,K1⟩;rw[MV.eH hcl1];have eq:({ m.aQ (MC.push (MC.cut ⟨R.ah.fn,((k1+(aR p n y k1).length:Nat):Int)+1,ks,R.ah.slots,[V.1],q⟩ 1) ⟨4,R.heap.length+1,sE⟩)with heap:=R.heap++[List.replicate V.1.n.toNat 0] }:MV)=MV.aQ { m with heap:=R.heap++[List.replicate V.1.n.toNat 0] } ⟨R.ah.fn,((k1+((aR p n y k1).length+1):Nat):Int),ks,R.ah.slots,[⟨4,R.heap.length+1,sE⟩],q+1-1⟩:=rfl;rw[eq];exact g1
  rw[if_neg e20]at hst6 hkst;by_cases e21:(ai p a).kind=21
  ·rw[if_pos e21]at hst6 hkst;rw[if_pos e21];exact(Di (inp:=inp) (j:=j) hw hC hd t hM hR (n:=n) (x:=a) (kc:=k1) (ks:=ks) (by rw[hnode,hx]) (by rw[hnode];omega) a0 a1 e21 a2 a3 hst6.1 hS hks hkst hst6.2.1 (by rw[hnode,jN];exact hst6.2.2)).symm.symm
  ·rw[if_neg e21]at hst6 hkst;rw[if_neg e21,if_neg e19,if_neg e20];have hE:bQ (bt p.aa.nodes a):=by
    rcases hr with hr|hr|hr|hr
    ·exact hr
    ·exact(e19 hr).elim
    ·exact(e20 hr).elim
    ·exact(e21 hr).elim
   obtain⟨d,tx⟩:=ex a a0 a1 a2 hE a3 k1 [] j hst6.1 (fun v hv=>by cases hv) jE;have hsz:=tx.size;generalize hV:R.val p a=V at*;by_cases hx0:V.2=0
   rotate_left
   ·rw[if_neg hx0];exact⟨fun _=>d.2 hx0,fun h=>(hx0 h).elim⟩
   rw[if_pos hx0];obtain⟨q,g⟩:=d.1 hx0;rw[<-Int.natCast_add]at g;refine⟨fun h=>(h rfl).elim,fun _=>?_⟩;obtain⟨m1,g1,M1,K1⟩:=store m R V.1 q _ hsl rfl hst0 rfl rfl hM.heap hM.in_ hM.ax hR hsz hst6.2.1 hst6.2.2 hkst;exact⟨m1,g.trans g1,M1,K1⟩
 ·-- a list's place
  have hnw:=nowait (by unfold kJ;have e:(nth p.aa.nodes node.toNat).kind=12:=e;omega);refine⟨fun h=>(hnw h).elim,fun _=>?_⟩;obtain⟨x,y,hlx,hxE,hyE⟩:=sh.two (.inr e);have hlx:(ai p node).l=[x,y]:=hlx;have hx0:nth (ai p node).l 0=x:=by rw[hlx];rfl
  have hy0:nth (ai p node).l 1=y:=by rw[hlx];rfl
  obtain⟨x1,x2,x3,x4⟩:=ay x (by rw[hlx];simp);obtain⟨y1,y2,y3,y4⟩:=ay y (by rw[hlx];simp);rw[jN,if_pos e,hx0,hy0]at hbody hnext;have hss:=hslots (by unfold iA;omega);have eD:R.bT p node inp=R.put p node:=by unfold RS.bT;simp only;rw[jN,jN,if_pos e]
  rw[eD];unfold RS.put;simp only[hx0,hy0];have h12:=hbody.last;obtain⟨d,tx⟩:=ex x x1 x2 x3 hxE x4 k1 [] j h12.1.app.1 (fun v hv=>by cases hv) jE;have hsx:=tx.size;generalize hV:R.val p x=V at*;by_cases hv0:V.2=0
  rotate_left
  ·rw[if_pos hv0];exact⟨fun _=>d.2 hv0,fun h=>(hv0 h).elim⟩
  rw[if_neg (fun h=>h hv0)];obtain⟨q,g⟩:=d.1 hv0;rw[<-Int.natCast_add]at g;have hly:=h12.1.app.2;rw[<-Int.natCast_add]at hly h12 hnext;obtain⟨d2,ty2⟩:=ex y y1 y2 y3 hyE y4 (k1+(aR p n x k1).length) [V.1] q hly (fun v hv=>by rw[List.mem_singleton.1 hv];exact hsx) jE;have hsy:=ty2.size;generalize hU:R.val p y=U at*;by_cases hu0:U.2=0
  rotate_left
  ·rw[if_pos hu0];exact⟨fun _=>g.trans (d2.2 hu0),fun h=>(hu0 h).elim⟩
  rw[if_neg (fun h=>h hu0)];obtain⟨q2,g2⟩:=d2.1 hu0;rw[<-Int.natCast_add]at g2;generalize hkp:k1+(aR p n x k1).length+(aR p n y ((k1+(aR p n x k1).length:Nat):Int)).length=kp at*;rw[List.length_append,<-Nat.add_assoc,hkp]at h12;have hkn:kp+1=cH p (n+1) k R.ah.pl.block (R.ah.pl.at_.toNat+1):=by rw[hnext];simp only[List.length_cons,List.length_append,List.length_nil];omega
  have hok:(m.aQ ⟨R.ah.fn,kp,ks,R.ah.slots,[V.1,U.1],q2⟩).cJ p C:=cJ.pm hcl1 hcl8 rfl h12.2.1 h12.2.2 (fun h=>by rcases h with h|h|h|h|h|h|h|h|h|h|h|h<;>cases h) (fun _=>jE) (fun _=>hss) (fun h=>by rcases h with h|h|h<;>cases h) (fun h=>by cases h) (fun h=>by cases h) ⟨by show(1:Int)<=12;decide,by show(12:Int)<=23;decide⟩ (fun h=>by cases h) (fun v hv=>by
   rcases List.mem_cons.1 hv with rfl|hv
   ·exact hsx
   ·rw[List.mem_singleton.1 hv];exact hsy) jE
  have g3:∀m',aS p C inp ((m.aQ ⟨R.ah.fn,(kp:Int)+1,ks,R.ah.slots,[V.1,U.1],q2⟩).ins p C inp (iI 12 (nth p.slots node.toNat))) m'->aS p C inp (m.aQ ⟨R.ah.fn,k1,ks,R.ah.slots,[],j⟩) m':=fun m' hg=>(g.trans g2).trans (aS.ins (c:=⟨R.ah.fn,kp,ks,R.ah.slots,[V.1,U.1],q2⟩) hcl1 hcl8 hst0 rfl h12.2.1 h12.2.2 (fun h=>by cases h) hok hg)
  rw[MV.qM,MV.aV hcl1,MV.cM hcl1,MV.ii,hM.heap]at g3;have e1:MC.last (MC.cut ⟨R.ah.fn,(kp:Int)+1,ks,R.ah.slots,[V.1,U.1],q2⟩ 1)=V.1:=rfl;have e2:MC.last ⟨R.ah.fn,(kp:Int)+1,ks,R.ah.slots,[V.1,U.1],q2⟩=U.1:=rfl;rw[e1,e2,<-B7 _ _ (Gw _ _ _)]at g3;by_cases c1:V.1.n<0\/((lz R.heap (dp R.ah.slots (nth p.slots node.toNat) 4)).length:Int)<=V.1.n
  ·rw[if_pos c1];rw[if_pos c1]at g3;refine⟨fun _=>g3 _ ?_,fun h=>absurd h (by show¬((2:Int)=0);decide)⟩;rw[MV.dB hcl1];exact aS.refl _
  ·rw[if_neg c1];rw[if_neg c1]at g3;refine⟨fun h=>(h rfl).elim,fun _=>⟨_,g3 _ (aS.refl _),?_,⟨rfl,rfl⟩⟩⟩;exact goOn { m with heap:=R.heap.set ((dp R.ah.slots (nth p.slots node.toNat) 4).n-1).toNat ((nth R.heap ((dp R.ah.slots (nth p.slots node.toNat) 4).n-1).toNat).set V.1.n.toNat U.1.n) } { R with heap:=R.heap.set ((dp R.ah.slots (nth p.slots node.toNat) 4).n-1).toNat ((nth R.heap ((dp R.ah.slots (nth p.slots node.toNat) 4).n-1).toNat).set V.1.n.toNat U.1.n) } (q2+2) rfl rfl rfl rfl hM.in_ hM.ax (hst0.trans hR.symm) ((kp:Int)+1) (by rw[<-hkn];push_cast;rfl)
 ·-- a call
  have hnw:=nowait (by unfold kJ;have e:(nth p.aa.nodes node.toNat).kind=13:=e;omega);refine⟨fun h=>(hnw h).elim,fun _=>?_⟩;obtain⟨a,hla,hr⟩:=sh.nL e;have hla:(ai p node).l=[a]:=hla;have hx:nth (ai p node).l 0=a:=by rw[hla];rfl
  obtain⟨a0,a1,a2,a3⟩:=ay a (by rw[hla];simp);rw[jN,jN,if_pos e,hx]at hbody hnext;have h23:=hbody.last;have hkst:k1+(cC p n a k1).length+1=cH p (n+1) k R.ah.pl.block (R.ah.pl.at_.toNat+1):=by rw[hnext];simp only[List.length_cons,List.length_append,List.length_nil];omega
  have eD:R.bT p node inp=R.call p a:=by unfold RS.bT;simp only;rw[jN,if_pos e,hx]
  rw[eD];exact Di (inp:=inp) (j:=j) hw hC hd t hM hR (n:=n) (x:=a) (kc:=k1) (ks:=ks) (by rw[hnode,hx]) (by rw[hnode];omega) a0 a1 hr a2 a3 h23.1 hS hks hkst h23.2.1 (by rw[hnode,if_pos e];exact h23.2.2)
 ·-- a print
  have hnw:=nowait (by unfold kJ;have e:(nth p.aa.nodes node.toNat).kind=14:=e;omega);refine⟨fun h=>(hnw h).elim,fun _=>?_⟩;obtain⟨x,hlx,hxE⟩:=sh.one (by have e:(nth p.aa.nodes node.toNat).kind=14:=e;omega);have hlx:(ai p node).l=[x]:=hlx;have hx0:nth (ai p node).l 0=x:=by rw[hlx];rfl
  obtain⟨x1,x2,x3,x4⟩:=ay x (by rw[hlx];simp);rw[jN,jN,jN,if_pos e,hx0]at hbody hnext;have h15:=hbody.last;have hkst:k1+(aR p n x k1).length+1=cH p (n+1) k R.ah.pl.block (R.ah.pl.at_.toNat+1):=by rw[hnext];simp only[List.length_cons,List.length_append,List.length_nil];omega
  have hrng:=rg.val hs hd.cells x1 x2 hxE;obtain⟨d,tx⟩:=ex x x1 x2 x3 hxE x4 k1 [] j h15.1 (fun v hv=>by cases hv) jE;have hsx:=tx.size;have eD:R.bT p node inp=(if(R.val p x).2≠0 then(R,(R.val p x).2)else if 24<=R.ax.length then(R,5)else(({ R with ax:=R.ax++[kn (R.val p x).1] }:RS).on,0)):=by unfold RS.bT;simp only[hx0];rw[jN,jN,jN,jN,if_pos e]
  rw[eD];generalize hV:R.val p x=V at*;by_cases hv0:V.2=0
  rotate_left
  ·rw[if_pos hv0];exact⟨fun _=>d.2 hv0,fun h=>(hv0 h).elim⟩
  rw[if_neg (fun h=>h hv0)];obtain⟨q,g⟩:=d.1 hv0;rw[<-Int.natCast_add]at g;have g2:∀m',aS p C inp ((m.aQ ⟨R.ah.fn,((k1+(aR p n x k1).length:Nat):Int)+1,ks,R.ah.slots,[V.1],q⟩).ins p C inp (iI 15 0)) m'->aS p C inp (m.aQ ⟨R.ah.fn,k1,ks,R.ah.slots,[],j⟩) m':=fun m' hg=>g.trans (insOne h15.2.1 h15.2.2 (fun h=>by cases h) hsx (.inr (.inr (.inl ⟨rfl,hrng⟩))) hg)
  rw[MV.ob,MV.aV hcl1,MV.cM hcl1]at g2;by_cases c1:24<=R.ax.length
  ·rw[if_pos c1];rw[if_pos (by show 24<=m.ax.length;rw[hM.ax];exact c1)]at g2;refine⟨fun _=>g2 _ ?_,fun h=>absurd h (by show¬((5:Int)=0);decide)⟩;rw[MV.dB hcl1];exact aS.refl _
  ·rw[if_neg c1];rw[if_neg (by show¬24<=m.ax.length;rw[hM.ax];exact c1)]at g2;refine⟨fun h=>(h rfl).elim,fun _=>⟨_,g2 _ (aS.refl _),?_,⟨rfl,rfl⟩⟩⟩;exact goOn { m with ax:=m.ax++[kn V.1] } { R with ax:=R.ax++[kn V.1] } (q+1) rfl rfl rfl hM.heap hM.in_ (by show m.ax++_=R.ax++_;rw[hM.ax]) (hst0.trans hR.symm) (((k1+(aR p n x k1).length:Nat):Int)+1) (by rw[<-hkst];push_cast;rfl)
 ·-- an if
  have hnw:=nowait (by unfold kJ;have e:(nth p.aa.nodes node.toNat).kind=15:=e;omega);refine⟨fun h=>(hnw h).elim,fun _=>?_⟩;obtain⟨x,b1,hxE,hb1,hlx⟩:=sh.kz e;have hx0:nth (ai p node).l 0=x:=by rcases hlx with hlx|⟨d,hlx,_⟩<;>(have hlx:(ai p node).l=_:=hlx;rw[hlx];rfl)
  have hb0:nth (ai p node).l 1=b1:=by rcases hlx with hlx|⟨d,hlx,_⟩<;>(have hlx:(ai p node).l=_:=hlx;rw[hlx];rfl)
  have hxm:x∈(ai p node).l:=by rcases hlx with hlx|⟨d,hlx,_⟩<;>(have hlx:(ai p node).l=_:=hlx;rw[hlx];simp)
  obtain⟨x1,x2,x3,x4⟩:=ay x hxm;rw[jN,jN,jN,jN,jN]at hbody hnext;have hcond:nth p.types x.toNat=2:=by have:=ty.cond (.inl e);have hx0':nth (nth p.aa.nodes node.toNat).l 0=x:=hx0;rwa [hx0']at this
  have eD:R.bT p node inp=(if(R.val p x).2≠0 then(R,(R.val p x).2)else if(R.val p x).1.n=1 then(R.on.bs b1,0)else if(ai p node).l.length=3 then(R.on.bs (nth (ai p node).l 2),0)else(R.on,0)):=by unfold RS.bT;simp only[hx0,hb0];rw[jN,jN,jN,jN,if_neg (show¬(ai p node).kind=14 from jB),if_pos e]
  rw[eD];have hone:fK R.ah=fK R.ah:=rfl;have htopOn:R.on.ah=fK R.ah:=RS.ij hd.inv.ok h1 _;have hne:R.ah.path≠[]:=hd.af.1;have hone:(fK R.ah).path≠[]:=by rw[oq hne];simp
  have hSon:cL p C (fK R.ah).fn (fK R.ah).path (n+1) k:=Na hS hne;have hdeep:∀(b:Int) (kb q:Nat),wZ p n (fK R.ah).pl k b kb->iL p C (R.on.bs b) (m.aQ ⟨R.ah.fn,kb,ks,R.ah.slots,[],q⟩):=fun b kb q hk=>by have hT:=ID (f:=fK R.ah) (d:=⟨R.ah.fn,kb,ks,R.ah.slots,[],q⟩) hSon hone hk rfl rfl rfl rfl;refine xp hM hnf h1 hT ?_ rfl rfl hM.heap hM.in_ hM.ax (hst0.trans hR.symm);show(R.aK.set (R.nf-1) _).set (R.nf-1) { R.on.ah with path:=R.on.ah.path++[⟨b,0⟩] }=_;rw[List.set_set,htopOn]
  have hopl:=G9 hne;have hcodeX:∃T rest,px p n (fun b f=>lays (gN p n) f (ai p b).l []) node (k1:Int)=aR p n x k1++[iI 17 T]++rest/\
    (((ai p node).l.length=3/\T=((k1+(aR p n x k1).length+1+(lb p n (k1+(aR p n x k1).length+1) b1).length+1:Nat):Int))\/((ai p node).l.length≠3/\T=(cH p (n+1) k R.ah.pl.block (R.ah.pl.at_.toNat+1):Int))):=by
   have ek:((k1:Int)+((aR p n x k1).length:Int)+1)=((k1+(aR p n x k1).length+1:Nat):Int):=by push_cast;rfl
   by_cases hl3:(ai p node).l.length=3
   ·have h:=xZ (n:=n) (bl:=fun b f=>lays (gN p n) f (ai p b).l []) (k:=(k1:Int)) e hl3;rw[hx0,hb0,ek]at h;rw[h,List.append_assoc];refine⟨_,_,rfl,.inl ⟨hl3,?_⟩⟩;show((k1+(aR p n x k1).length+1:Nat):Int)+(((lb p n (k1+(aR p n x k1).length+1) b1).length:Int)+1)=_;push_cast;omega
   ·have h:=CW (n:=n) (bl:=fun b f=>lays (gN p n) f (ai p b).l []) (k:=(k1:Int)) e hl3;rw[hx0,hb0,ek]at h;refine⟨_,_,h,.inr ⟨hl3,?_⟩⟩;rw[hnext,h];simp only[List.length_cons,List.length_append,List.length_nil];push_cast;omega
  obtain⟨T,rest,hT1,hT2⟩:=hcodeX;rw[hT1]at hbody;have h17:=hbody.app.1.last;obtain⟨d,tx⟩:=ex x x1 x2 x3 hxE x4 k1 [] j h17.1 (fun v hv=>by cases hv) jE;have hsx:=tx.size;rw[hcond]at tx;generalize hV:R.val p x=V at*;by_cases hv0:V.2=0
  rotate_left
  ·rw[if_pos hv0];exact⟨fun _=>d.2 hv0,fun h=>(hv0 h).elim⟩
  rw[if_neg (fun h=>h hv0)];obtain⟨t1,t2⟩:=qq tx hv0;obtain⟨_,hn⟩:=zf t1 t2;obtain⟨q,g⟩:=d.1 hv0;rw[<-Int.natCast_add]at g;have g2:∀m',aS p C inp ((m.aQ ⟨R.ah.fn,((k1+(aR p n x k1).length:Nat):Int)+1,ks,R.ah.slots,[V.1],q⟩).ins p C inp (iI 17 T)) m'->aS p C inp (m.aQ ⟨R.ah.fn,k1,ks,R.ah.slots,[],j⟩) m':=fun m' hg=>g.trans (insOne h17.2.1 h17.2.2 (fun h=>by cases h) hsx (.inr (.inr (.inr (.inl ⟨rfl,hn⟩)))) hg)
  rw[MV.kU,MV.aV hcl1,MV.cM hcl1,MV.cV]at g2;have elast:MC.last ⟨R.ah.fn,((k1+(aR p n x k1).length:Nat):Int)+1,ks,R.ah.slots,[V.1],q⟩=V.1:=rfl;rw[elast]at g2;have hi:R.ah.pl.at_.toNat<(dD p R.ah.pl.block).length:=jB;rcases hn with hn|hn
  ·rw[if_pos hn]at g2;rw[if_neg (show¬V.1.n=1 from jB)];rcases hT2 with⟨hl3,hT2⟩|⟨hl3,hT2⟩
   ·rw[if_pos hl3];refine⟨fun h=>(h rfl).elim,fun _=>⟨_,g2 _ (aS.refl _),?_,⟨rfl,rfl⟩⟩⟩;rw[hT2];refine hdeep _ _ (q+1) ⟨R.ah.pl.at_.toNat,by rw[hopl];exact hi,.inr (.inr ⟨?_,?_,?_,?_,k1+(aR p n x k1).length+1,?_,?_⟩)⟩
    ·rw[hopl];show(ai p (ci p R.ah)).kind=15;rw[hnode];exact e
    ·rw[hopl];show R.ah.pl.at_+1=_;omega
    ·rw[hopl];show(ai p (ci p R.ah)).l.length=3;rw[hnode];exact hl3
    ·rw[hopl];show _=nth (ai p (ci p R.ah)).l 2;rw[hnode]
    ·rw[hopl];show _=cH p (n+1) k R.ah.pl.block R.ah.pl.at_.toNat+1+(aR p n (nth (ai p (ci p R.ah)).l 0) ((cH p (n+1) k R.ah.pl.block R.ah.pl.at_.toNat+1:Nat):Int)).length+1;rw[hnode,hx0,<-hks,hk1]
    ·rw[hopl];show _=_+(lb p n _ (nth (ai p (ci p R.ah)).l 1)).length+1;rw[hnode,hb0]
   ·rw[if_neg hl3];refine⟨fun h=>(h rfl).elim,fun _=>⟨_,g2 _ (aS.refl _),?_,⟨rfl,rfl⟩⟩⟩;exact goOn m R (q+1) rfl rfl rfl hM.heap hM.in_ hM.ax hM.status T hT2
  ·rw[if_neg (show¬V.1.n=0 from jB)]at g2;rw[if_pos hn];refine⟨fun h=>(h rfl).elim,fun _=>⟨_,g2 _ (aS.refl _),?_,⟨rfl,rfl⟩⟩⟩;refine hdeep b1 (k1+(aR p n x k1).length+1) (q+1) ⟨R.ah.pl.at_.toNat,by rw[hopl];exact hi,.inr (.inl ⟨?_,?_,?_,?_⟩)⟩
   ·rw[hopl];show(ai p (ci p R.ah)).kind=15;rw[hnode];exact e
   ·rw[hopl];show R.ah.pl.at_+1=_;omega
   ·rw[hopl];show _=nth (ai p (ci p R.ah)).l 1;rw[hnode,hb0]
   ·rw[hopl];show _=cH p (n+1) k R.ah.pl.block R.ah.pl.at_.toNat+1+(aR p n (nth (ai p (ci p R.ah)).l 0) ((cH p (n+1) k R.ah.pl.block R.ah.pl.at_.toNat+1:Nat):Int)).length+1;rw[hnode,hx0,<-hks,hk1]
 ·-- a while
  have hnw:=nowait (by unfold kJ;have e:(nth p.aa.nodes node.toNat).kind=16:=e;omega);refine⟨fun h=>(hnw h).elim,fun _=>?_⟩;obtain⟨x,b1,hlx,hxE,hb1⟩:=sh.dS e;have hlx:(ai p node).l=[x,b1]:=hlx;have hx0:nth (ai p node).l 0=x:=by rw[hlx];rfl
  have hb0:nth (ai p node).l 1=b1:=by rw[hlx];rfl
  obtain⟨x1,x2,x3,x4⟩:=ay x (by rw[hlx];simp);rw[jN,jN,jN,jN,jN,BQ e,hx0,hb0]at hbody hnext;have hcond:nth p.types x.toNat=2:=by have:=ty.cond (.inr e);have hx0':nth (nth p.aa.nodes node.toNat).l 0=x:=hx0;rwa [hx0']at this
  have eD:R.bT p node inp=(if(R.val p x).2≠0 then(R,(R.val p x).2)else if(R.val p x).1.n=1 then(R.bs b1,0)else(R.on,0)):=by unfold RS.bT;simp only[hx0,hb0];rw[jN,jN,jN,jN,if_neg (show¬(ai p node).kind=14 from jB),if_neg (show¬(ai p node).kind=15 from jB),if_pos e]
  rw[eD];have hne:R.ah.path≠[]:=hd.af.1;have hi:R.ah.pl.at_.toNat<(dD p R.ah.pl.block).length:=jB;have h17:=hbody.app.1.last;obtain⟨d,tx⟩:=ex x x1 x2 x3 hxE x4 k1 [] j h17.1 (fun v hv=>by cases hv) jE;have hsx:=tx.size;rw[hcond]at tx;generalize hV:R.val p x=V at*;by_cases hv0:V.2=0
  rotate_left
  ·rw[if_pos hv0];exact⟨fun _=>d.2 hv0,fun h=>(hv0 h).elim⟩
  rw[if_neg (fun h=>h hv0)];obtain⟨t1,t2⟩:=qq tx hv0;obtain⟨_,hn⟩:=zf t1 t2;obtain⟨q,g⟩:=d.1 hv0;rw[<-Int.natCast_add]at g;have g2:=fun m' hg=>g.trans (insOne (m':=m') (q:=q) h17.2.1 h17.2.2 (fun h=>by cases h) hsx (.inr (.inr (.inr (.inl ⟨rfl,hn⟩)))) hg)
  rw[MV.kU,MV.aV hcl1,MV.cM hcl1,MV.cV]at g2;have elast:MC.last ⟨R.ah.fn,((k1+(aR p n x k1).length:Nat):Int)+1,ks,R.ah.slots,[V.1],q⟩=V.1:=rfl;rw[elast]at g2;rcases hn with hn|hn
  ·rw[if_pos hn]at g2;rw[if_neg (show¬V.1.n=1 from jB)];refine⟨fun h=>(h rfl).elim,fun _=>⟨_,g2 _ (aS.refl _),?_,⟨rfl,rfl⟩⟩⟩;refine goOn m R (q+1) rfl rfl rfl hM.heap hM.in_ hM.ax hM.status _ ?_;rw[hnext];simp only[List.length_cons,List.length_append,List.length_nil];push_cast;omega
  ·rw[if_neg (show¬V.1.n=0 from jB)]at g2;rw[if_pos hn];refine⟨fun h=>(h rfl).elim,fun _=>⟨_,g2 _ (aS.refl _),?_,⟨rfl,rfl⟩⟩⟩;have hk:wZ p n R.ah.pl k b1 (k1+(aR p n x k1).length+1):=by
    refine⟨R.ah.pl.at_.toNat,hi,.inl ⟨?_,jB,?_,?_⟩⟩
    ·show(ai p (ci p R.ah)).kind=16;rw[hnode];exact e
    ·show _=nth (ai p (ci p R.ah)).l 1;rw[hnode,hb0]
    ·show _=cH p (n+1) k R.ah.pl.block R.ah.pl.at_.toNat+1+(aR p n (nth (ai p (ci p R.ah)).l 0) ((cH p (n+1) k R.ah.pl.block R.ah.pl.at_.toNat+1:Nat):Int)).length+1;rw[hnode,hx0,<-hks,hk1]
   have hT:=ID (f:=R.ah) (d:=⟨R.ah.fn,((k1+(aR p n x k1).length:Nat):Int)+1,ks,R.ah.slots,[],q+1⟩) hS hne hk rfl rfl rfl (by push_cast;rfl);exact xp hM hnf h1 hT rfl rfl rfl hM.heap hM.in_ hM.ax hM.status
 ·-- a return
  have hnw:=nowait (by unfold kJ;have e:(nth p.aa.nodes node.toNat).kind=17:=e;omega);refine⟨fun h=>(hnw h).elim,fun _=>?_⟩;rw[jN,jN,jN,jN,if_pos e]at hbody hnext;have hlowU:∀(d:MC) k,k+1<R.nf->qE p C (nth R.aK k) (nth (m.aQ d).calls k):=fun d k hk=>by
   have:nth (m.aQ d).calls k=nth m.calls k:=by show nth (m.calls.set (m.calls.length-1) d) k=_;rw[Go.Gd.bh _ _ _ _ jB,jN]
   rw[this];exact hM.low k hk
  have eD:R.bT p node inp=(if(ai p node).l.length=0 then(R.bL p v0,0)else if(R.val p (nth (ai p node).l 0)).2≠0 then(R,(R.val p (nth (ai p node).l 0)).2)else(R.bL p (R.val p (nth (ai p node).l 0)).1,0)):=by unfold RS.bT;simp only;rw[jN,jN,jN,if_pos e]
  rw[eD];rcases sh.ret e with hlx|⟨x,hlx,hxE⟩
  ·have hlx:(ai p node).l=[]:=hlx;have hl0:(ai p node).l.length=0:=by rw[hlx];rfl
   rw[if_pos hl0]at hbody ⊢;have h22:=hbody.head;obtain⟨m1,g1,M1,K1,_⟩:=AA (C:=C) (inp:=inp) (m:=m.aQ ⟨R.ah.fn,(k1:Int)+1,ks,R.ah.slots,[],j⟩) hw hd.inv t h1 (by rw[MV.bB];exact hlen) (hlowU _) hM.heap hM.in_ hM.ax hst0 hR v0 (Nat.zero_le _);refine⟨fun h=>(h rfl).elim,fun _=>⟨m1,?_,M1,K1⟩⟩;exact aS.ins (c:=⟨R.ah.fn,k1,ks,R.ah.slots,[],j⟩) hcl1 hcl8 hst0 rfl h22.1 h22.2.1 (fun h=>by cases h) (Gn hcl1 hcl8 h22.1 h22.2.1 (.inr (.inr rfl))) (by rw[MV.l8];exact g1)
  ·have hlx:(ai p node).l=[x]:=hlx;have hx0:nth (ai p node).l 0=x:=by rw[hlx];rfl
   have hl1:¬(ai p node).l.length=0:=by rw[hlx];simp
   obtain⟨x1,x2,x3,x4⟩:=ay x (by rw[hlx];simp);rw[if_neg hl1,hx0]at hbody ⊢;have h21:=hbody.last;obtain⟨d,tx⟩:=ex x x1 x2 x3 hxE x4 k1 [] j h21.1 (fun v hv=>by cases hv) jE;have hsx:=tx.size;generalize hV:R.val p x=V at*;by_cases hv0:V.2=0
   rotate_left
   ·rw[if_pos hv0];exact⟨fun _=>d.2 hv0,fun h=>(hv0 h).elim⟩
   rw[if_neg (fun h=>h hv0)];obtain⟨q,g⟩:=d.1 hv0;rw[<-Int.natCast_add]at g;have g2:=fun m' hg=>g.trans (insOne (m':=m') (q:=q) h21.2.1 h21.2.2 (fun h=>by cases h) hsx (.inr (.inr (.inr (.inr rfl)))) hg)
   rw[MV.qB,MV.aV hcl1,MV.cM hcl1]at g2;obtain⟨m1,g1,M1,K1,_⟩:=AA (C:=C) (inp:=inp) (m:=m.aQ (MC.cut ⟨R.ah.fn,((k1+(aR p n x k1).length:Nat):Int)+1,ks,R.ah.slots,[V.1],q⟩ 1)) hw hd.inv t h1 (by rw[MV.bB];exact hlen) (hlowU _) hM.heap hM.in_ hM.ax hst0 hR V.1 hsx;exact⟨fun h=>(h rfl).elim,fun _=>⟨m1,g2 m1 g1,M1,K1⟩⟩
end Go.Proofs.YtfkgcobaheegbaaGreatDoor
namespace Go.Gd
open Go
def MV.iK(m:MV):MV:={ m.aQ { m.af with mark:=m.af.at_,at_:=m.af.at_+1 }with status:=0 }
def MV.ld(m:MV)(C:aE):Prop:=m.status≠0\/(m.bg C).op=1
def MV.ix(m:MV):MV:={ m with time:=if m.status=1 then m.time else m.time+1 }
structure mY(p:ab)(C:aE)(s:aJ)(m:MV):Prop where
 eZ:iL p C (RS.of s) m
 aZ:m.aZ=s.aZ
 time:m.time=s.time
 at_:s.status≠2->0<=m.af.at_/\m.af.at_<C.ins.length/\nth C.ins m.af.at_.toNat=iI 1 (ci p (RS.of s).ah)
end Go.Gd
namespace Go.Proofs.YtfkgcobaheegbaaGreatDoor
open Go Go.Gd
variable{p:ab}{C:aE}{R:RS}{m:MV}
theorem Jq(hs:dx p)(hC:di p C)(hM:iL p C R m)(h1:1<=R.nf)(hf:dr p R.ah)(hb:mI p R.ah):0<=m.af.at_/\m.af.at_<C.ins.length/\nth C.ins m.af.at_.toNat=iI 1 (ci p R.ah):=by have hT:=hM.af h1;obtain⟨n,k,hS,hpos⟩:=hT.pos hb.1;obtain⟨l1,l2,l3,l4⟩:=zu hs hC hf.f0 hf.f1 hS _ _ (kP hb.1);have hX:=hf.pl _ (mD hb.1);have ha0:=hX.a0;have hb2:=hb.2;have hi:R.ah.pl.at_.toNat<(dD p R.ah.pl.block).length:=jB;have hm:ci p R.ah∈dD p R.ah.pl.block:=dT hi;obtain⟨k0,k1,k2,k3⟩:=hX.ay hs hf.f0 hf.f1 hm;obtain⟨n',rfl⟩:∃n',n=n'+1:=⟨n-1,jB⟩;have hl:=y8 l1 hi;rw[wO]at hl;have hh:=hl.head;have hpos:m.af.at_=((mT (gN p (n'+1)) k (dD p R.ah.pl.block) R.ah.pl.at_.toNat:Nat):Int):=hpos;rw[hpos,Int.toNat_natCast];exact⟨jB,by have:=hh.1;omega,hh.2.1⟩
theorem HF(hnf:R.nf<=R.aK.length)(h1:1<=R.nf):(RS.of R.st).ah=R.ah:=by unfold RS.ah;show nth (R.aK.take R.nf) ((R.aK.take R.nf).length-1)=_;rw[show(R.aK.take R.nf).length=R.nf by simp;omega,cd _ _ _ jB]
theorem PG(hnf:R.nf<=R.aK.length)(h:iL p C R m):iL p C (RS.of R.st) m:=by
 have hl:(RS.of R.st).nf=R.nf:=by show(R.aK.take R.nf).length=_;simp;omega
 refine⟨by rw[hl];exact h.len,fun h1=>?_,fun k hk=>?_,h.heap,h.in_,h.ax,h.status⟩
 ·rw[hl]at h1;rw[HF hnf h1];exact h.af h1
 ·rw[hl]at hk;rw[show nth (RS.of R.st).aK k=nth R.aK k from cd _ _ _ jB];exact h.low k hk
variable{inp:List Int}
theorem Dh(hw:iW p)(hC:di p C)(hA:dt p R)(t:ee p R)(hM:iL p C R m)(hR:R.status=0\/R.status=2) :
  ∃m1,aS p C inp m m1/\m1.ld C/\iL p C (RS.of (R.settle p).st) m1/\fu m m1/\((R.settle p).st.status=0\/(R.settle p).st.status=2)/\((R.settle p).st.status≠2->0<=m1.af.at_/\m1.af.at_<C.ins.length/\nth C.ins m1.af.at_.toNat=iI 1 (ci p (RS.of (R.settle p).st).ah)):=by
 obtain⟨m1,g1,M1,K1⟩:=Aa (inp:=inp) hw hC (R.left+1) R m hA.inv t hM jB hR;obtain⟨h1,h2⟩:=sM (R.left+1) R hA.inv jB;have hlw:=uk p (R.left+1) R hA.inv.ok.nf hA.inv.go;change cO p (R.settle p)at h1
 change (R.settle p).status=2\/(1<=(R.settle p).nf/\mI p (R.settle p).ah)at h2
 change iL p C (R.settle p) m1 at M1
 change Lw R (R.settle p)at hlw
 have hst:(R.settle p).status=0\/(R.settle p).status=2:=by
  rcases hlw.st with e|e
  ·rcases hR with h|h
   ·exact .inl (e.trans h)
   ·exact .inr (e.trans h)
  ·exact .inr e.1
 generalize R.settle p=T at*;have hmk:T.status≠2->0<=m1.af.at_/\m1.af.at_<C.ins.length/\nth C.ins m1.af.at_.toNat=iI 1 (ci p (RS.of T.st).ah):=fun e=>by
  rcases h2 with h2|⟨h2,h3⟩
  ·exact(e h2).elim
  ·rw[HF h1.ok.nf h2];exact Jq hw.ok hC M1 h2 (h1.fr _ jB) h3
 refine⟨m1,g1,?_,PG h1.ok.nf M1,K1,hst,hmk⟩;by_cases e:T.status=2
 ·left;rw[M1.status,e];decide
 ·right
  unfold MV.bg;rw[(hmk e).2.2];rfl
variable{a:Int}
theorem DH{s:aJ}(h:jo p s a inp)(b:aJ)(hb:b.in_=s.in_):jo p b a inp:=⟨h.1,h.2.1,by rw[hb];exact h.2.2⟩
theorem OG(hw:iW p)(hC:di p C){s:aJ}(hI:cI p s)(t:ee p (RS.of s))(rg:lU s)(hq:vC inp s)(hn:inp.length<=1000)(h2:¬(s.status=2\/s.status=3))(h:mY p C s m) :
  ∃m1,aS p C inp m.iK m1/\m1.ld C/\mY p C (dn p s inp) m1.ix:=by
 have hs:=hw.ok;have hd:=hI.gM (fun hh=>h2 (.inl hh)) 0 jC;have hat:cu p (RS.of { s with status:=0 }).st=dK p s:=by rw[RS.fy];unfold dK;rw[if_neg h2];rfl
 have hst:(RS.of { s with status:=0 }).st={ s with status:=0 }:=RS.fy _;obtain⟨s0,_⟩:=hd.stmt hs;rw[hat]at s0;have hM0:iL p C (RS.of { s with status:=0 }) { m with status:=0 }:=⟨h.eZ.len,h.eZ.af,h.eZ.low,h.eZ.heap,h.eZ.in_,h.eZ.ax,rfl⟩;have hstf:ci p (RS.of { s with status:=0 }).ah=dK p s:=by rw[<-hat,hd.lV]
 obtain⟨ks,hk1,hk2,hk3,hk4⟩:=Le (inp:=inp) hw hC hd (t:=⟨t.fr,t.link⟩) ⟨rg.sl,rg.hp⟩ hM0 rfl;rw[hstf]at hk3 hk4;have hT:=hM0.af hd.one;have ht0:s.aZ=0:=Classical.byContradiction fun e=>h2 (.inr (hq.aZ.2 e))
 have hbeg:m.iK=MV.aQ { m with status:=0 } ⟨(RS.of { s with status:=0 }).ah.fn,(ks:Int)+1,ks,(RS.of { s with status:=0 }).ah.slots,[],m.af.bo⟩:=by
  unfold MV.iK;have e1:m.af.at_=(ks:Int):=hk1;have e2:m.af.fn=_:=hT.fn;have e3:m.af.slots=_:=hT.slots;have e4:m.af.stack=[]:=hT.stack;have:({ m.af with mark:=m.af.at_,at_:=m.af.at_+1 }:MC)=⟨(RS.of { s with status:=0 }).ah.fn,(ks:Int)+1,ks,(RS.of { s with status:=0 }).ah.slots,[],m.af.bo⟩:=by rw[e1,<-e2,<-e3,<-e4]
  rw[this];rfl
 obtain⟨q1,q2⟩:=hk4 m.af.bo;rw[<-hbeg]at q1 q2;have hback:∀(st tr:Int),iL p C (RS.of { s with status:=st }) ({ m with status:=0 }.fL ⟨(RS.of { s with status:=0 }).ah.fn,(ks:Int)+1,ks,(RS.of { s with status:=0 }).ah.slots,[],m.af.bo⟩ st tr):=fun st tr=>by
  have h1:=hd.one;have hlen:=h.eZ.len;refine xp (R:=RS.of { s with status:=0 }) hM0 jl h1 (g:=(RS.of { s with status:=0 }).ah) (d:=MC.back ⟨(RS.of { s with status:=0 }).ah.fn,(ks:Int)+1,ks,(RS.of { s with status:=0 }).ah.slots,[],m.af.bo⟩) ?_ ?_ rfl rfl h.eZ.heap h.eZ.in_ h.eZ.ax rfl
  ·refine⟨rfl,rfl,rfl,fun hne=>?_,fun e=>(hd.af.1 e).elim⟩;obtain⟨n,k,a,b⟩:=hT.pos hne;exact⟨n,k,a,by rw[<-b];exact hk1.symm⟩
  ·show s.aq=(RS.of { s with status:=0 }).aK.set _ (nth (RS.of { s with status:=0 }).aK ((RS.of { s with status:=0 }).nf-1));have h1:1<=s.aq.length:=h1;show s.aq=s.aq.set (s.aq.length-1) (nth s.aq (s.aq.length-1));rw[dN jB,List.set_getElem_self]
 have hbtop:∀st tr:Int,({ m with status:=0 }.fL ⟨(RS.of { s with status:=0 }).ah.fn,(ks:Int)+1,ks,(RS.of { s with status:=0 }).ah.slots,[],m.af.bo⟩ st tr).af.at_=(ks:Int):=fun st tr=>by
  have h1:=hd.one;have hlen:=h.eZ.len;have h1':1<=m.calls.length:=by have:(RS.of s).nf=(RS.of { s with status:=0 }).nf:=rfl;omega
  have:=MV.aV (M:={ m with status:=0 }) h1' (MC.back ⟨(RS.of { s with status:=0 }).ah.fn,(ks:Int)+1,ks,(RS.of { s with status:=0 }).ah.slots,[],m.af.bo⟩);show(MV.af (MV.aQ { m with status:=0 } (MC.back _))).at_=_;rw[this];rfl
 have hkey:∀M':MV,M'.af.at_=(ks:Int)->0<=M'.af.at_/\M'.af.at_<C.ins.length/\nth C.ins M'.af.at_.toNat=iI 1 (ci p (RS.of { s with status:=0 }).ah):=fun M' e=>by rw[e,Int.toNat_natCast];exact⟨jB,jB,by rw[hk3,hstf]⟩
 unfold dn;rw[jN];by_cases hwt:jo p s (dK p s) inp
 ·rw[if_pos hwt];refine⟨_,q1 (by rw[hst];exact DH hwt _ rfl),.inl (by show¬((1:Int)=0);decide),⟨?_,?_,?_,fun _=>?_⟩⟩
  ·have:=hback 1 0;exact⟨this.len,this.af,this.low,this.heap,this.in_,this.ax,this.status⟩
  ·show(0:Int)=s.aZ;exact ht0.symm
  ·show(if(1:Int)=1 then m.time else m.time+1)=s.time;rw[if_pos rfl];exact h.time
  ·exact hkey (MV.ix _) (hbtop 1 0)
 rw[if_neg hwt];have hwt':¬jo p (RS.of { s with status:=0 }).st (dK p s) inp:=by rw[hst];exact fun hh=>hwt (DH hh _ rfl)
 obtain⟨q3,q4⟩:=q2 hwt';have hA:=fun e=>hd.bT hs hn (by rw[hat];exact hwt') e
 have hmv:=Ah hs hd (inp:=inp) (by rw[hat];exact hwt');have hW:=fun e=>ee.bT hw hd (t:=⟨t.fr,t.link⟩) hn (by rw[hat];exact hwt') e
 rw[hat]at hA hW hmv;simp only;generalize (RS.of { s with status:=0 }).bT p (dK p s) inp=X at*;by_cases hz:X.2=0
 rotate_left
 ·rw[if_pos hz];refine⟨_,q3 hz,.inl (by show¬((3:Int)=0);decide),⟨?_,rfl,?_,fun _=>?_⟩⟩
  ·have:=hback 3 X.2;exact⟨this.len,this.af,this.low,this.heap,this.in_,this.ax,this.status⟩
  ·show(if(3:Int)=1 then m.time else m.time+1)=s.time+1;rw[if_neg jC,h.time]
  ·exact hkey (MV.ix _) (hbtop 3 X.2)
 rw[if_neg (fun h=>h hz)];obtain⟨m1,g1,M1,K1⟩:=q4 hz;have hX:=hA hz;have hXs:X.1.status=0\/X.1.status=2:=by
  rcases hmv.st with e|e
  ·exact .inl e
  ·exact .inr e.1
 have hX2:dt p { X.1 with time:=s.time+1 }:=⟨⟨⟨hX.inv.ok.nf,hX.inv.ok.jp⟩,hX.inv.aK,hX.inv.fr,hX.inv.busy,hX.inv.go⟩,hX.cells,hX.outs,hX.gK,hX.gw⟩;have hW2:ee p { X.1 with time:=s.time+1 }:=⟨(hW hz).fr,(hW hz).link⟩;have hM2:iL p C { X.1 with time:=s.time+1 } m1:=⟨M1.len,M1.af,M1.low,M1.heap,M1.in_,M1.ax,M1.status⟩;obtain⟨m2,g2,S2,M2,K2,st2,mk2⟩:=Dh (inp:=inp) hw hC hX2 hW2 hM2 hXs;have htime:=(oa p (RS.left { X.1 with time:=s.time+1 }+1) { X.1 with time:=s.time+1 }).time;have htrap:=(oa p (RS.left { X.1 with time:=s.time+1 }+1) { X.1 with time:=s.time+1 }).aZ;have htime:(RS.settle { X.1 with time:=s.time+1 } p).st.time=s.time+1:=htime;have htrap:(RS.settle { X.1 with time:=s.time+1 } p).st.aZ=X.1.aZ:=htrap;have hXt:X.1.aZ=s.aZ:=hmv.aZ;refine⟨m2,g1.trans g2,S2,⟨⟨M2.len,M2.af,M2.low,M2.heap,M2.in_,M2.ax,M2.status⟩,?_,?_,mk2⟩⟩
 ·show m2.aZ=_;rw[K2.1,K1.1,htrap,hXt];exact h.aZ
 ·show(if m2.status=1 then m2.time else m2.time+1)=_;have hs2:m2.status≠1:=by
   have:=M2.status;have:m2.status=(RS.settle { X.1 with time:=s.time+1 } p).st.status:=this;omega
  rw[if_neg hs2,htime,K2.2,K1.2];show m.time+1=_;rw[h.time]
-- how long codes are
theorem mh{p:ab}(ht:aH p.aa):∀(n:Nat) (a k:Int) (lo:Nat),0<=a->a.toNat<p.aa.nodes.length->bQ (bt p.aa.nodes a)->aG p.aa.nodes lo (ai p a).l a.toNat->(aR p n a k).length+4*lo<=4*(a.toNat+1)
 |0,a,k,lo,h0,hl,hk,hc=>by have:=hc.le;show 0+_<=_;omega
 |n+1,a,k,lo,h0,hl,hk,hc=>by
  have hle:=hc.le;have sh:=(ht.shape a.toNat hl).1;have hk':bQ (ai p a).kind:=hk;unfold bQ at hk';rw[lQ];have one:∀x,(ai p a).l=[x]->bQ (bt p.aa.nodes x)->(aR p n (nth (ai p a).l 0) k).length+1+4*lo<=4*(a.toNat+1):=fun x hlx hx=>by rw[hlx]at hc;obtain⟨c1,c2,c3,c4,c5⟩:=jT hc;have:=mh ht n x k lo c1 jB hx c5;rw[hlx];show(aR p n x k).length+1+_<=_;omega
  have hcase:(ai p a).kind=1\/(ai p a).kind=2\/(ai p a).kind=3\/(ai p a).kind=4\/(ai p a).kind=5\/(ai p a).kind=6\/(ai p a).kind=7\/(ai p a).kind=8\/(ai p a).kind=9:=jB;rcases hcase with e|e|e|e|e|e|e|e|e<;>simp only[e,Int.reduceEq,↓reduceIte,List.length_append,List.length_cons,List.length_nil]
  ·omega
  ·omega
  ·omega
  ·omega
  ·obtain⟨x,hlx,hx⟩:=sh.one (.inl e);have:=one x hlx hx;omega
  ·obtain⟨x,hlx,hx⟩:=sh.one (by have e:(nth p.aa.nodes a.toNat).kind=6:=e;omega);have:=one x hlx hx;omega
  ·obtain⟨x,hlx,hx⟩:=sh.one (by have e:(nth p.aa.nodes a.toNat).kind=7:=e;omega);have:=one x hlx hx;omega
  ·obtain⟨x,hlx,hx⟩:=sh.one (by have e:(nth p.aa.nodes a.toNat).kind=8:=e;omega);have:=one x hlx hx;omega
  ·obtain⟨x,y,hlx,hx,hy⟩:=sh.two (.inl e);have hlx:(ai p a).l=[x,y]:=hlx;rw[hlx]at hc;obtain⟨c1,c2,c3,c4,c5,c6⟩:=iz hc;obtain⟨d1,d2,d3,d4,d5⟩:=jT c6;have e1:=fun k=>mh ht n x k lo c1 jB hx c5
   have e2:=fun k=>mh ht n y k (x.toNat+1) d1 jB hy d5
   rw[hlx,show nth [x,y] 0=x from rfl,show nth [x,y] 1=y from rfl];split
   ·simp only[List.length_append,List.length_cons,List.length_nil];have:=e1 k;have:=e2 (k+(aR p n x k).length);omega
   ·simp only[List.length_append,List.length_cons,List.length_nil];have:=e1 k;have:=e2 (k+(aR p n x k).length+1);omega
theorem wY{p:ab}{f:Int->Int->List au}:∀(L:List Int) (k:Int) (lo hi:Nat),aG p.aa.nodes lo L hi->(∀x∈L,∀k lo,aG p.aa.nodes lo (ai p x).l x.toNat->(f x k).length+4*lo<=4*(x.toNat+1))->(lays f k L []).length+4*lo<=4*hi
 |[],k,lo,hi,hc,h=>by cases hc;show 0+_<=_;omega
 |x::L,k,lo,hi,hc,h=>by
  show(lays f k L ([]++f x (k+((0:Nat):Int)))).length+_<=_;rw[vH,List.nil_append,List.length_append];obtain⟨c1,c2,c3,c4,c5,c6⟩:=iz hc;have h1:=h x jE (k+((0:Nat):Int)) lo c5;have h2:=wY L (k+(f x (k+((0:Nat):Int))).length) _ hi c6 fun y hy=>h y (by simp[hy])
  omega
theorem z7(ht:aH p.aa)(n:Nat)(k:Int)(lo:Nat)(hl:a.toNat<p.aa.nodes.length)(hk:(ai p a).kind=21)(hc:aG p.aa.nodes lo (ai p a).l a.toNat):(cC p n a k).length+4*lo<=4*(a.toNat+1):=by
 have hsh:=ht.shape a.toNat hl;have:=wY (f:=aR p n) (ai p a).l k lo a.toNat hc fun x hx k lo hcx=>by have hb:=hsh.2.1 x hx;exact mh ht n x k lo hb.1 jB (hsh.1.call hk x hx) hcx
 unfold cC;rw[List.length_append,List.length_singleton];omega
theorem HJ(ht:aH p.aa)(n:Nat)(k:Int)(lo:Nat)(h0:0<=a)(hl:a.toNat<p.aa.nodes.length)(hk:dW (bt p.aa.nodes a))(hc:aG p.aa.nodes lo (ai p a).l a.toNat):(je p n a k).length+4*lo<=4*(a.toNat+1):=by
 have hle:=hc.le;rw[sW];split
 ·simp only[List.length_cons,List.length_nil];omega
 rename_i e19;split
 ·rename_i e;obtain⟨x,hlx,hx⟩:=(ht.shape a.toNat hl).1.one (by have e:(nth p.aa.nodes a.toNat).kind=20:=e;omega);have hlx:(ai p a).l=[x]:=hlx;rw[hlx]at hc;obtain⟨c1,c2,c3,c4,c5⟩:=jT hc;have:=mh ht n x k lo c1 jB hx c5;rw[hlx,List.length_append,List.length_singleton];show(aR p n x k).length+1+_<=_;omega
 rename_i e20;split
 ·rename_i e;exact z7 ht n k lo hl e hc
 ·rename_i e21;refine mh ht n a k lo h0 hl ?_ hc;rcases hk with hk|hk|hk|hk
  ·exact hk
  ·exact(e19 hk).elim
  ·exact(e20 hk).elim
  ·exact(e21 hk).elim
theorem A5{p:ab}(ht:aH p.aa):∀(n:Nat) (a k:Int) (lo:Nat),0<=a->a.toNat<p.aa.nodes.length->dL (bt p.aa.nodes a)->aG p.aa.nodes lo (ai p a).l a.toNat->(gN p n a k).length+4*lo<=4*(a.toNat+1)
 |0,a,k,lo,h0,hl,hk,hc=>by have:=hc.le;show 0+_<=_;omega
 |n+1,a,k,lo,h0,hl,hk,hc=>by
  have hle:=hc.le;have sh:=(ht.shape a.toNat hl).1;have hk':dL (ai p a).kind:=hk;unfold dL at hk';rw[wO,List.length_cons];have blk:∀(b:Int) (lo:Nat) (k:Int),0<=b->b.toNat<p.aa.nodes.length->bt p.aa.nodes b=18->aG p.aa.nodes lo (ai p b).l b.toNat->(lays (gN p n) k (ai p b).l []).length+4*lo<=4*b.toNat:=fun b lo k b0 b1 b2 b3=>
   wY (ai p b).l k lo b.toNat b3 fun x hx k lo hcx=>by have hb:=(ht.shape b.toNat b1).2.1 x hx;exact A5 ht n x k lo hb.1 jB ((ht.shape b.toNat b1).1.block b2 x hx) hcx
  split
  ·rename_i e;obtain⟨x,hlx,hx⟩:=sh.right e;have hlx:(ai p a).l=[x]:=hlx;rw[hlx]at hc;obtain⟨c1,c2,c3,c4,c5⟩:=jT hc;have:=HJ ht n (k+1) lo c1 jB hx c5;rw[hlx,List.length_append,List.length_singleton];show(je p n x (k+1)).length+1+1+_<=_;omega
  split
  ·rename_i e;obtain⟨x,y,hlx,hx,hy⟩:=sh.two (.inr e);have hlx:(ai p a).l=[x,y]:=hlx;rw[hlx]at hc;obtain⟨c1,c2,c3,c4,c5,c6⟩:=iz hc;obtain⟨d1,d2,d3,d4,d5⟩:=jT c6;have e1:=mh ht n x (k+1) lo c1 jB hx c5;have e2:=mh ht n y (k+1+(aR p n x (k+1)).length) (x.toNat+1) d1 jB hy d5;rw[hlx,show nth [x,y] 0=x from rfl,show nth [x,y] 1=y from rfl];simp only[List.length_append,List.length_cons,List.length_nil];omega
  split
  ·rename_i e;obtain⟨x,hlx,hx⟩:=sh.nL e;have hlx:(ai p a).l=[x]:=hlx;rw[hlx]at hc;obtain⟨c1,c2,c3,c4,c5⟩:=jT hc;have:=z7 ht n (k+1) lo jB hx c5;rw[hlx,List.length_append,List.length_singleton];show(cC p n x (k+1)).length+1+1+_<=_;omega
  split
  ·rename_i e;obtain⟨x,hlx,hx⟩:=sh.one (by have e:(nth p.aa.nodes a.toNat).kind=14:=e;omega);have hlx:(ai p a).l=[x]:=hlx;rw[hlx]at hc;obtain⟨c1,c2,c3,c4,c5⟩:=jT hc;have:=mh ht n x (k+1) lo c1 jB hx c5;rw[hlx,List.length_append,List.length_singleton];show(aR p n x (k+1)).length+1+1+_<=_;omega
  split
  ·rename_i e;rcases sh.ret e with hlx|⟨x,hlx,hx⟩
   ·have hlx:(ai p a).l=[]:=hlx;rw[hlx,if_pos (show([]:List Int).length=0 from rfl)];simp only[List.length_cons,List.length_nil];omega
   ·have hlx:(ai p a).l=[x]:=hlx;rw[hlx]at hc;obtain⟨c1,c2,c3,c4,c5⟩:=jT hc;have:=mh ht n x (k+1) lo c1 jB hx c5;rw[hlx,if_neg jE,List.length_append,List.length_singleton];show(aR p n x (k+1)).length+1+1+_<=_;omega
  ·rename_i n1 n2 n3 n4 n5;by_cases k16:(ai p a).kind=16
   ·rw[BQ k16];obtain⟨x,b,hlx,hx,hb⟩:=sh.dS k16;have hlx:(ai p a).l=[x,b]:=hlx;rw[hlx]at hc;obtain⟨c1,c2,c3,c4,c5,c6⟩:=iz hc;obtain⟨d1,d2,d3,d4,d5⟩:=jT c6;rw[hlx,show nth [x,b] 0=x from rfl,show nth [x,b] 1=b from rfl];have e1:=mh ht n x (k+1) lo c1 jB hx c5;have e2:=blk b (x.toNat+1) (k+1+(aR p n x (k+1)).length+1) d1 jB hb d5;simp only[List.length_append,List.length_cons,List.length_nil];omega
   have k15:(ai p a).kind=15:=jB;obtain⟨x,b,hx,hb,hlx⟩:=sh.kz k15;rcases hlx with hlx|⟨d,hlx,hd⟩
   ·have hlx:(ai p a).l=[x,b]:=hlx;rw[CW k15 (by rw[hlx];simp)];rw[hlx]at hc;obtain⟨c1,c2,c3,c4,c5,c6⟩:=iz hc;obtain⟨d1,d2,d3,d4,d5⟩:=jT c6;rw[hlx,show nth [x,b] 0=x from rfl,show nth [x,b] 1=b from rfl];have e1:=mh ht n x (k+1) lo c1 jB hx c5;have e2:=blk b (x.toNat+1) (k+1+(aR p n x (k+1)).length+1) d1 jB hb d5;simp only[List.length_append,List.length_cons,List.length_nil];omega
   ·have hlx:(ai p a).l=[x,b,d]:=hlx;rw[xZ k15 (by rw[hlx];rfl)];rw[hlx]at hc;obtain⟨c1,c2,c3,c4,c5,c6⟩:=iz hc;obtain⟨d1,d2,d3,d4,d5,d6⟩:=iz c6;obtain⟨g1,g2,g3,g4,g5⟩:=jT d6;rw[hlx,show nth [x,b,d] 0=x from rfl,show nth [x,b,d] 1=b from rfl,show nth [x,b,d] 2=d from rfl];have e1:=mh ht n x (k+1) lo c1 jB hx c5;have e2:=blk b (x.toNat+1) (k+1+(aR p n x (k+1)).length+1) d1 jB hb d5;have e3:=blk d (b.toNat+1) (k+1+(aR p n x (k+1)).length+1+(lays (gN p n) (k+1+(aR p n x (k+1)).length+1) (ai p b).l []).length+1) g1 jB hd g5;simp only[List.length_append,List.length_cons,List.length_nil];omega
def fe(p:ab)(i:Nat):aE:=(p.aa.ao.take i).foldl (Ba p) ⟨[],[]⟩
theorem yf(p:ab)(i:Nat)(h:i<p.aa.ao.length):fe p (i+1)=Ba p (fe p i) (nth p.aa.ao i):=by unfold fe;rw[vR _ _ h,List.foldl_append];rfl
theorem yg(p:ab):∀i,i<=p.aa.ao.length->(fe p i).entry.length=i
 |0,_=>rfl
 |i+1,h=>by rw[yf p i jB];show((fe p i).entry++[_]).length=_;rw[List.length_append,yg p i jB];rfl
theorem FW(p:ab)(j:Nat):∀i,j<i->i<=p.aa.ao.length->∃k:Nat,nth (fe p i).entry j=(k:Int)/\bJ (fe p i).ins k (lb p (lB p) k (nth p.aa.ao j).body++[iI 22 (nth p.aa.ao j).ret])
 |0,h,_=>by omega
 |i+1,h,hi=>by
  rw[yf p i jB];have hl:=yg p i jB;by_cases e:j<i
  ·obtain⟨k,h1,post,h2⟩:=FW p j i e jB;refine⟨k,?_,post++(qi p (lB p) (nth p.aa.ao i).body (fe p i).ins.length++[iI 22 (nth p.aa.ao i).ret]),?_⟩
   ·show nth ((fe p i).entry++[_]) j=_;rw[my jB];exact h1
   ·show((fe p i).ins++_++_).drop k=_;have hk:k<=(fe p i).ins.length:=Classical.byContradiction fun hk=>by
     rw[List.drop_eq_nil_of_le jB]at h2;have:=congrArg List.length h2;simp at this
    rw[List.append_assoc,List.drop_append_of_le_length hk,h2,List.append_assoc]
  ·have:j=i:=jB;subst this;refine⟨(fe p j).ins.length,?_,[],?_⟩
   ·show nth ((fe p j).entry++[((fe p j).ins.length:Int)]) j=_;have:=nM (fe p j).entry ((fe p j).ins.length:Int);rw[hl]at this;exact this
   ·show((fe p j).ins++qi p (lB p) (nth p.aa.ao j).body (fe p j).ins.length++[iI 22 (nth p.aa.ao j).ret]).drop (fe p j).ins.length=_;rw[List.append_assoc,List.drop_left,List.append_nil];rfl
theorem BV{p:ab}(hs:dx p):∀i,i<=p.aa.ao.length->(fe p i).ins.length<=2000*i
 |0,_=>Nat.le_refl _
 |i+1,h=>by
  have ih:=BV hs i jB;rw[yf p i jB];have hbN:=oG hs.ok.aa (k:=i) jB;have hc:=(hs.ao i jB).chain;have hm:=hs.ok.aa.many;have hk18:=hs.ok.aa.body _ (dT (l:=p.aa.ao) (k:=i) jB);have hsh:=hs.ok.aa.shape (nth p.aa.ao i).body.toNat (by have:=hbN.1;have:=hbN.2;omega);have hb:=wY (p:=p) (f:=gN p (lB p)) (ai p (nth p.aa.ao i).body).l (fe p i).ins.length (ow p.aa i) (nth p.aa.ao i).body.toNat hc fun x hx k lo hcx=>by have hb:=hsh.2.1 x hx;have:=hbN.1;have:=hbN.2;exact A5 hs.ok.aa _ x k lo hb.1 jB (hsh.1.block hk18 x hx) hcx
  show((fe p i).ins++qi p (lB p) (nth p.aa.ao i).body (fe p i).ins.length++[iI 22 (nth p.aa.ao i).ret]).length<=_;rw[List.length_append,List.length_append,List.length_singleton];have:=hbN.1;have:=hbN.2;unfold qi;have:(nth p.aa.ao i).body.toNat<=300:=jB;omega
theorem o0(hs:dx p):di p (gU p):=by
 have e:gU p=fe p p.aa.ao.length:=by unfold gU fe;rw[List.take_length]
 have hf:=hs.ok.aa.ao;rw[e];exact⟨yg p _ jl,fun j hj=>FW p j _ hj jl,by have:=BV hs _ (Nat.le_refl p.aa.ao.length);omega⟩
def vM(p:ab)(C:aE):MV:=⟨[MV.io p C (jy p) []],0,[],0,[],0,0,0⟩
theorem Pq(hw:iW p)(hC:di p C):∃m1,aS p C inp (vM p C) m1/\m1.ld C/\mY p C (ot p) m1:=by
 obtain⟨j,hj,hidx,_,hpar⟩:=yS hw.ok;obtain⟨ek,e1,e2⟩:=FC hC hj;have hM:iL p C (gO p) (vM p C):=by
  refine⟨rfl,fun _=>?_,fun k hk=>?_,rfl,rfl,rfl,rfl⟩
  ·show lF p C (jc p (jy p) []) (MV.io p C (jy p) []);rw[hidx];refine⟨rfl,rfl,rfl,fun _=>⟨lB p,ek,.base _ ek rfl e2,?_⟩,fun h=>by cases h⟩;show MV.iJ C j=((mT _ ek _ 0:Nat):Int);rw[e1];rfl
  ·have hk:k+1<1:=hk;omega
 obtain⟨m1,g1,s1,M1,K1,st1,mk1⟩:=Dh (inp:=inp) hw hC (th hw.ok) (Eg hw) hM (.inl rfl);have hkp:=oa p ((gO p).left+1) (gO p);exact⟨m1,g1,s1,⟨M1,K1.1.trans hkp.aZ.symm,K1.2.trans hkp.time.symm,mk1⟩⟩
end Go.Proofs.YtfkgcobaheegbaaGreatDoor
