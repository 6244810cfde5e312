/- Lemmas. No conditions. -/
import Derived.Test.YtbjookcdpondlaaGreatDoorVnB
set_option linter.all false
set_option maxHeartbeats 4000000
set_option maxRecDepth 10000
namespace Go.Gd
open Go
def MV.iQ(m:MV):MV:={ m.aS { m.aj with mark:=m.aj.at_,at_:=m.aj.at_+1 }with status:=0 }
def MV.lc(m:MV)(C:aI):Prop:=m.status≠0\/(m.br C).op=1
def MV.iF(m:MV):MV:={ m with time:=if m.status=1 then m.time else m.time+1 }
structure pZ(p:ab)(C:aI)(s:aM)(m:MV):Prop where
 fA:iY p C (RS.of s) m
 bp:m.bp=s.bp
 time:m.time=s.time
 at_:s.status≠2->0<=m.aj.at_/\m.aj.at_<C.ins.length/\nth C.ins m.aj.at_.toNat=iI 1 (cD p (RS.of s).ah)
def kJ(h:SH)(k:Nat):Nat:=(h.take k).flatten.length
def l8(h:SH):SI:=(List.range h.length).map fun k=>((kJ h (k+1):Nat):Int)
def vH(h:SH):(l8 h).length=h.length:=by simp[l8]
variable{h:SH}{k:Nat}
def uP(hk:k<h.length):kJ h (k+1)=kJ h k+(nth h k).length:=by unfold kJ;rw[List.take_succ,List.getElem?_eq_getElem hk,List.flatten_append,List.length_append,dV hk];simp
def wQ(h:SH)(k:Nat):kJ h k<=h.flatten.length:=by
 unfold kJ;have:h.flatten=(h.take k).flatten++(h.drop k).flatten:=by rw[<-List.flatten_append,List.take_append_drop]
 rw[this,List.length_append];omega
def Gc(hk:k<h.length):nth (l8 h) k=(kJ h (k+1):Nat):=by rw[dV (by rw[vH];exact hk)];simp[l8]
def Kw{i:Nat}(hk:k<h.length)(hi:i<(nth h k).length):nth h.flatten (kJ h k+i)=nth (nth h k) i:=by
 have e:h.flatten=(h.take k).flatten++(nth h k++(h.drop (k+1)).flatten):=by rw[dV hk,<-List.flatten_cons,List.getElem_cons_drop,<-List.flatten_append,List.take_append_drop]
 rw[e];unfold kJ;unfold nth at hi ⊢;rw[List.getD_eq_getElem?_getD,List.getElem?_append_right jB,Nat.add_sub_cancel_left,List.getElem?_append_left hi,<-List.getD_eq_getElem?_getD]
def NO{i:Nat}(n:Int)(hk:k<h.length)(hi:i<(nth h k).length):(h.set k ((nth h k).set i n)).flatten=h.flatten.set (kJ h k+i) n:=by
 have e:h.flatten=(h.take k).flatten++(nth h k++(h.drop (k+1)).flatten):=by rw[dV hk,<-List.flatten_cons,List.getElem_cons_drop,<-List.flatten_append,List.take_append_drop]
 have e2:h.set k ((nth h k).set i n)=h.take k++((nth h k).set i n::h.drop (k+1)):=by rw[List.set_eq_take_append_cons_drop,if_pos hk]
 rw[e2,List.flatten_append,List.flatten_cons,e];unfold kJ;rw[List.set_append_right _ _ jB,Nat.add_sub_cancel_left,List.set_append_left _ _ hi]
def OW(l:SI)(hl:l.length=(nth h k).length)(hk:k<h.length):l8 (h.set k l)=l8 h:=by
 unfold l8;rw[List.length_set];apply List.map_congr_left;intro j _;congr 1
 unfold kJ;rw[List.take_set,List.length_flatten,List.length_flatten,List.map_set];congr 1
 apply List.ext_getElem jE;intro i h1 h2;rw[List.getElem_set];split
 ·rename_i e;subst e;rw[List.getElem_map,List.getElem_take,hl,dV hk]
 ·rfl
def gK(h:SH):SF:=[(2,.var 116 [.rs 3 h.flatten.length 1 h.flatten.length,.rs 4 h.length 1 h.length]),(3,.aK 3 1 (h.flatten.map eI)),(4,.aK 3 1 ((l8 h).map eI))]
attribute [go_sem] gK
def Ls(h:SH)(k:Nat):(h++[List.replicate k 0]).flatten=h.flatten++List.replicate k 0:=jE
def NB(h:SH)(k:Nat):l8 (h++[List.replicate k 0])=l8 h++[((h.flatten.length+k:Nat):Int)]:=by
 unfold l8;rw[List.length_append,List.length_singleton,List.range_succ,List.map_append,List.map_singleton];congr 1
 ·apply List.map_congr_left;intro j hj;have hj:j<h.length:=List.mem_range.1 hj;congr 1
  unfold kJ;rw[List.take_append_of_le_length jB]
 ·congr 2
  unfold kJ;rw[List.take_of_length_le jE];simp
def KD(k:Nat):(List.replicate k (0:Int)).map eI=List.replicate k [AV.raw (.int .i64 0)]:=by simp[eI]
def kH(p:ab):SG:=[bh dO 5 p.aa.nodes,bh gr 5 p.aa.aq,bh eI 1 p.types,bh eI 1 p.slots,bh eI 1 p.fn,bh eI 1 p.size]
def BF(p:ab):bV p=kH p:=rfl
def bY(p:ab)(L:List av):SF:=[(0,.var 113 (kH p++[.rs 1 L.length 4 L.length])),(1,.aK 91 4 (L.map du))]
attribute [go_sem] bY kH
def MH(f:Int->Int->List av)(k:Int)(L:SI)(i:Nat):(bz f k (L.take i) []).length<=(bz f k L []).length:=by have e:=xD f (L.take i) (L.drop i) k [];rw[List.take_append_drop]at e;rw[e,uO f (L.drop i)];simp
def NK(f:Int->Int->List av)(k:Int)(L:SI)(i:Nat)(h:i<L.length):bz f k (L.take (i+1)) []=bz f k (L.take i) []++f (nth L i) (k+(bz f k (L.take i) []).length):=by rw[show L.take (i+1)=L.take i++[nth L i] by rw[List.take_succ,List.getElem?_eq_getElem h,dV h];rfl,xD];rfl
end Go.Gd
namespace Go.Proofs.YtbjookcdpondlaaGreatDoor
open Go Go.Gd Tryz
def yl(p:ab)(n:Nat)(a k:Int):gX p (n+1) a k=iI 1 a::(
  if(ao p a).kind=10\/(ao p a).kind=11 then jt p n (nth (ao p a).l 0) (k+1)++[iI 6 (nth p.slots a.toNat)]
  else if(ao p a).kind=12 then aV p n (nth (ao p a).l 0) (k+1)++aV p n (nth (ao p a).l 1) (k+1+(aV p n (nth (ao p a).l 0) (k+1)).length)++[iI 12 (nth p.slots a.toNat)]
  else if(ao p a).kind=13 then cW p n (nth (ao p a).l 0) (k+1)++[iI 23 0]
  else if(ao p a).kind=14 then aV p n (nth (ao p a).l 0) (k+1)++[iI 15 0]
  else if(ao p a).kind=17 then(if(ao p a).l.length=0 then[iI 22 0]else aV p n (nth (ao p a).l 0) (k+1)++[iI 21 0])
  else p9 p n (fun b f=>bz (gX p n) f (ao p b).l []) a (k+1)):=rfl
variable{p:ab}{C:aI}{R:RS}{m:MV}
def P4(hs:cY p)(hC:dB p C)(hd:bt p R)(hM:iY p C R m):∃n k ks:Nat,db p C R.ah.fn R.ah.path (n+1) k/\ks=cf p (n+1) k R.ah.pl.block R.ah.pl.at_.toNat/\m.aj.at_=(ks:Int)/\bR C.ins ks (gX p (n+1) (cD p R.ah) ks)/\
  cf p (n+1) k R.ah.pl.block (R.ah.pl.at_.toNat+1)=ks+(gX p (n+1) (cD p R.ah) ks).length/\lL p R.ah.fn.toNat (cD p R.ah)/\0<=cD p R.ah/\(cD p R.ah).toNat<n+1/\(cD p R.ah).toNat<p.aa.nodes.length:=by
 have hf:=hd.fr;have hT:=hM.aj hd.one;obtain⟨n,k,hS,Tk⟩:=hT.pos hd.aj.1;obtain⟨l1,l2,l3,l4⟩:=yM hs hC hf.f0 hf.f1 hS _ _ (lE hd.aj.1);have hX:=hf.pl _ (lJ hd.aj.1);have Ua:=hX.a0;have Us:=hd.aj.2;have hi:R.ah.pl.at_.toNat<(dz p R.ah.pl.block).length:=jB;have hm:cD p R.ah∈dz p R.ah.pl.block:=er hi;obtain⟨k0,k1,k2,k3⟩:=hX.aE hs hf.f0 hf.f1 hm;obtain⟨n',rfl⟩:∃n',n=n'+1:=⟨n-1,jB⟩;exact⟨n',k,_,hS,rfl,Tk,z7 l1 hi,DJ _ _ _ _ hi,⟨k2,by have:=hX.hi;omega⟩,k0,jB,jB⟩
variable{slots:List ak}
def ED{M:MV}{k:Nat}{x:av}{fn ks:Int}{u:ak}{q:Nat}(h1:1<=M.calls.length)(h8:M.calls.length<=8)(hl:k<C.ins.length)(hx:nth C.ins k=x)(hu:u.s.size<=40)
  (ho:(x.op=6/\0<=x.a/\x.a<slots.length)\/x.op=13\/(x.op=15/\dr u.n)\/(x.op=17/\(u.n=0\/u.n=1))\/x.op=21):(M.aS ⟨fn,k,ks,slots,[u],q⟩).cX p C:=by
 have VK:MC.last ⟨fn,k,ks,slots,[u],q⟩=u:=rfl;refine cX.pQ h1 h8 rfl hl hx (fun _=>jE) (fun h=>jB) (fun h=>by show 0<=x.a/\x.a<slots.length;omega) (fun h=>by rw[VK];omega) (fun h=>jB) (fun h=>jB) jB (fun h=>?_) (fun v hv=>by rw[List.mem_singleton.1 hv];exact hu) jE;rw[VK];rcases ho with ho|ho|ho|ho|ho
 ·omega
 ·omega
 ·exact ho.2
 ·omega
 ·omega
def F9{M:MV}{k:Nat}{x:av}{fn ks:Int}{q:Nat}(h1:1<=M.calls.length)(h8:M.calls.length<=8)(hl:k<C.ins.length)(hx:nth C.ins k=x)(ho:x.op=14\/x.op=16\/x.op=22):(M.aS ⟨fn,k,ks,slots,[],q⟩).cX p C:=
 cX.pQ h1 h8 rfl hl hx (fun h=>jB) (fun h=>jB) (fun h=>jB) (fun h=>jB) (fun h=>jB) (fun h=>jB) jB (fun h=>jB) (fun v hv=>by cases hv) jE
def uI(p:ab)(n:Nat)(a k:Int):jt p n a k=(if(ao p a).kind=19 then[iI 14 0]else if(ao p a).kind=20 then aV p n (nth (ao p a).l 0) k++[iI 13 0]else if(ao p a).kind=21 then cW p n a k else aV p n a k):=rfl
variable{inp:SI}
def R8(hw:kf p)(hC:dB p C)(hd:bt p R)(t:eN p R)(rg:bW R)(hM:iY p C R m)(hR:R.status=0) :
  ∃ks:Nat,m.aj.at_=(ks:Int)/\ks<C.ins.length/\nth C.ins ks=iI 1 (cD p R.ah)/\∀j,
   (kn p R.st (cD p R.ah) inp->aW p C inp (m.aS ⟨R.ah.fn,(ks:Int)+1,ks,R.ah.slots,[],j⟩) (m.fU ⟨R.ah.fn,(ks:Int)+1,ks,R.ah.slots,[],j⟩ 1 0))/\
   (¬kn p R.st (cD p R.ah) inp->
    ((R.bO p (cD p R.ah) inp).2≠0->aW p C inp (m.aS ⟨R.ah.fn,(ks:Int)+1,ks,R.ah.slots,[],j⟩) (m.fU ⟨R.ah.fn,(ks:Int)+1,ks,R.ah.slots,[],j⟩ 3 (R.bO p (cD p R.ah) inp).2))/\
    ((R.bO p (cD p R.ah) inp).2=0->∃m1,aW p C inp (m.aS ⟨R.ah.fn,(ks:Int)+1,ks,R.ah.slots,[],j⟩) m1/\iY p C (R.bO p (cD p R.ah) inp).1 m1/\fG m m1)):=by
 have hs:=hw.ok;obtain⟨n,k,ks,hS,WR,Tk,TV,Tq,hIn,s0,sn,sl⟩:=P4 hs hC hd hM;have h1:=hd.one;have h8:=hd.inv.aw;have UA:=hd.full;have TB:=hd.inv.ok.nf;have D':=hM.len;have hf:=hd.fr;have f0:=hf.f0;have f1:=hf.f1;have Uu:m.status=0:=hM.status.trans hR;have Tl:1<=m.calls.length:=jB;have UM:m.calls.length<=8:=jB;have hX:=hf.pl _ (lJ hd.aj.1);have Ua:=hX.a0;have Us:=hd.aj.2;have tf:=t.fr (R.nf-1) jB;have UY:=hs.ok.aa.shape _ sl;have sh:=UY.1;have ty:=hs.ok.ty (cD p R.ah).toNat (Nat.zero_le _) sl;have hsw:=(uR hw hf tf hd.aj).1 0;have Wj:eo (ao p (cD p R.ah)).kind:=by have hm:cD p R.ah∈dz p R.ah.pl.block:=er jB;exact(hX.aE hs f0 f1 hm).2.2.2
 have Xa:iH (ao p (cD p R.ah)).kind->0<=nth p.slots (cD p R.ah).toNat/\nth p.slots (cD p R.ah).toNat<R.ah.slots.length:=fun h=>by have:=(hs.aq R.ah.fn.toNat jB).all _ hIn.1 (by have:=hIn.2;omega) h;have:=hf.sl;omega
 generalize u':cD p R.ah=node at*;rw[yl]at TV Tq;have Xb:=TV.head;refine⟨ks,Tk,Xb.1,Xb.2.1,fun j=>?_⟩;have Tz:=Xb.2.2;rw[show((ks:Int)+1)=((ks+1:Nat):Int) by push_cast;rfl]at Tz Tq ⊢;generalize Te:ks+1=k1 at*
 -- an expression
 have ex:∀x,0<=x->x.toNat<p.aa.nodes.length->lL p R.ah.fn.toNat x->bT (bA p.aa.nodes x)->x.toNat<n->∀(kx:Nat) (st:List ak) (j:Nat),bR C.ins kx (aV p n x kx)->(∀v∈st,v.s.size<=40)->st.length<=2->
   vp p C inp m ⟨R.ah.fn,kx,ks,R.ah.slots,st,j⟩ (R.val p x) (kx+(aV p n x kx).length)/\Told (R.val p x) (nth p.types x.toNat):=fun x x0 x1 x2 x3 x4 kx st j hl hz XP=>by
  have hm:=hs.ok.aa.many;have Wb:=Bt (inp:=inp) hs Tl UM Uu (j:=R.ah.fn.toNat) jB hf.sl n x kx ⟨R.ah.fn,kx,ks,R.ah.slots,st,j⟩ x0 x1 x2 x3 x4 rfl rfl hl hz (by show st.length+x.toNat<=900;omega);rw[hM.heap,At hs.ok.aa R.ah.slots R.heap n p.aa.nodes.length x x0 jB x4 jB x3]at Wb;exact⟨Wb,Fj hs R x0 x1 x3⟩
 have aE:∀x,x∈(ao p node).l->0<=x/\x.toNat<p.aa.nodes.length/\lL p R.ah.fn.toNat x/\x.toNat<n:=fun x hx=>by obtain⟨y1,y2,y3,y4⟩:=hIn.aE hs jB hx;exact⟨y2,y4,y1,jB⟩
 -- the last of a statement that stores
 have store:∀(M':MV) (R':RS) (v:ak) (q kst:Nat),iH (ao p node).kind->M'.calls=m.calls->M'.status=0->R'.aw=R.aw->R'.nf=R.nf->M'.heap=R'.heap->M'.in_=R'.in_->M'.aC=R'.aC->R'.status=0->v.s.size<=40->kst<C.ins.length->nth C.ins kst=iI 6 (nth p.slots node.toNat)->kst+1=cf p (n+1) k R.ah.pl.block (R.ah.pl.at_.toNat+1)->
   ∃m1,aW p C inp (M'.aS ⟨R.ah.fn,kst,ks,R.ah.slots,[v],q⟩) m1/\iY p C (R'.store p node v) m1/\fG M' m1:=fun M' R' v q kst Tr e1 e2 e3 e4 e5 e6 e7 e8 hv SX Ut Wr=>by
  have hss:=Xa Tr;have c1:1<=M'.calls.length:=by rw[e1];exact Tl
  have c8:M'.calls.length<=8:=by rw[e1];exact UM
  have T4:R'.ah=R.ah:=by unfold RS.ah;rw[e3,e4]
  refine⟨M'.aS ⟨R.ah.fn,(kst:Int)+1,ks,R.ah.slots.set (nth p.slots node.toNat).toNat v,[],q+1⟩,aW.ins (c:=⟨R.ah.fn,kst,ks,R.ah.slots,[v],q⟩) c1 c8 e2 rfl SX Ut (fun h=>by cases h) (ED c1 c8 SX Ut hv (.inl ⟨rfl,hss⟩)) ?_,?_,⟨rfl,rfl⟩⟩
  ·rw[MV.lu,MV.bc c1,MV.dm];exact aW.refl _
  ·have hT:=FI (g:={ R.ah with slots:=R.ah.slots.set (nth p.slots node.toNat).toNat v }) (d:=⟨R.ah.fn,(kst:Int)+1,ks,R.ah.slots.set (nth p.slots node.toNat).toNat v,[],q+1⟩) hS hd.aj.1 Ua rfl rfl rfl rfl rfl (by show(kst:Int)+1=_;rw[<-Wr];push_cast;rfl);refine wS hM TB h1 hT ?_ (by show R'.nf=_;exact e4) (by show M'.calls.set _ _=_;rw[e1]) e5 e6 e7 (e2.trans e8.symm);unfold RS.store;rw[zD (by rw[e3,e4];omega),T4];show R'.aw.set (R'.nf-1) _=_;rw[e3,e4]
 -- a statement that only goes on
 have goOn:∀(M':MV) (R':RS) (q:Nat),M'.calls=m.calls->R'.aw=R.aw->R'.nf=R.nf->M'.heap=R'.heap->M'.in_=R'.in_->M'.aC=R'.aC->M'.status=R'.status->∀ke:Int,ke=(cf p (n+1) k R.ah.pl.block (R.ah.pl.at_.toNat+1):Int)->iY p C R'.on (M'.aS ⟨R.ah.fn,ke,ks,R.ah.slots,[],q⟩):=fun M' R' q e1 e3 e4 e5 e6 e7 e8 ke VV=>by have hT:=FI (g:=R.ah) (d:=⟨R.ah.fn,ke,ks,R.ah.slots,[],q⟩) hS hd.aj.1 Ua rfl rfl rfl rfl rfl VV;refine wS hM TB h1 hT ?_ (by show R'.nf=_;exact e4) (by show M'.calls.set _ _=_;rw[e1]) e5 e6 e7 e8;show R'.aw.set (R'.nf-1) (fN (nth R'.aw (R'.nf-1)))=_;rw[e3,e4];rfl
 -- an instruction on one value
 have insOne:∀{kx:Nat} {x:av} {u:ak} {q:Nat} {m':MV},kx<C.ins.length->nth C.ins kx=x->x.op≠1->u.s.size<=40->((x.op=6/\0<=x.a/\x.a<R.ah.slots.length)\/x.op=13\/(x.op=15/\dr u.n)\/(x.op=17/\(u.n=0\/u.n=1))\/x.op=21)->aW p C inp ((m.aS ⟨R.ah.fn,(kx:Int)+1,ks,R.ah.slots,[u],q⟩).ins p C inp x) m'->aW p C inp (m.aS ⟨R.ah.fn,kx,ks,R.ah.slots,[u],q⟩) m':=fun hl hx Tb hu ho hg=> aW.ins (c:=⟨R.ah.fn,_,ks,R.ah.slots,[_],_⟩) Tl UM Uu rfl hl hx Tb (ED Tl UM hl hx hu ho) hg
 have nowait:¬jr p node->¬kn p R.st node inp:=fun h hw=>h hw.1
 have TG:((ao p node).kind=10\/(ao p node).kind=11)\/(ao p node).kind=12\/(ao p node).kind=13\/(ao p node).kind=14\/(ao p node).kind=15\/(ao p node).kind=16\/(ao p node).kind=17:=by unfold eo at Wj;omega
 rcases TG with e|e|e|e|e|e|e
 ·obtain⟨a,S6,hr⟩:=sh.right e;have S6:(ao p node).l=[a]:=S6;have hx:nth (ao p node).l 0=a:=by rw[S6];rfl
  obtain⟨a0,a1,a2,a3⟩:=aE a (by rw[S6];simp);rw[if_pos e,hx]at Tz Tq;have TX:=Tz.last;have Uo:k1+(jt p n a k1).length+1=cf p (n+1) k R.ah.pl.block (R.ah.pl.at_.toNat+1):=by rw[Tq];simp only[List.length_cons,List.length_append,List.length_nil];omega
  have Tr:iH (ao p node).kind:=by unfold iH;omega
  have eD:R.bO p node inp=R.right p node inp:=by unfold RS.bO;simp only;rw[if_pos e]
  rw[eD];have Wy:kn p R.st node inp<->(ao p a).kind=19/\(inp.length:Int)<=R.in_:=by
   constructor
   ·rintro⟨_,w2,w3⟩;rw[hx]at w2;exact⟨w2,w3⟩
   ·rintro⟨w2,w3⟩;exact⟨e,by rw[hx];exact w2,w3⟩
  rw[uI]at TX Uo;unfold RS.right;simp only[hx];by_cases e19:(ao p a).kind=19
  ·rw[if_pos e19]at TX Uo;have YX:=TX.1.head;have ok14:=F9 (p:=p) (C:=C) (M:=m) (k:=k1) (fn:=R.ah.fn) (ks:=ks) (slots:=R.ah.slots) (q:=j) Tl UM YX.1 YX.2.1 (.inl rfl);have g14:∀m',aW p C inp ((m.aS ⟨R.ah.fn,(k1:Int)+1,ks,R.ah.slots,[],j⟩).ins p C inp (iI 14 0)) m'->aW p C inp (m.aS ⟨R.ah.fn,k1,ks,R.ah.slots,[],j⟩) m':=fun m' hg=>aW.ins (c:=⟨R.ah.fn,k1,ks,R.ah.slots,[],j⟩) Tl UM Uu rfl YX.1 YX.2.1 (fun h=>by cases h) ok14 hg
   rw[MV.oT]at g14;rw[jN,if_pos e19];refine⟨fun hw'=>g14 _ ?_,fun Vs=>⟨fun h=>(h rfl).elim,fun _=>?_⟩⟩
   ·have:=(Wy.1 hw').2;rw[if_pos (by show(inp.length:Int)<=m.in_;rw[hM.in_];exact this),MV.dY Tl];exact aW.refl _
   ·have TP:¬((inp.length:Int)<=R.in_):=fun h=>Vs (Wy.2 ⟨e19,h⟩)
    rw[if_neg (by show¬((inp.length:Int)<=m.in_);rw[hM.in_];exact TP),MV.eX Tl]at g14;obtain⟨m1,g1,M1,K1⟩:=store { m with in_:=m.in_+1 } { R with in_:=R.in_+1 } (vI (nth inp R.in_.toNat)) (j-1) (k1+1) Tr rfl Uu rfl rfl hM.heap (by show m.in_+1=R.in_+1;rw[hM.in_]) hM.aC hR (Nat.zero_le _) TX.2.1 TX.2.2 Uo;refine⟨m1,(g14 _ (aW.refl _)).trans ?_,M1,K1⟩;have eq:({ (m.aS (MC.push ⟨R.ah.fn,(k1:Int)+1,ks,R.ah.slots,[],j⟩ (vI (nth inp m.in_.toNat))))with in_:=m.in_+1 }:MV)=MV.aS { m with in_:=m.in_+1 } ⟨R.ah.fn,((k1+1:Nat):Int),ks,R.ah.slots,[vI (nth inp R.in_.toNat)],j-1⟩:=by rw[hM.in_];rfl
    show aW p C inp ({ (m.aS (MC.push ⟨R.ah.fn,(k1:Int)+1,ks,R.ah.slots,[],j⟩ (vI (nth inp m.in_.toNat))))with in_:=m.in_+1 }:MV) m1;rw[eq];exact g1
  have Vs:¬kn p R.st node inp:=fun h=>e19 (Wy.1 h).1
  refine⟨fun h=>(Vs h).elim,fun _=>?_⟩;rw[if_neg e19]at TX Uo;by_cases e20:(ao p a).kind=20
  ·rw[if_pos e20]at TX Uo;rw[jN,if_neg e19,if_pos e20];obtain⟨y,YG,Wx⟩:=(hs.ok.aa.shape _ a1).1.one (by have e20:(nth p.aa.nodes a.toNat).kind=20:=e20;omega);have YG:(ao p a).l=[y]:=YG;have UX:nth (ao p a).l 0=y:=by rw[YG];rfl
   obtain⟨y2,y0,y3,y1⟩:=a2.aE hs jB (b:=y) (by rw[YG];simp);rw[UX]at TX Uo;have YH:=TX.1.last;obtain⟨d,tx⟩:=ex y y0 y1 y2 Wx jB k1 [] j YH.1 (fun v hv=>by cases hv) jE;have SY:=tx.size;generalize hV:R.val p y=V at*;have eF0:R.fresh p a=(if V.2≠0 then(R,v0,V.2)else if V.1.n<0\/16<V.1.n then(R,v0,7)else if 40<fF R.heap+V.1.n+1 then(R,v0,4)else({ R with heap:=R.heap++[List.replicate V.1.n.toNat 0] },⟨4,R.heap.length+1,sE⟩,0)):=by unfold RS.fresh;simp only[UX,hV]
   have Uf:(aV p n y (k1:Int)++[iI 13 0]).length=(aV p n y (k1:Int)).length+1:=by rw[List.length_append];rfl
   rw[Uf]at TX Uo;by_cases SZ:V.2=0
   rotate_left
   ·rw[if_pos SZ]at eF0;rw[eF0,if_neg (show¬((R,v0,V.2):RS×ak×Int).2.2=0 from SZ)];exact⟨fun _=>d.2 SZ,fun h=>(SZ h).elim⟩
   obtain⟨q,g⟩:=d.1 SZ;rw[<-Int.natCast_add]at g;rw[if_neg (fun h=>h SZ)]at eF0;have g2:∀m',aW p C inp ((m.aS ⟨R.ah.fn,((k1+(aV p n y k1).length:Nat):Int)+1,ks,R.ah.slots,[V.1],q⟩).ins p C inp (iI 13 0)) m'->aW p C inp (m.aS ⟨R.ah.fn,k1,ks,R.ah.slots,[],j⟩) m':=fun m' hg=>g.trans (insOne YH.2.1 YH.2.2 (fun h=>by cases h) SY (.inr (.inl rfl)) hg)
   rw[MV.ry,MV.bc Tl,MV.dc Tl]at g2;have elast:MC.last ⟨R.ah.fn,((k1+(aV p n y k1).length:Nat):Int)+1,ks,R.ah.slots,[V.1],q⟩=V.1:=rfl;rw[elast]at g2;by_cases c1:V.1.n<0\/16<V.1.n
   ·rw[if_pos c1]at g2 eF0;rw[eF0,if_neg (show¬((R,v0,(7:Int)):RS×ak×Int).2.2=0 from(by decide:¬((7:Int)=0)))];refine⟨fun _=>g2 _ ?_,fun h=>absurd h (by show¬((7:Int)=0);decide)⟩;rw[MV.dY Tl];exact aW.refl _
   rw[if_neg c1]at eF0;rw[if_neg c1,MV.iy,hM.heap]at g2;by_cases c2:40<fF R.heap+V.1.n+1
   ·rw[if_pos c2]at g2 eF0;rw[eF0,if_neg (show¬((R,v0,(4:Int)):RS×ak×Int).2.2=0 from(by decide:¬((4:Int)=0)))];refine⟨fun _=>g2 _ ?_,fun h=>absurd h (by show¬((4:Int)=0);decide)⟩;rw[MV.dY Tl];exact aW.refl _
   rw[if_neg c2]at g2 eF0;rw[eF0,if_pos rfl];refine⟨fun h=>(h rfl).elim,fun _=>?_⟩;obtain⟨m1,g1,M1,K1⟩:=store { m with heap:=R.heap++[List.replicate V.1.n.toNat 0] } { R with heap:=R.heap++[List.replicate V.1.n.toNat 0] } ⟨4,R.heap.length+1,sE⟩ (q+1-1) (k1+((aV p n y k1).length+1)) Tr rfl Uu rfl rfl rfl hM.in_ hM.aC hR (Nat.zero_le _) TX.2.1 TX.2.2 Uo;refine⟨m1,g2 _ ?_,M1,K1⟩;rw[MV.eX Tl];have eq:({ m.aS (MC.push (MC.cut ⟨R.ah.fn,((k1+(aV p n y k1).length:Nat):Int)+1,ks,R.ah.slots,[V.1],q⟩ 1) ⟨4,R.heap.length+1,sE⟩)with heap:=R.heap++[List.replicate V.1.n.toNat 0] }:MV)=MV.aS { m with heap:=R.heap++[List.replicate V.1.n.toNat 0] } ⟨R.ah.fn,((k1+((aV p n y k1).length+1):Nat):Int),ks,R.ah.slots,[⟨4,R.heap.length+1,sE⟩],q+1-1⟩:=rfl;rw[eq];exact g1
  rw[if_neg e20]at TX Uo;by_cases e21:(ao p a).kind=21
  ·rw[if_pos e21]at TX Uo;rw[if_pos e21];exact(G5 (inp:=inp) (j:=j) hw hC hd t hM hR (n:=n) (x:=a) (kc:=k1) (ks:=ks) (by rw[u',hx]) (by rw[u'];omega) a0 a1 e21 a2 a3 TX.1 hS WR Uo TX.2.1 (by rw[u',jN];exact TX.2.2)).symm.symm
  ·rw[if_neg e21]at TX Uo;rw[if_neg e21,if_neg e19,if_neg e20];have hE:bT (bA p.aa.nodes a):=by
    rcases hr with hr|hr|hr|hr
    ·exact hr
    ·exact(e19 hr).elim
    ·exact(e20 hr).elim
    ·exact(e21 hr).elim
   obtain⟨d,tx⟩:=ex a a0 a1 a2 hE a3 k1 [] j TX.1 (fun v hv=>by cases hv) jE;have SY:=tx.size;generalize hV:R.val p a=V at*;by_cases SZ:V.2=0
   rotate_left
   ·rw[if_neg SZ];exact⟨fun _=>d.2 SZ,fun h=>(SZ h).elim⟩
   rw[if_pos SZ];obtain⟨q,g⟩:=d.1 SZ;rw[<-Int.natCast_add]at g;refine⟨fun h=>(h rfl).elim,fun _=>?_⟩;obtain⟨m1,g1,M1,K1⟩:=store m R V.1 q _ Tr rfl Uu rfl rfl hM.heap hM.in_ hM.aC hR SY TX.2.1 TX.2.2 Uo;exact⟨m1,g.trans g1,M1,K1⟩
 ·-- a list's place
  have Vs:=nowait (by unfold jr;have e:(nth p.aa.nodes node.toNat).kind=12:=e;omega);refine⟨fun h=>(Vs h).elim,fun _=>?_⟩;obtain⟨x,y,B',Tu,Wx⟩:=sh.two (.inr e);have B':(ao p node).l=[x,y]:=B';have SZ:nth (ao p node).l 0=x:=by rw[B'];rfl
  have UX:nth (ao p node).l 1=y:=by rw[B'];rfl
  obtain⟨x1,x2,x3,x4⟩:=aE x (by rw[B'];simp);obtain⟨y1,y2,y3,y4⟩:=aE y (by rw[B'];simp);rw[jN,if_pos e,SZ,UX]at Tz Tq;have hss:=Xa (by unfold iH;omega);have eD:R.bO p node inp=R.put p node:=by unfold RS.bO;simp only;rw[jN,jN,if_pos e]
  rw[eD];unfold RS.put;simp only[SZ,UX];have VL:=Tz.last;obtain⟨d,tx⟩:=ex x x1 x2 x3 Tu x4 k1 [] j VL.1.app.1 (fun v hv=>by cases hv) jE;have Xc:=tx.size;generalize hV:R.val p x=V at*;by_cases Uq:V.2=0
  rotate_left
  ·rw[if_pos Uq];exact⟨fun _=>d.2 Uq,fun h=>(Uq h).elim⟩
  rw[if_neg (fun h=>h Uq)];obtain⟨q,g⟩:=d.1 Uq;rw[<-Int.natCast_add]at g;have YG:=VL.1.app.2;rw[<-Int.natCast_add]at YG VL Tq;obtain⟨d2,ty2⟩:=ex y y1 y2 y3 Wx y4 (k1+(aV p n x k1).length) [V.1] q YG (fun v hv=>by rw[List.mem_singleton.1 hv];exact Xc) jE;have hsy:=ty2.size;generalize hU:R.val p y=U at*;by_cases ZQ:U.2=0
  rotate_left
  ·rw[if_pos ZQ];exact⟨fun _=>g.trans (d2.2 ZQ),fun h=>(ZQ h).elim⟩
  rw[if_neg (fun h=>h ZQ)];obtain⟨q2,g2⟩:=d2.1 ZQ;rw[<-Int.natCast_add]at g2;generalize W5:k1+(aV p n x k1).length+(aV p n y ((k1+(aV p n x k1).length:Nat):Int)).length=kp at*;rw[List.length_append,<-Nat.add_assoc,W5]at VL;have hkn:kp+1=cf p (n+1) k R.ah.pl.block (R.ah.pl.at_.toNat+1):=by rw[Tq];simp only[List.length_cons,List.length_append,List.length_nil];omega
  have hok:(m.aS ⟨R.ah.fn,kp,ks,R.ah.slots,[V.1,U.1],q2⟩).cX p C:=cX.pQ Tl UM rfl VL.2.1 VL.2.2 (fun h=>by rcases h with h|h|h|h|h|h|h|h|h|h|h|h<;>cases h) (fun _=>jE) (fun _=>hss) (fun h=>by rcases h with h|h|h<;>cases h) (fun h=>by cases h) (fun h=>by cases h) ⟨by show(1:Int)<=12;decide,by show(12:Int)<=23;decide⟩ (fun h=>by cases h) (fun v hv=>by
   rcases List.mem_cons.1 hv with rfl|hv
   ·exact Xc
   ·rw[List.mem_singleton.1 hv];exact hsy) jE
  have g3:∀m',aW p C inp ((m.aS ⟨R.ah.fn,(kp:Int)+1,ks,R.ah.slots,[V.1,U.1],q2⟩).ins p C inp (iI 12 (nth p.slots node.toNat))) m'->aW p C inp (m.aS ⟨R.ah.fn,k1,ks,R.ah.slots,[],j⟩) m':=fun m' hg=>(g.trans g2).trans (aW.ins (c:=⟨R.ah.fn,kp,ks,R.ah.slots,[V.1,U.1],q2⟩) Tl UM Uu rfl VL.2.1 VL.2.2 (fun h=>by cases h) hok hg)
  rw[MV.rT,MV.bc Tl,MV.dc Tl,MV.iy,hM.heap]at g3;have e1:MC.last (MC.cut ⟨R.ah.fn,(kp:Int)+1,ks,R.ah.slots,[V.1,U.1],q2⟩ 1)=V.1:=rfl;have e2:MC.last ⟨R.ah.fn,(kp:Int)+1,ks,R.ah.slots,[V.1,U.1],q2⟩=U.1:=rfl;rw[e1,e2,<-BQ _ _ (FY _ _ _)]at g3;by_cases c1:V.1.n<0\/((gU R.heap (di R.ah.slots (nth p.slots node.toNat) 4)).length:Int)<=V.1.n
  ·rw[if_pos c1];rw[if_pos c1]at g3;refine⟨fun _=>g3 _ ?_,fun h=>absurd h (by show¬((2:Int)=0);decide)⟩;rw[MV.dY Tl];exact aW.refl _
  ·rw[if_neg c1];rw[if_neg c1]at g3;refine⟨fun h=>(h rfl).elim,fun _=>⟨_,g3 _ (aW.refl _),?_,⟨rfl,rfl⟩⟩⟩;exact goOn { m with heap:=R.heap.set ((di R.ah.slots (nth p.slots node.toNat) 4).n-1).toNat ((nth R.heap ((di R.ah.slots (nth p.slots node.toNat) 4).n-1).toNat).set V.1.n.toNat U.1.n) } { R with heap:=R.heap.set ((di R.ah.slots (nth p.slots node.toNat) 4).n-1).toNat ((nth R.heap ((di R.ah.slots (nth p.slots node.toNat) 4).n-1).toNat).set V.1.n.toNat U.1.n) } (q2+2) rfl rfl rfl rfl hM.in_ hM.aC (Uu.trans hR.symm) ((kp:Int)+1) (by rw[<-hkn];push_cast;rfl)
 ·-- a call
  have Vs:=nowait (by unfold jr;have e:(nth p.aa.nodes node.toNat).kind=13:=e;omega);refine⟨fun h=>(Vs h).elim,fun _=>?_⟩;obtain⟨a,S6,hr⟩:=sh.nN e;have S6:(ao p node).l=[a]:=S6;have hx:nth (ao p node).l 0=a:=by rw[S6];rfl
  obtain⟨a0,a1,a2,a3⟩:=aE a (by rw[S6];simp);rw[jN,jN,if_pos e,hx]at Tz Tq;have ZR:=Tz.last;have Uo:k1+(cW p n a k1).length+1=cf p (n+1) k R.ah.pl.block (R.ah.pl.at_.toNat+1):=by rw[Tq];simp only[List.length_cons,List.length_append,List.length_nil];omega
  have eD:R.bO p node inp=R.call p a:=by unfold RS.bO;simp only;rw[jN,if_pos e,hx]
  rw[eD];exact G5 (inp:=inp) (j:=j) hw hC hd t hM hR (n:=n) (x:=a) (kc:=k1) (ks:=ks) (by rw[u',hx]) (by rw[u'];omega) a0 a1 hr a2 a3 ZR.1 hS WR Uo ZR.2.1 (by rw[u',if_pos e];exact ZR.2.2)
 ·-- a print
  have Vs:=nowait (by unfold jr;have e:(nth p.aa.nodes node.toNat).kind=14:=e;omega);refine⟨fun h=>(Vs h).elim,fun _=>?_⟩;obtain⟨x,B',Tu⟩:=sh.one (by have e:(nth p.aa.nodes node.toNat).kind=14:=e;omega);have B':(ao p node).l=[x]:=B';have SZ:nth (ao p node).l 0=x:=by rw[B'];rfl
  obtain⟨x1,x2,x3,x4⟩:=aE x (by rw[B'];simp);rw[jN,jN,jN,if_pos e,SZ]at Tz Tq;have YY:=Tz.last;have Uo:k1+(aV p n x k1).length+1=cf p (n+1) k R.ah.pl.block (R.ah.pl.at_.toNat+1):=by rw[Tq];simp only[List.length_cons,List.length_append,List.length_nil];omega
  have haz:=rg.val hs hd.cells x1 x2 Tu;obtain⟨d,tx⟩:=ex x x1 x2 x3 Tu x4 k1 [] j YY.1 (fun v hv=>by cases hv) jE;have Xc:=tx.size;have eD:R.bO p node inp=(if(R.val p x).2≠0 then(R,(R.val p x).2)else if 24<=R.aC.length then(R,5)else(({ R with aC:=R.aC++[iN (R.val p x).1] }:RS).on,0)):=by unfold RS.bO;simp only[SZ];rw[jN,jN,jN,jN,if_pos e]
  rw[eD];generalize hV:R.val p x=V at*;by_cases Uq:V.2=0
  rotate_left
  ·rw[if_pos Uq];exact⟨fun _=>d.2 Uq,fun h=>(Uq h).elim⟩
  rw[if_neg (fun h=>h Uq)];obtain⟨q,g⟩:=d.1 Uq;rw[<-Int.natCast_add]at g;have g2:∀m',aW p C inp ((m.aS ⟨R.ah.fn,((k1+(aV p n x k1).length:Nat):Int)+1,ks,R.ah.slots,[V.1],q⟩).ins p C inp (iI 15 0)) m'->aW p C inp (m.aS ⟨R.ah.fn,k1,ks,R.ah.slots,[],j⟩) m':=fun m' hg=>g.trans (insOne YY.2.1 YY.2.2 (fun h=>by cases h) Xc (.inr (.inr (.inl ⟨rfl,haz⟩))) hg)
  rw[MV.o3,MV.bc Tl,MV.dc Tl]at g2;by_cases c1:24<=R.aC.length
  ·rw[if_pos c1];rw[if_pos (by show 24<=m.aC.length;rw[hM.aC];exact c1)]at g2;refine⟨fun _=>g2 _ ?_,fun h=>absurd h (by show¬((5:Int)=0);decide)⟩;rw[MV.dY Tl];exact aW.refl _
  ·rw[if_neg c1];rw[if_neg (by show¬24<=m.aC.length;rw[hM.aC];exact c1)]at g2;refine⟨fun h=>(h rfl).elim,fun _=>⟨_,g2 _ (aW.refl _),?_,⟨rfl,rfl⟩⟩⟩;exact goOn { m with aC:=m.aC++[iN V.1] } { R with aC:=R.aC++[iN V.1] } (q+1) rfl rfl rfl hM.heap hM.in_ (by show m.aC++_=R.aC++_;rw[hM.aC]) (Uu.trans hR.symm) (((k1+(aV p n x k1).length:Nat):Int)+1) (by rw[<-Uo];push_cast;rfl)
 ·-- an if
  have Vs:=nowait (by unfold jr;have e:(nth p.aa.nodes node.toNat).kind=15:=e;omega);refine⟨fun h=>(Vs h).elim,fun _=>?_⟩;obtain⟨x,b1,Tu,U1,B'⟩:=sh.kI e;have SZ:nth (ao p node).l 0=x:=by rcases B' with B'|⟨d,B',_⟩<;>(have B':(ao p node).l=_:=B';rw[B'];rfl)
  have VP:nth (ao p node).l 1=b1:=by rcases B' with B'|⟨d,B',_⟩<;>(have B':(ao p node).l=_:=B';rw[B'];rfl)
  have VQ:x∈(ao p node).l:=by rcases B' with B'|⟨d,B',_⟩<;>(have B':(ao p node).l=_:=B';rw[B'];simp)
  obtain⟨x1,x2,x3,x4⟩:=aE x VQ;rw[jN,jN,jN,jN,jN]at Tz Tq;have Xd:nth p.types x.toNat=2:=by have:=ty.cond (.inl e);have W8:nth (nth p.aa.nodes node.toNat).l 0=x:=SZ;rwa [W8]at this
  have eD:R.bO p node inp=(if(R.val p x).2≠0 then(R,(R.val p x).2)else if(R.val p x).1.n=1 then(R.on.aX b1,0)else if(ao p node).l.length=3 then(R.on.aX (nth (ao p node).l 2),0)else(R.on,0)):=by unfold RS.bO;simp only[SZ,VP];rw[jN,jN,jN,jN,if_neg (show¬(ao p node).kind=14 from jB),if_pos e]
  rw[eD];have UP:fN R.ah=fN R.ah:=rfl;have YI:R.on.ah=fN R.ah:=RS.gu hd.inv.ok h1 _;have Tb:R.ah.path≠[]:=hd.aj.1;have UP:(fN R.ah).path≠[]:=by rw[oz Tb];simp
  have haA:db p C (fN R.ah).fn (fN R.ah).path (n+1) k:=J0 hS Tb;have XX:∀(b:Int) (kb q:Nat),wy p n (fN R.ah).pl k b kb->iY p C (R.on.aX b) (m.aS ⟨R.ah.fn,kb,ks,R.ah.slots,[],q⟩):=fun b kb q hk=>by have hT:=I7 (f:=fN R.ah) (d:=⟨R.ah.fn,kb,ks,R.ah.slots,[],q⟩) haA UP hk rfl rfl rfl rfl;refine wS hM TB h1 hT ?_ rfl rfl hM.heap hM.in_ hM.aC (Uu.trans hR.symm);show(R.aw.set (R.nf-1) _).set (R.nf-1) { R.on.ah with path:=R.on.ah.path++[⟨b,0⟩] }=_;rw[List.set_set,YI]
  have UL:=Gg Tb;have YJ:∃T rest,p9 p n (fun b f=>bz (gX p n) f (ao p b).l []) node (k1:Int)=aV p n x k1++[iI 17 T]++rest/\
    (((ao p node).l.length=3/\T=((k1+(aV p n x k1).length+1+(lb p n (k1+(aV p n x k1).length+1) b1).length+1:Nat):Int))\/((ao p node).l.length≠3/\T=(cf p (n+1) k R.ah.pl.block (R.ah.pl.at_.toNat+1):Int))):=by
   have ek:((k1:Int)+((aV p n x k1).length:Int)+1)=((k1+(aV p n x k1).length+1:Nat):Int):=by push_cast;rfl
   by_cases VX:(ao p node).l.length=3
   ·have h:=zV (n:=n) (bl:=fun b f=>bz (gX p n) f (ao p b).l []) (k:=(k1:Int)) e VX;rw[SZ,VP,ek]at h;rw[h,List.append_assoc];refine⟨_,_,rfl,.inl ⟨VX,?_⟩⟩;show((k1+(aV p n x k1).length+1:Nat):Int)+(((lb p n (k1+(aV p n x k1).length+1) b1).length:Int)+1)=_;push_cast;omega
   ·have h:=Dj (n:=n) (bl:=fun b f=>bz (gX p n) f (ao p b).l []) (k:=(k1:Int)) e VX;rw[SZ,VP,ek]at h;refine⟨_,_,h,.inr ⟨VX,?_⟩⟩;rw[Tq,h];simp only[List.length_cons,List.length_append,List.length_nil];push_cast;omega
  obtain⟨T,rest,S0,TE⟩:=YJ;rw[S0]at Tz;have Xp:=Tz.app.1.last;obtain⟨d,tx⟩:=ex x x1 x2 x3 Tu x4 k1 [] j Xp.1 (fun v hv=>by cases hv) jE;have Xc:=tx.size;rw[Xd]at tx;generalize hV:R.val p x=V at*;by_cases Uq:V.2=0
  rotate_left
  ·rw[if_pos Uq];exact⟨fun _=>d.2 Uq,fun h=>(Uq h).elim⟩
  rw[if_neg (fun h=>h Uq)];obtain⟨t1,t2⟩:=qY tx Uq;obtain⟨_,hn⟩:=Aq t1 t2;obtain⟨q,g⟩:=d.1 Uq;rw[<-Int.natCast_add]at g;have g2:∀m',aW p C inp ((m.aS ⟨R.ah.fn,((k1+(aV p n x k1).length:Nat):Int)+1,ks,R.ah.slots,[V.1],q⟩).ins p C inp (iI 17 T)) m'->aW p C inp (m.aS ⟨R.ah.fn,k1,ks,R.ah.slots,[],j⟩) m':=fun m' hg=>g.trans (insOne Xp.2.1 Xp.2.2 (fun h=>by cases h) Xc (.inr (.inr (.inr (.inl ⟨rfl,hn⟩)))) hg)
  rw[MV.lr,MV.bc Tl,MV.dc Tl,MV.dm]at g2;have elast:MC.last ⟨R.ah.fn,((k1+(aV p n x k1).length:Nat):Int)+1,ks,R.ah.slots,[V.1],q⟩=V.1:=rfl;rw[elast]at g2;have hi:R.ah.pl.at_.toNat<(dz p R.ah.pl.block).length:=jB;rcases hn with hn|hn
  ·rw[if_pos hn]at g2;rw[if_neg (show¬V.1.n=1 from jB)];rcases TE with⟨VX,TE⟩|⟨VX,TE⟩
   ·rw[if_pos VX];refine⟨fun h=>(h rfl).elim,fun _=>⟨_,g2 _ (aW.refl _),?_,⟨rfl,rfl⟩⟩⟩;rw[TE];refine XX _ _ (q+1) ⟨R.ah.pl.at_.toNat,by rw[UL];exact hi,.inr (.inr ⟨?_,?_,?_,?_,k1+(aV p n x k1).length+1,?_,?_⟩)⟩
    ·rw[UL];show(ao p (cD p R.ah)).kind=15;rw[u'];exact e
    ·rw[UL];show R.ah.pl.at_+1=_;omega
    ·rw[UL];show(ao p (cD p R.ah)).l.length=3;rw[u'];exact VX
    ·rw[UL];show _=nth (ao p (cD p R.ah)).l 2;rw[u']
    ·rw[UL];show _=cf p (n+1) k R.ah.pl.block R.ah.pl.at_.toNat+1+(aV p n (nth (ao p (cD p R.ah)).l 0) ((cf p (n+1) k R.ah.pl.block R.ah.pl.at_.toNat+1:Nat):Int)).length+1;rw[u',SZ,<-WR,Te]
    ·rw[UL];show _=_+(lb p n _ (nth (ao p (cD p R.ah)).l 1)).length+1;rw[u',VP]
   ·rw[if_neg VX];refine⟨fun h=>(h rfl).elim,fun _=>⟨_,g2 _ (aW.refl _),?_,⟨rfl,rfl⟩⟩⟩;exact goOn m R (q+1) rfl rfl rfl hM.heap hM.in_ hM.aC hM.status T TE
  ·rw[if_neg (show¬V.1.n=0 from jB)]at g2;rw[if_pos hn];refine⟨fun h=>(h rfl).elim,fun _=>⟨_,g2 _ (aW.refl _),?_,⟨rfl,rfl⟩⟩⟩;refine XX b1 (k1+(aV p n x k1).length+1) (q+1) ⟨R.ah.pl.at_.toNat,by rw[UL];exact hi,.inr (.inl ⟨?_,?_,?_,?_⟩)⟩
   ·rw[UL];show(ao p (cD p R.ah)).kind=15;rw[u'];exact e
   ·rw[UL];show R.ah.pl.at_+1=_;omega
   ·rw[UL];show _=nth (ao p (cD p R.ah)).l 1;rw[u',VP]
   ·rw[UL];show _=cf p (n+1) k R.ah.pl.block R.ah.pl.at_.toNat+1+(aV p n (nth (ao p (cD p R.ah)).l 0) ((cf p (n+1) k R.ah.pl.block R.ah.pl.at_.toNat+1:Nat):Int)).length+1;rw[u',SZ,<-WR,Te]
 ·-- a while
  have Vs:=nowait (by unfold jr;have e:(nth p.aa.nodes node.toNat).kind=16:=e;omega);refine⟨fun h=>(Vs h).elim,fun _=>?_⟩;obtain⟨x,b1,B',Tu,U1⟩:=sh.dS e;have B':(ao p node).l=[x,b1]:=B';have SZ:nth (ao p node).l 0=x:=by rw[B'];rfl
  have VP:nth (ao p node).l 1=b1:=by rw[B'];rfl
  obtain⟨x1,x2,x3,x4⟩:=aE x (by rw[B'];simp);rw[jN,jN,jN,jN,jN,BL e,SZ,VP]at Tz Tq;have Xd:nth p.types x.toNat=2:=by have:=ty.cond (.inr e);have W8:nth (nth p.aa.nodes node.toNat).l 0=x:=SZ;rwa [W8]at this
  have eD:R.bO p node inp=(if(R.val p x).2≠0 then(R,(R.val p x).2)else if(R.val p x).1.n=1 then(R.aX b1,0)else(R.on,0)):=by unfold RS.bO;simp only[SZ,VP];rw[jN,jN,jN,jN,if_neg (show¬(ao p node).kind=14 from jB),if_neg (show¬(ao p node).kind=15 from jB),if_pos e]
  rw[eD];have Tb:R.ah.path≠[]:=hd.aj.1;have hi:R.ah.pl.at_.toNat<(dz p R.ah.pl.block).length:=jB;have Xp:=Tz.app.1.last;obtain⟨d,tx⟩:=ex x x1 x2 x3 Tu x4 k1 [] j Xp.1 (fun v hv=>by cases hv) jE;have Xc:=tx.size;rw[Xd]at tx;generalize hV:R.val p x=V at*;by_cases Uq:V.2=0
  rotate_left
  ·rw[if_pos Uq];exact⟨fun _=>d.2 Uq,fun h=>(Uq h).elim⟩
  rw[if_neg (fun h=>h Uq)];obtain⟨t1,t2⟩:=qY tx Uq;obtain⟨_,hn⟩:=Aq t1 t2;obtain⟨q,g⟩:=d.1 Uq;rw[<-Int.natCast_add]at g;have g2:=fun m' hg=>g.trans (insOne (m':=m') (q:=q) Xp.2.1 Xp.2.2 (fun h=>by cases h) Xc (.inr (.inr (.inr (.inl ⟨rfl,hn⟩)))) hg)
  rw[MV.lr,MV.bc Tl,MV.dc Tl,MV.dm]at g2;have elast:MC.last ⟨R.ah.fn,((k1+(aV p n x k1).length:Nat):Int)+1,ks,R.ah.slots,[V.1],q⟩=V.1:=rfl;rw[elast]at g2;rcases hn with hn|hn
  ·rw[if_pos hn]at g2;rw[if_neg (show¬V.1.n=1 from jB)];refine⟨fun h=>(h rfl).elim,fun _=>⟨_,g2 _ (aW.refl _),?_,⟨rfl,rfl⟩⟩⟩;refine goOn m R (q+1) rfl rfl rfl hM.heap hM.in_ hM.aC hM.status _ ?_;rw[Tq];simp only[List.length_cons,List.length_append,List.length_nil];push_cast;omega
  ·rw[if_neg (show¬V.1.n=0 from jB)]at g2;rw[if_pos hn];refine⟨fun h=>(h rfl).elim,fun _=>⟨_,g2 _ (aW.refl _),?_,⟨rfl,rfl⟩⟩⟩;have hk:wy p n R.ah.pl k b1 (k1+(aV p n x k1).length+1):=by
    refine⟨R.ah.pl.at_.toNat,hi,.inl ⟨?_,jB,?_,?_⟩⟩
    ·show(ao p (cD p R.ah)).kind=16;rw[u'];exact e
    ·show _=nth (ao p (cD p R.ah)).l 1;rw[u',VP]
    ·show _=cf p (n+1) k R.ah.pl.block R.ah.pl.at_.toNat+1+(aV p n (nth (ao p (cD p R.ah)).l 0) ((cf p (n+1) k R.ah.pl.block R.ah.pl.at_.toNat+1:Nat):Int)).length+1;rw[u',SZ,<-WR,Te]
   have hT:=I7 (f:=R.ah) (d:=⟨R.ah.fn,((k1+(aV p n x k1).length:Nat):Int)+1,ks,R.ah.slots,[],q+1⟩) hS Tb hk rfl rfl rfl (by push_cast;rfl);exact wS hM TB h1 hT rfl rfl rfl hM.heap hM.in_ hM.aC hM.status
 ·-- a return
  have Vs:=nowait (by unfold jr;have e:(nth p.aa.nodes node.toNat).kind=17:=e;omega);refine⟨fun h=>(Vs h).elim,fun _=>?_⟩;rw[jN,jN,jN,jN,if_pos e]at Tz Tq;have XY:∀(d:MC) k,k+1<R.nf->rA p C (nth R.aw k) (nth (m.aS d).calls k):=fun d k hk=>by
   have:nth (m.aS d).calls k=nth m.calls k:=by show nth (m.calls.set (m.calls.length-1) d) k=_;rw[Go.Gd.aY _ _ _ _ jB,jN]
   rw[this];exact hM.low k hk
  have eD:R.bO p node inp=(if(ao p node).l.length=0 then(R.bq p v0,0)else if(R.val p (nth (ao p node).l 0)).2≠0 then(R,(R.val p (nth (ao p node).l 0)).2)else(R.bq p (R.val p (nth (ao p node).l 0)).1,0)):=by unfold RS.bO;simp only;rw[jN,jN,jN,if_pos e]
  rw[eD];rcases sh.ret e with B'|⟨x,B',Tu⟩
  ·have B':(ao p node).l=[]:=B';have T3:(ao p node).l.length=0:=by rw[B'];rfl
   rw[if_pos T3]at Tz ⊢;have YZ:=Tz.head;obtain⟨m1,g1,M1,K1,_⟩:=BZ (C:=C) (inp:=inp) (m:=m.aS ⟨R.ah.fn,(k1:Int)+1,ks,R.ah.slots,[],j⟩) hw hd.inv t h1 (by rw[MV.aO];exact D') (XY _) hM.heap hM.in_ hM.aC Uu hR v0 (Nat.zero_le _);refine⟨fun h=>(h rfl).elim,fun _=>⟨m1,?_,M1,K1⟩⟩;exact aW.ins (c:=⟨R.ah.fn,k1,ks,R.ah.slots,[],j⟩) Tl UM Uu rfl YZ.1 YZ.2.1 (fun h=>by cases h) (F9 Tl UM YZ.1 YZ.2.1 (.inr (.inr rfl))) (by rw[MV.mq];exact g1)
  ·have B':(ao p node).l=[x]:=B';have SZ:nth (ao p node).l 0=x:=by rw[B'];rfl
   have Uf:¬(ao p node).l.length=0:=by rw[B'];simp
   obtain⟨x1,x2,x3,x4⟩:=aE x (by rw[B'];simp);rw[if_neg Uf,SZ]at Tz ⊢;have ZS:=Tz.last;obtain⟨d,tx⟩:=ex x x1 x2 x3 Tu x4 k1 [] j ZS.1 (fun v hv=>by cases hv) jE;have Xc:=tx.size;generalize hV:R.val p x=V at*;by_cases Uq:V.2=0
   rotate_left
   ·rw[if_pos Uq];exact⟨fun _=>d.2 Uq,fun h=>(Uq h).elim⟩
   rw[if_neg (fun h=>h Uq)];obtain⟨q,g⟩:=d.1 Uq;rw[<-Int.natCast_add]at g;have g2:=fun m' hg=>g.trans (insOne (m':=m') (q:=q) ZS.2.1 ZS.2.2 (fun h=>by cases h) Xc (.inr (.inr (.inr (.inr rfl)))) hg)
   rw[MV.rF,MV.bc Tl,MV.dc Tl]at g2;obtain⟨m1,g1,M1,K1,_⟩:=BZ (C:=C) (inp:=inp) (m:=m.aS (MC.cut ⟨R.ah.fn,((k1+(aV p n x k1).length:Nat):Int)+1,ks,R.ah.slots,[V.1],q⟩ 1)) hw hd.inv t h1 (by rw[MV.aO];exact D') (XY _) hM.heap hM.in_ hM.aC Uu hR V.1 Xc;exact⟨fun h=>(h rfl).elim,fun _=>⟨m1,g2 m1 g1,M1,K1⟩⟩
def Lh(hs:cY p)(hC:dB p C)(hM:iY p C R m)(h1:1<=R.nf)(hf:dF p R.ah)(hb:mC p R.ah):0<=m.aj.at_/\m.aj.at_<C.ins.length/\nth C.ins m.aj.at_.toNat=iI 1 (cD p R.ah):=by have hT:=hM.aj h1;obtain⟨n,k,hS,Tk⟩:=hT.pos hb.1;obtain⟨l1,l2,l3,l4⟩:=yM hs hC hf.f0 hf.f1 hS _ _ (lE hb.1);have hX:=hf.pl _ (lJ hb.1);have Ua:=hX.a0;have Us:=hb.2;have hi:R.ah.pl.at_.toNat<(dz p R.ah.pl.block).length:=jB;have hm:cD p R.ah∈dz p R.ah.pl.block:=er hi;obtain⟨k0,k1,k2,k3⟩:=hX.aE hs hf.f0 hf.f1 hm;obtain⟨n',rfl⟩:∃n',n=n'+1:=⟨n-1,jB⟩;have hl:=z7 l1 hi;rw[yl]at hl;have hh:=hl.head;have Tk:m.aj.at_=((nD (gX p (n'+1)) k (dz p R.ah.pl.block) R.ah.pl.at_.toNat:Nat):Int):=Tk;rw[Tk,Int.toNat_natCast];exact⟨jB,by have:=hh.1;omega,hh.2.1⟩
def Ge(TB:R.nf<=R.aw.length)(h1:1<=R.nf):(RS.of R.st).ah=R.ah:=by unfold RS.ah;show nth (R.aw.take R.nf) ((R.aw.take R.nf).length-1)=_;rw[show(R.aw.take R.nf).length=R.nf by simp;omega,cu _ _ _ jB]
def RB(TB:R.nf<=R.aw.length)(h:iY p C R m):iY p C (RS.of R.st) m:=by
 have hl:(RS.of R.st).nf=R.nf:=by show(R.aw.take R.nf).length=_;simp;omega
 refine⟨by rw[hl];exact h.len,fun h1=>?_,fun k hk=>?_,h.heap,h.in_,h.aC,h.status⟩
 ·rw[hl]at h1;rw[Ge TB h1];exact h.aj h1
 ·rw[hl]at hk;rw[show nth (RS.of R.st).aw k=nth R.aw k from cu _ _ _ jB];exact h.low k hk
def Ic(hw:kf p)(hC:dB p C)(hA:dN p R)(t:eN p R)(hM:iY p C R m)(hR:R.status=0\/R.status=2) :
  ∃m1,aW p C inp m m1/\m1.lc C/\iY p C (RS.of (R.settle p).st) m1/\fG m m1/\((R.settle p).st.status=0\/(R.settle p).st.status=2)/\((R.settle p).st.status≠2->0<=m1.aj.at_/\m1.aj.at_<C.ins.length/\nth C.ins m1.aj.at_.toNat=iI 1 (cD p (RS.of (R.settle p).st).ah)):=by
 obtain⟨m1,g1,M1,K1⟩:=Cy (inp:=inp) hw hC (R.left+1) R m hA.inv t hM jB hR;obtain⟨h1,h2⟩:=qL (R.left+1) R hA.inv jB;have Uj:=xB p (R.left+1) R hA.inv.ok.nf hA.inv.go;change da p (R.settle p)at h1
 change (R.settle p).status=2\/(1<=(R.settle p).nf/\mC p (R.settle p).ah)at h2
 change iY p C (R.settle p) m1 at M1
 change Lw R (R.settle p)at Uj
 have P':(R.settle p).status=0\/(R.settle p).status=2:=by
  rcases Uj.st with e|e
  ·rcases hR with h|h
   ·exact .inl (e.trans h)
   ·exact .inr (e.trans h)
  ·exact .inr e.1
 generalize R.settle p=T at*;have Wl:T.status≠2->0<=m1.aj.at_/\m1.aj.at_<C.ins.length/\nth C.ins m1.aj.at_.toNat=iI 1 (cD p (RS.of T.st).ah):=fun e=>by
  rcases h2 with h2|⟨h2,h3⟩
  ·exact(e h2).elim
  ·rw[Ge h1.ok.nf h2];exact Lh hw.ok hC M1 h2 (h1.fr _ jB) h3
 refine⟨m1,g1,?_,RB h1.ok.nf M1,K1,P',Wl⟩;by_cases e:T.status=2
 ·left;rw[M1.status,e];decide
 ·right
  unfold MV.br;rw[(Wl e).2.2];rfl
variable{a:Int}
def Ig{s:aM}(h:kn p s a inp)(b:aM)(hb:b.in_=s.in_):kn p b a inp:=⟨h.1,h.2.1,by rw[hb];exact h.2.2⟩
def M7(hw:kf p)(hC:dB p C){s:aM}(hI:cC p s)(t:eN p (RS.of s))(rg:mM s)(hq:wu inp s)(hn:inp.length<=1000)(h2:¬(s.status=2\/s.status=3))(h:pZ p C s m) :
  ∃m1,aW p C inp m.iQ m1/\m1.lc C/\pZ p C (gN p s inp) m1.iF:=by
 have hs:=hw.ok;have hd:=hI.gW (fun hh=>h2 (.inl hh)) 0 jC;have Tf:bB p (RS.of { s with status:=0 }).st=dG p s:=by rw[RS.fv];unfold dG;rw[if_neg h2];rfl
 have P':(RS.of { s with status:=0 }).st={ s with status:=0 }:=RS.fv _;obtain⟨s0,_⟩:=hd.stmt hs;rw[Tf]at s0;have hM0:iY p C (RS.of { s with status:=0 }) { m with status:=0 }:=⟨h.fA.len,h.fA.aj,h.fA.low,h.fA.heap,h.fA.in_,h.fA.aC,rfl⟩;have ZT:cD p (RS.of { s with status:=0 }).ah=dG p s:=by rw[<-Tf,hd.mF]
 obtain⟨ks,Te,S5,Vp,ZE⟩:=R8 (inp:=inp) hw hC hd (t:=⟨t.fr,t.link⟩) ⟨rg.sl,rg.hp⟩ hM0 rfl;rw[ZT]at Vp ZE;have hT:=hM0.aj hd.one;have Yz:s.bp=0:=Classical.byContradiction fun e=>h2 (.inr (hq.bp.2 e))
 have haB:m.iQ=MV.aS { m with status:=0 } ⟨(RS.of { s with status:=0 }).ah.fn,(ks:Int)+1,ks,(RS.of { s with status:=0 }).ah.slots,[],m.aj.bw⟩:=by
  unfold MV.iQ;have e1:m.aj.at_=(ks:Int):=Te;have e2:m.aj.fn=_:=hT.fn;have e3:m.aj.slots=_:=hT.slots;have e4:m.aj.stack=[]:=hT.stack;have:({ m.aj with mark:=m.aj.at_,at_:=m.aj.at_+1 }:MC)=⟨(RS.of { s with status:=0 }).ah.fn,(ks:Int)+1,ks,(RS.of { s with status:=0 }).ah.slots,[],m.aj.bw⟩:=by rw[e1,<-e2,<-e3,<-e4]
  rw[this];rfl
 obtain⟨q1,q2⟩:=ZE m.aj.bw;rw[<-haB]at q1 q2;have XZ:∀(st tr:Int),iY p C (RS.of { s with status:=st }) ({ m with status:=0 }.fU ⟨(RS.of { s with status:=0 }).ah.fn,(ks:Int)+1,ks,(RS.of { s with status:=0 }).ah.slots,[],m.aj.bw⟩ st tr):=fun st tr=>by
  have h1:=hd.one;have D':=h.fA.len;refine wS (R:=RS.of { s with status:=0 }) hM0 jl h1 (g:=(RS.of { s with status:=0 }).ah) (d:=MC.back ⟨(RS.of { s with status:=0 }).ah.fn,(ks:Int)+1,ks,(RS.of { s with status:=0 }).ah.slots,[],m.aj.bw⟩) ?_ ?_ rfl rfl h.fA.heap h.fA.in_ h.fA.aC rfl
  ·refine⟨rfl,rfl,rfl,fun Tb=>?_,fun e=>(hd.aj.1 e).elim⟩;obtain⟨n,k,a,b⟩:=hT.pos Tb;exact⟨n,k,a,by rw[<-b];exact Te.symm⟩
  ·show s.ap=(RS.of { s with status:=0 }).aw.set _ (nth (RS.of { s with status:=0 }).aw ((RS.of { s with status:=0 }).nf-1));have h1:1<=s.ap.length:=h1;show s.ap=s.ap.set (s.ap.length-1) (nth s.ap (s.ap.length-1));rw[dV jB,List.set_getElem_self]
 have X0:∀st tr:Int,({ m with status:=0 }.fU ⟨(RS.of { s with status:=0 }).ah.fn,(ks:Int)+1,ks,(RS.of { s with status:=0 }).ah.slots,[],m.aj.bw⟩ st tr).aj.at_=(ks:Int):=fun st tr=>by
  have h1:=hd.one;have D':=h.fA.len;have WM:1<=m.calls.length:=by have:(RS.of s).nf=(RS.of { s with status:=0 }).nf:=rfl;omega
  have:=MV.bc (M:={ m with status:=0 }) WM (MC.back ⟨(RS.of { s with status:=0 }).ah.fn,(ks:Int)+1,ks,(RS.of { s with status:=0 }).ah.slots,[],m.aj.bw⟩);show(MV.aj (MV.aS { m with status:=0 } (MC.back _))).at_=_;rw[this];rfl
 have ZU:∀M':MV,M'.aj.at_=(ks:Int)->0<=M'.aj.at_/\M'.aj.at_<C.ins.length/\nth C.ins M'.aj.at_.toNat=iI 1 (cD p (RS.of { s with status:=0 }).ah):=fun M' e=>by rw[e,Int.toNat_natCast];exact⟨jB,jB,by rw[Vp,ZT]⟩
 unfold gN;rw[jN];by_cases Wy:kn p s (dG p s) inp
 ·rw[if_pos Wy];refine⟨_,q1 (by rw[P'];exact Ig Wy _ rfl),.inl (by show¬((1:Int)=0);decide),⟨?_,?_,?_,fun _=>?_⟩⟩
  ·have:=XZ 1 0;exact⟨this.len,this.aj,this.low,this.heap,this.in_,this.aC,this.status⟩
  ·show(0:Int)=s.bp;exact Yz.symm
  ·show(if(1:Int)=1 then m.time else m.time+1)=s.time;rw[if_pos rfl];exact h.time
  ·exact ZU (MV.iF _) (X0 1 0)
 rw[if_neg Wy];have XI:¬kn p (RS.of { s with status:=0 }).st (dG p s) inp:=by rw[P'];exact fun hh=>Wy (Ig hh _ rfl)
 obtain⟨q3,q4⟩:=q2 XI;have hA:=fun e=>hd.bO hs hn (by rw[Tf];exact XI) e
 have hmv:=EJ hs hd (inp:=inp) (by rw[Tf];exact XI);have hW:=fun e=>eN.bO hw hd (t:=⟨t.fr,t.link⟩) hn (by rw[Tf];exact XI) e
 rw[Tf]at hA hW hmv;simp only;generalize (RS.of { s with status:=0 }).bO p (dG p s) inp=X at*;by_cases hz:X.2=0
 rotate_left
 ·rw[if_pos hz];refine⟨_,q3 hz,.inl (by show¬((3:Int)=0);decide),⟨?_,rfl,?_,fun _=>?_⟩⟩
  ·have:=XZ 3 X.2;exact⟨this.len,this.aj,this.low,this.heap,this.in_,this.aC,this.status⟩
  ·show(if(3:Int)=1 then m.time else m.time+1)=s.time+1;rw[if_neg jC,h.time]
  ·exact ZU (MV.iF _) (X0 3 X.2)
 rw[if_neg (fun h=>h hz)];obtain⟨m1,g1,M1,K1⟩:=q4 hz;have hX:=hA hz;have hXs:X.1.status=0\/X.1.status=2:=by
  rcases hmv.st with e|e
  ·exact .inl e
  ·exact .inr e.1
 have hX2:dN p { X.1 with time:=s.time+1 }:=⟨⟨⟨hX.inv.ok.nf,hX.inv.ok.jp⟩,hX.inv.aw,hX.inv.fr,hX.inv.busy,hX.inv.go⟩,hX.cells,hX.outs,hX.gV,hX.hZ⟩;have hW2:eN p { X.1 with time:=s.time+1 }:=⟨(hW hz).fr,(hW hz).link⟩;have hM2:iY p C { X.1 with time:=s.time+1 } m1:=⟨M1.len,M1.aj,M1.low,M1.heap,M1.in_,M1.aC,M1.status⟩;obtain⟨m2,g2,S2,M2,K2,st2,mk2⟩:=Ic (inp:=inp) hw hC hX2 hW2 hM2 hXs;have Xe:=(qx p (RS.left { X.1 with time:=s.time+1 }+1) { X.1 with time:=s.time+1 }).time;have Xf:=(qx p (RS.left { X.1 with time:=s.time+1 }+1) { X.1 with time:=s.time+1 }).bp;have Xe:(RS.settle { X.1 with time:=s.time+1 } p).st.time=s.time+1:=Xe;have Xf:(RS.settle { X.1 with time:=s.time+1 } p).st.bp=X.1.bp:=Xf;have hXt:X.1.bp=s.bp:=hmv.bp;refine⟨m2,g1.trans g2,S2,⟨⟨M2.len,M2.aj,M2.low,M2.heap,M2.in_,M2.aC,M2.status⟩,?_,?_,mk2⟩⟩
 ·show m2.bp=_;rw[K2.1,K1.1,Xf,hXt];exact h.bp
 ·show(if m2.status=1 then m2.time else m2.time+1)=_;have YS:m2.status≠1:=by
   have:=M2.status;have:m2.status=(RS.settle { X.1 with time:=s.time+1 } p).st.status:=this;omega
  rw[if_neg YS,Xe,K2.2,K1.2];show m.time+1=_;rw[h.time]
-- how long codes are
theorem mv{p:ab}(ht:aL p.aa):∀(n:Nat) (a k:Int) (lo:Nat),0<=a->a.toNat<p.aa.nodes.length->bT (bA p.aa.nodes a)->aJ p.aa.nodes lo (ao p a).l a.toNat->(aV p n a k).length+4*lo<=4*(a.toNat+1)
 |0,a,k,lo,h0,hl,hk,hc=>by have:=hc.le;show 0+_<=_;omega
 |n+1,a,k,lo,h0,hl,hk,hc=>by
  have Ta:=hc.le;have sh:=(ht.shape a.toNat hl).1;have SW:bT (ao p a).kind:=hk;unfold bT at SW;rw[mm];have one:∀x,(ao p a).l=[x]->bT (bA p.aa.nodes x)->(aV p n (nth (ao p a).l 0) k).length+1+4*lo<=4*(a.toNat+1):=fun x B' hx=>by rw[B']at hc;obtain⟨c1,c2,c3,c4,c5⟩:=kq hc;have:=mv ht n x k lo c1 jB hx c5;rw[B'];show(aV p n x k).length+1+_<=_;omega
  have TG:(ao p a).kind=1\/(ao p a).kind=2\/(ao p a).kind=3\/(ao p a).kind=4\/(ao p a).kind=5\/(ao p a).kind=6\/(ao p a).kind=7\/(ao p a).kind=8\/(ao p a).kind=9:=jB;rcases TG with e|e|e|e|e|e|e|e|e<;>simp only[e,Int.reduceEq,↓reduceIte,List.length_append,List.length_cons,List.length_nil]
  ·omega
  ·omega
  ·omega
  ·omega
  ·obtain⟨x,B',hx⟩:=sh.one (.inl e);have:=one x B' hx;omega
  ·obtain⟨x,B',hx⟩:=sh.one (by have e:(nth p.aa.nodes a.toNat).kind=6:=e;omega);have:=one x B' hx;omega
  ·obtain⟨x,B',hx⟩:=sh.one (by have e:(nth p.aa.nodes a.toNat).kind=7:=e;omega);have:=one x B' hx;omega
  ·obtain⟨x,B',hx⟩:=sh.one (by have e:(nth p.aa.nodes a.toNat).kind=8:=e;omega);have:=one x B' hx;omega
  ·obtain⟨x,y,B',hx,hy⟩:=sh.two (.inl e);have B':(ao p a).l=[x,y]:=B';rw[B']at hc;obtain⟨c1,c2,c3,c4,c5,c6⟩:=iM hc;obtain⟨d1,d2,d3,d4,d5⟩:=kq c6;have e1:=fun k=>mv ht n x k lo c1 jB hx c5
   have e2:=fun k=>mv ht n y k (x.toNat+1) d1 jB hy d5
   rw[B',show nth [x,y] 0=x from rfl,show nth [x,y] 1=y from rfl];split
   ·simp only[List.length_append,List.length_cons,List.length_nil];have:=e1 k;have:=e2 (k+(aV p n x k).length);omega
   ·simp only[List.length_append,List.length_cons,List.length_nil];have:=e1 k;have:=e2 (k+(aV p n x k).length+1);omega
theorem xd{p:ab}{f:Int->Int->List av}:∀(L:SI) (k:Int) (lo hi:Nat),aJ p.aa.nodes lo L hi->(∀x∈L,∀k lo,aJ p.aa.nodes lo (ao p x).l x.toNat->(f x k).length+4*lo<=4*(x.toNat+1))->(bz f k L []).length+4*lo<=4*hi
 |[],k,lo,hi,hc,h=>by cases hc;show 0+_<=_;omega
 |x::L,k,lo,hi,hc,h=>by
  show(bz f k L ([]++f x (k+((0:Nat):Int)))).length+_<=_;rw[uO,List.nil_append,List.length_append];obtain⟨c1,c2,c3,c4,c5,c6⟩:=iM hc;have h1:=h x jE (k+((0:Nat):Int)) lo c5;have h2:=xd L (k+(f x (k+((0:Nat):Int))).length) _ hi c6 fun y hy=>h y (by simp[hy])
  omega
def Cj(ht:aL p.aa)(n:Nat)(k:Int)(lo:Nat)(hl:a.toNat<p.aa.nodes.length)(hk:(ao p a).kind=21)(hc:aJ p.aa.nodes lo (ao p a).l a.toNat):(cW p n a k).length+4*lo<=4*(a.toNat+1):=by
 have UY:=ht.shape a.toNat hl;have:=xd (f:=aV p n) (ao p a).l k lo a.toNat hc fun x hx k lo Wi=>by have hb:=UY.2.1 x hx;exact mv ht n x k lo hb.1 jB (UY.1.call hk x hx) Wi
 unfold cW;rw[List.length_append,List.length_singleton];omega
def Fa(ht:aL p.aa)(n:Nat)(k:Int)(lo:Nat)(h0:0<=a)(hl:a.toNat<p.aa.nodes.length)(hk:eF (bA p.aa.nodes a))(hc:aJ p.aa.nodes lo (ao p a).l a.toNat):(jt p n a k).length+4*lo<=4*(a.toNat+1):=by
 have Ta:=hc.le;rw[uI];split
 ·simp only[List.length_cons,List.length_nil];omega
 rename_i e19;split
 ·rename_i e;obtain⟨x,B',hx⟩:=(ht.shape a.toNat hl).1.one (by have e:(nth p.aa.nodes a.toNat).kind=20:=e;omega);have B':(ao p a).l=[x]:=B';rw[B']at hc;obtain⟨c1,c2,c3,c4,c5⟩:=kq hc;have:=mv ht n x k lo c1 jB hx c5;rw[B',List.length_append,List.length_singleton];show(aV p n x k).length+1+_<=_;omega
 rename_i e20;split
 ·rename_i e;exact Cj ht n k lo hl e hc
 ·rename_i e21;refine mv ht n a k lo h0 hl ?_ hc;rcases hk with hk|hk|hk|hk
  ·exact hk
  ·exact(e19 hk).elim
  ·exact(e20 hk).elim
  ·exact(e21 hk).elim
theorem Dm{p:ab}(ht:aL p.aa):∀(n:Nat) (a k:Int) (lo:Nat),0<=a->a.toNat<p.aa.nodes.length->eo (bA p.aa.nodes a)->aJ p.aa.nodes lo (ao p a).l a.toNat->(gX p n a k).length+4*lo<=4*(a.toNat+1)
 |0,a,k,lo,h0,hl,hk,hc=>by have:=hc.le;show 0+_<=_;omega
 |n+1,a,k,lo,h0,hl,hk,hc=>by
  have Ta:=hc.le;have sh:=(ht.shape a.toNat hl).1;have SW:eo (ao p a).kind:=hk;unfold eo at SW;rw[yl,List.length_cons];have blk:∀(b:Int) (lo:Nat) (k:Int),0<=b->b.toNat<p.aa.nodes.length->bA p.aa.nodes b=18->aJ p.aa.nodes lo (ao p b).l b.toNat->(bz (gX p n) k (ao p b).l []).length+4*lo<=4*b.toNat:=fun b lo k b0 b1 b2 b3=>
   xd (ao p b).l k lo b.toNat b3 fun x hx k lo Wi=>by have hb:=(ht.shape b.toNat b1).2.1 x hx;exact Dm ht n x k lo hb.1 jB ((ht.shape b.toNat b1).1.block b2 x hx) Wi
  split
  ·rename_i e;obtain⟨x,B',hx⟩:=sh.right e;have B':(ao p a).l=[x]:=B';rw[B']at hc;obtain⟨c1,c2,c3,c4,c5⟩:=kq hc;have:=Fa ht n (k+1) lo c1 jB hx c5;rw[B',List.length_append,List.length_singleton];show(jt p n x (k+1)).length+1+1+_<=_;omega
  split
  ·rename_i e;obtain⟨x,y,B',hx,hy⟩:=sh.two (.inr e);have B':(ao p a).l=[x,y]:=B';rw[B']at hc;obtain⟨c1,c2,c3,c4,c5,c6⟩:=iM hc;obtain⟨d1,d2,d3,d4,d5⟩:=kq c6;have e1:=mv ht n x (k+1) lo c1 jB hx c5;have e2:=mv ht n y (k+1+(aV p n x (k+1)).length) (x.toNat+1) d1 jB hy d5;rw[B',show nth [x,y] 0=x from rfl,show nth [x,y] 1=y from rfl];simp only[List.length_append,List.length_cons,List.length_nil];omega
  split
  ·rename_i e;obtain⟨x,B',hx⟩:=sh.nN e;have B':(ao p a).l=[x]:=B';rw[B']at hc;obtain⟨c1,c2,c3,c4,c5⟩:=kq hc;have:=Cj ht n (k+1) lo jB hx c5;rw[B',List.length_append,List.length_singleton];show(cW p n x (k+1)).length+1+1+_<=_;omega
  split
  ·rename_i e;obtain⟨x,B',hx⟩:=sh.one (by have e:(nth p.aa.nodes a.toNat).kind=14:=e;omega);have B':(ao p a).l=[x]:=B';rw[B']at hc;obtain⟨c1,c2,c3,c4,c5⟩:=kq hc;have:=mv ht n x (k+1) lo c1 jB hx c5;rw[B',List.length_append,List.length_singleton];show(aV p n x (k+1)).length+1+1+_<=_;omega
  split
  ·rename_i e;rcases sh.ret e with B'|⟨x,B',hx⟩
   ·have B':(ao p a).l=[]:=B';rw[B',if_pos (show([]:SI).length=0 from rfl)];simp only[List.length_cons,List.length_nil];omega
   ·have B':(ao p a).l=[x]:=B';rw[B']at hc;obtain⟨c1,c2,c3,c4,c5⟩:=kq hc;have:=mv ht n x (k+1) lo c1 jB hx c5;rw[B',if_neg jE,List.length_append,List.length_singleton];show(aV p n x (k+1)).length+1+1+_<=_;omega
  ·rename_i n1 n2 n3 n4 n5;by_cases k16:(ao p a).kind=16
   ·rw[BL k16];obtain⟨x,b,B',hx,hb⟩:=sh.dS k16;have B':(ao p a).l=[x,b]:=B';rw[B']at hc;obtain⟨c1,c2,c3,c4,c5,c6⟩:=iM hc;obtain⟨d1,d2,d3,d4,d5⟩:=kq c6;rw[B',show nth [x,b] 0=x from rfl,show nth [x,b] 1=b from rfl];have e1:=mv ht n x (k+1) lo c1 jB hx c5;have e2:=blk b (x.toNat+1) (k+1+(aV p n x (k+1)).length+1) d1 jB hb d5;simp only[List.length_append,List.length_cons,List.length_nil];omega
   have k15:(ao p a).kind=15:=jB;obtain⟨x,b,hx,hb,B'⟩:=sh.kI k15;rcases B' with B'|⟨d,B',hd⟩
   ·have B':(ao p a).l=[x,b]:=B';rw[Dj k15 (by rw[B'];simp)];rw[B']at hc;obtain⟨c1,c2,c3,c4,c5,c6⟩:=iM hc;obtain⟨d1,d2,d3,d4,d5⟩:=kq c6;rw[B',show nth [x,b] 0=x from rfl,show nth [x,b] 1=b from rfl];have e1:=mv ht n x (k+1) lo c1 jB hx c5;have e2:=blk b (x.toNat+1) (k+1+(aV p n x (k+1)).length+1) d1 jB hb d5;simp only[List.length_append,List.length_cons,List.length_nil];omega
   ·have B':(ao p a).l=[x,b,d]:=B';rw[zV k15 (by rw[B'];rfl)];rw[B']at hc;obtain⟨c1,c2,c3,c4,c5,c6⟩:=iM hc;obtain⟨d1,d2,d3,d4,d5,d6⟩:=iM c6;obtain⟨g1,g2,g3,g4,g5⟩:=kq d6;rw[B',show nth [x,b,d] 0=x from rfl,show nth [x,b,d] 1=b from rfl,show nth [x,b,d] 2=d from rfl];have e1:=mv ht n x (k+1) lo c1 jB hx c5;have e2:=blk b (x.toNat+1) (k+1+(aV p n x (k+1)).length+1) d1 jB hb d5;have e3:=blk d (b.toNat+1) (k+1+(aV p n x (k+1)).length+1+(bz (gX p n) (k+1+(aV p n x (k+1)).length+1) (ao p b).l []).length+1) g1 jB hd g5;simp only[List.length_append,List.length_cons,List.length_nil];omega
def fl(p:ab)(i:Nat):aI:=(p.aa.aq.take i).foldl (Ce p) ⟨[],[]⟩
def zx(p:ab)(i:Nat)(h:i<p.aa.aq.length):fl p (i+1)=Ce p (fl p i) (nth p.aa.aq i):=by unfold fl;rw[xX _ _ h,List.foldl_append];rfl
theorem za(p:ab):∀i,i<=p.aa.aq.length->(fl p i).entry.length=i
 |0,_=>rfl
 |i+1,h=>by rw[zx p i jB];show((fl p i).entry++[_]).length=_;rw[List.length_append,za p i jB];rfl
theorem Hj(p:ab)(j:Nat):∀i,j<i->i<=p.aa.aq.length->∃k:Nat,nth (fl p i).entry j=(k:Int)/\bR (fl p i).ins k (lb p (me p) k (nth p.aa.aq j).body++[iI 22 (nth p.aa.aq j).ret])
 |0,h,_=>by omega
 |i+1,h,hi=>by
  rw[zx p i jB];have hl:=za p i jB;by_cases e:j<i
  ·obtain⟨k,h1,post,h2⟩:=Hj p j i e jB;refine⟨k,?_,post++(qZ p (me p) (nth p.aa.aq i).body (fl p i).ins.length++[iI 22 (nth p.aa.aq i).ret]),?_⟩
   ·show nth ((fl p i).entry++[_]) j=_;rw[lM jB];exact h1
   ·show((fl p i).ins++_++_).drop k=_;have hk:k<=(fl p i).ins.length:=Classical.byContradiction fun hk=>by
     rw[List.drop_eq_nil_of_le jB]at h2;have:=congrArg List.length h2;simp at this
    rw[List.append_assoc,List.drop_append_of_le_length hk,h2,List.append_assoc]
  ·have:j=i:=jB;subst this;refine⟨(fl p j).ins.length,?_,[],?_⟩
   ·show nth ((fl p j).entry++[((fl p j).ins.length:Int)]) j=_;have:=mn (fl p j).entry ((fl p j).ins.length:Int);rw[hl]at this;exact this
   ·show((fl p j).ins++qZ p (me p) (nth p.aa.aq j).body (fl p j).ins.length++[iI 22 (nth p.aa.aq j).ret]).drop (fl p j).ins.length=_;rw[List.append_assoc,List.drop_left,List.append_nil];rfl
theorem Cz{p:ab}(hs:cY p):∀i,i<=p.aa.aq.length->(fl p i).ins.length<=2000*i
 |0,_=>Nat.le_refl _
 |i+1,h=>by
  have ih:=Cz hs i jB;rw[zx p i jB];have Uh:=pw hs.ok.aa (k:=i) jB;have hc:=(hs.aq i jB).chain;have hm:=hs.ok.aa.many;have Wu:=hs.ok.aa.body _ (er (l:=p.aa.aq) (k:=i) jB);have UY:=hs.ok.aa.shape (nth p.aa.aq i).body.toNat (by have:=Uh.1;have:=Uh.2;omega);have hb:=xd (p:=p) (f:=gX p (me p)) (ao p (nth p.aa.aq i).body).l (fl p i).ins.length (oK p.aa i) (nth p.aa.aq i).body.toNat hc fun x hx k lo Wi=>by have hb:=UY.2.1 x hx;have:=Uh.1;have:=Uh.2;exact Dm hs.ok.aa _ x k lo hb.1 jB (UY.1.block Wu x hx) Wi
  show((fl p i).ins++qZ p (me p) (nth p.aa.aq i).body (fl p i).ins.length++[iI 22 (nth p.aa.aq i).ret]).length<=_;rw[List.length_append,List.length_append,List.length_singleton];have:=Uh.1;have:=Uh.2;unfold qZ;have:(nth p.aa.aq i).body.toNat<=300:=jB;omega
def sV(hs:cY p):dB p (kN p):=by
 have e:kN p=fl p p.aa.aq.length:=by unfold kN fl;rw[List.take_length]
 have hf:=hs.ok.aa.aq;rw[e];exact⟨za p _ jl,fun j hj=>Hj p j _ hj jl,by have:=Cz hs _ (Nat.le_refl p.aa.aq.length);omega⟩
def xm(p:ab)(C:aI):MV:=⟨[MV.iw p C (kD p) []],0,[],0,[],0,0,0⟩
def Md(hw:kf p)(hC:dB p C):∃m1,aW p C inp (xm p C) m1/\m1.lc C/\pZ p C (oe p) m1:=by
 obtain⟨j,hj,Vl,_,VB⟩:=xP hw.ok;obtain⟨ek,e1,e2⟩:=Gv hC hj;have hM:iY p C (gS p) (xm p C):=by
  refine⟨rfl,fun _=>?_,fun k hk=>?_,rfl,rfl,rfl,rfl⟩
  ·show mf p C (gg p (kD p) []) (MV.iw p C (kD p) []);rw[Vl];refine⟨rfl,rfl,rfl,fun _=>⟨me p,ek,.base _ ek rfl e2,?_⟩,fun h=>by cases h⟩;show MV.iX C j=((nD _ ek _ 0:Nat):Int);rw[e1];rfl
  ·have hk:k+1<1:=hk;omega
 obtain⟨m1,g1,s1,M1,K1,st1,mk1⟩:=Ic (inp:=inp) hw hC (un hw.ok) (EG hw) hM (.inl rfl);have W5:=qx p ((gS p).left+1) (gS p);exact⟨m1,g1,s1,⟨M1,K1.1.trans W5.bp.symm,K1.2.trans W5.time.symm,mk1⟩⟩
def CL(h:SH)(a:Int)(hl:h.length<=1000)(ha:a<1\/(h.length:Int)<a):ai prog 51 [.pt 2 0 0 0,rI a] (gK h) (fun r l=>r=.raw (.slice none 0 0)/\l=gK h):=by
 have Vh:=vH h;by_cases h1:a<1
 ·refine aU func51 ntmps51 ?_;refine S ?_
  (repeat' (first|refine aA fun K hK=>?_|refine ax ?_|(refine hK _ _ ?_;clear hK K)|(refine az ?_ ?_<;>intro hc<;>try exact jz)|refine ay ?_|exact jI|(clear hK K)))
  (refine cr [.tmp 4] ?_ ?_<;>(try simp only[go_sem]))
 ·refine aU func51 ntmps51 ?_;refine S ?_
  (repeat' (first|refine aA fun K hK=>?_|refine ax ?_|(refine hK _ _ ?_;clear hK K)|(refine az ?_ ?_<;>intro hc<;>try exact jz)|refine ay ?_|exact jI|(clear hK K)))
  (refine cr [.tmp 4] ?_ ?_<;>(try simp only[go_sem]))
def xc(h:SH)(k:Nat)(a:Int)(ha:a=(k:Int)+1)(hl:h.length<=1000)(hf:h.flatten.length<=1000)(hk:k<h.length):ai prog 51 [.pt 2 0 0 0,rI a] (gK h) (fun r l=>r=.rv 3 h.flatten.length 1 (kJ h k) (nth h k).length/\l=gK h):=by
 have Vh:=vH h;have e1:nth (l8 h) (a-1).toNat=(kJ h k+(nth h k).length:Nat):=by rw[show(a-1).toNat=k from jB,Gc hk,uP hk]
 have e2:=uP hk;have e3:=wQ h (k+1);generalize (nth h k).length=c at*;by_cases h1:k=0
 ·have e0:kJ h k=0:=by subst h1;rfl
  rw[e0]at e1 e2;rw[e0];refine aU func51 ntmps51 ?_;refine S ?_
  (have W:=jA Vh e1;repeat' (first|refine aA fun K hK=>?_|refine ax ?_|(refine hK _ _ ?_;clear hK K)|(refine az ?_ ?_<;>intro hc<;>try exact jz)|refine ay ?_|exact jI|(clear hK K)))
  (refine cr [.tmp 4] ?_ ?_<;>(try simp only[go_sem]))
  rw[Nat.sub_zero]
 ·have e4:nth (l8 h) (a-2).toNat=(kJ h k:Nat):=by
   have e4:=Gc (h:=h) (k:=k-1) jB;rw[show k-1+1=k from jB]at e4;rw[show(a-2).toNat=k-1 from jB];exact e4
  generalize kJ h k=o at*;refine aU func51 ntmps51 ?_;refine S ?_
  (have W:=jA Vh (jA e1 (e4));repeat' (first|refine aA fun K hK=>?_|refine ax ?_|(refine hK _ _ ?_;clear hK K)|(refine az ?_ ?_<;>intro hc<;>try exact jz)|refine ay ?_|exact jI|(clear hK K)))
  (refine cr [.tmp 4] ?_ ?_<;>(try simp only[go_sem]))
  rw[Nat.add_sub_cancel_left]
def ME(h:SH)(a:Int)(hl:h.length<=1000)(hf:h.flatten.length<=1000):ai prog 83 [.pt 2 0 0 0,rI a] (gK h) (fun r l=>r=rI (MV.bE h a).length/\l=gK h):=by
 unfold MV.bE;by_cases e:a<1\/(h.length:Int)<a
 ·have Ty:=CL h a hl e;rw[if_pos e];refine aU func83 ntmps83 ?_;refine S ?_
  (repeat' (first|refine aA fun K hK=>?_|refine ax ?_|(refine hK _ _ ?_;clear hK K)|(refine az ?_ ?_<;>intro hc<;>try exact jz)|refine cm (Ty) ?_|refine ay ?_|exact jI|(clear hK K)))
  (refine cr [.tmp 4] ?_ ?_<;>(try simp only[go_sem]))
 ·have Ty:=xc h (a-1).toNat a jB hl hf jB;rw[if_neg e];refine aU func83 ntmps83 ?_;refine S ?_
  (repeat' (first|refine aA fun K hK=>?_|refine ax ?_|(refine hK _ _ ?_;clear hK K)|(refine az ?_ ?_<;>intro hc<;>try exact jz)|refine cm (Ty) ?_|refine ay ?_|exact jI|(clear hK K)))
  (refine cr [.tmp 4] ?_ ?_<;>(try simp only[go_sem]))
def NS(h:SH)(a i:Int)(hl:h.length<=1000)(hf:h.flatten.length<=1000):ai prog 84 [.pt 2 0 0 0,rI a,rI i] (gK h) (fun r l=>r=.bf [rI (if i<0\/((MV.bE h a).length:Int)<=i then 0 else nth (MV.bE h a) i.toNat),rI (if i<0\/((MV.bE h a).length:Int)<=i then 2 else 0)]/\l=gK h):=by
 by_cases e:a<1\/(h.length:Int)<a
 ·have Ty:=CL h a hl e;have e2:MV.bE h a=[]:=by unfold MV.bE;rw[if_pos e]
  have e3:i<0\/(([]:SI).length:Int)<=i:=by simp only[List.length_nil];omega
  rw[e2,if_pos e3,if_pos e3];by_cases h0:i<0
  ·refine aU func84 ntmps84 ?_;refine S ?_
   (repeat' (first|refine aA fun K hK=>?_|refine ax ?_|(refine hK _ _ ?_;clear hK K)|(refine az ?_ ?_<;>intro hc<;>try exact jz)|refine cm (Ty) ?_|refine ay ?_|exact jI|(clear hK K)))
   (refine cr [.tmp 6,.tmp 7] ?_ ?_<;>(try simp only[go_sem]))
  ·refine aU func84 ntmps84 ?_;refine S ?_
   (repeat' (first|refine aA fun K hK=>?_|refine ax ?_|(refine hK _ _ ?_;clear hK K)|(refine az ?_ ?_<;>intro hc<;>try exact jz)|refine cm (Ty) ?_|refine ay ?_|exact jI|(clear hK K)))
   (refine cr [.tmp 6,.tmp 7] ?_ ?_<;>(try simp only[go_sem]))
 ·have Ty:=xc h (a-1).toNat a jB hl hf jB;have e2:MV.bE h a=nth h (a-1).toNat:=by unfold MV.bE;rw[if_neg e]
  rw[e2];have hk:(a-1).toNat<h.length:=jB;generalize (a-1).toNat=k at*;have hof:=uP hk;have Ta:=wQ h (k+1);by_cases e3:i<0\/((nth h k).length:Int)<=i
  ·rw[if_pos e3,if_pos e3];by_cases h0:i<0
   ·refine aU func84 ntmps84 ?_;refine S ?_
    (repeat' (first|refine aA fun K hK=>?_|refine ax ?_|(refine hK _ _ ?_;clear hK K)|(refine az ?_ ?_<;>intro hc<;>try exact jz)|refine cm (Ty) ?_|refine ay ?_|exact jI|(clear hK K)))
    (refine cr [.tmp 6,.tmp 7] ?_ ?_<;>(try simp only[go_sem]))
   ·refine aU func84 ntmps84 ?_;refine S ?_
    (repeat' (first|refine aA fun K hK=>?_|refine ax ?_|(refine hK _ _ ?_;clear hK K)|(refine az ?_ ?_<;>intro hc<;>try exact jz)|refine cm (Ty) ?_|refine ay ?_|exact jI|(clear hK K)))
    (refine cr [.tmp 6,.tmp 7] ?_ ?_<;>(try simp only[go_sem]))
  ·rw[if_neg e3,if_neg e3];have hn:=Kw (i:=i.toNat) hk jB;refine aU func84 ntmps84 ?_;refine S ?_
   (have W:=hn;repeat' (first|refine aA fun K hK=>?_|refine ax ?_|(refine hK _ _ ?_;clear hK K)|(refine az ?_ ?_<;>intro hc<;>try exact jz)|refine cm (Ty) ?_|refine ay ?_|exact jI|(clear hK K)))
   (refine cr [.tmp 6,.tmp 7] ?_ ?_<;>(try simp only[go_sem]))
def Lj(h:SH)(a i n:Int)(hl:h.length<=1000)(hf:h.flatten.length<=1000)(hi:¬(i<0\/((MV.bE h a).length:Int)<=i)):ai prog 85 [.pt 2 0 0 0,rI a,rI i,rI n] (gK h) (fun r l=>r=rI 0/\l=gK (h.set (a-1).toNat ((nth h (a-1).toNat).set i.toNat n))):=by
 have e:¬(a<1\/(h.length:Int)<a):=fun e=>hi (by unfold MV.bE;rw[if_pos e];simp only[List.length_nil];omega)
 have e2:MV.bE h a=nth h (a-1).toNat:=by unfold MV.bE;rw[if_neg e]
 rw[e2]at hi;have Ty:=xc h (a-1).toNat a jB hl hf jB;have hk:(a-1).toNat<h.length:=jB;generalize (a-1).toNat=k at*;have hof:=uP hk;have Ta:=wQ h (k+1);have hn:=NO n hk (i:=i.toNat) jB;have hes:=OW (h:=h) (k:=k) ((nth h k).set i.toNat n) (by rw[List.length_set]) hk;have Uk:(h.flatten.set (kJ h k+i.toNat) n).length=h.flatten.length:=List.length_set;unfold gK;rw[hn,hes];simp only[List.length_set,List.map_set];refine aU func85 ntmps85 ?_;refine S ?_
 (repeat' (first|refine aA fun K hK=>?_|refine ax ?_|(refine hK _ _ ?_;clear hK K)|(refine az ?_ ?_<;>intro hc<;>try exact jz)|refine cm (Ty) ?_|refine ay ?_|exact jI|(clear hK K)))
 (refine cr [.tmp 8] ?_ ?_<;>(try simp only[go_sem]))
def Qc(h:SH)(a i n:Int)(hl:h.length<=1000)(hf:h.flatten.length<=1000)(hi:i<0\/((MV.bE h a).length:Int)<=i):ai prog 85 [.pt 2 0 0 0,rI a,rI i,rI n] (gK h) (fun r l=>r=rI 2/\l=gK h):=by
 by_cases e:a<1\/(h.length:Int)<a
 ·have Ty:=CL h a hl e;by_cases h0:i<0
  ·refine aU func85 ntmps85 ?_;refine S ?_
   (repeat' (first|refine aA fun K hK=>?_|refine ax ?_|(refine hK _ _ ?_;clear hK K)|(refine az ?_ ?_<;>intro hc<;>try exact jz)|refine cm (Ty) ?_|refine ay ?_|exact jI|(clear hK K)))
   (refine cr [.tmp 8] ?_ ?_<;>(try simp only[go_sem]))
  ·refine aU func85 ntmps85 ?_;refine S ?_
   (repeat' (first|refine aA fun K hK=>?_|refine ax ?_|(refine hK _ _ ?_;clear hK K)|(refine az ?_ ?_<;>intro hc<;>try exact jz)|refine cm (Ty) ?_|refine ay ?_|exact jI|(clear hK K)))
   (refine cr [.tmp 8] ?_ ?_<;>(try simp only[go_sem]))
 ·have Ty:=xc h (a-1).toNat a jB hl hf jB;have e2:MV.bE h a=nth h (a-1).toNat:=by unfold MV.bE;rw[if_neg e]
  rw[e2]at hi;have hk:(a-1).toNat<h.length:=jB;generalize (a-1).toNat=k at*;have hof:=uP hk;have Ta:=wQ h (k+1);by_cases h0:i<0
  ·refine aU func85 ntmps85 ?_;refine S ?_
   (repeat' (first|refine aA fun K hK=>?_|refine ax ?_|(refine hK _ _ ?_;clear hK K)|(refine az ?_ ?_<;>intro hc<;>try exact jz)|refine cm (Ty) ?_|refine ay ?_|exact jI|(clear hK K)))
   (refine cr [.tmp 8] ?_ ?_<;>(try simp only[go_sem]))
  ·refine aU func85 ntmps85 ?_;refine S ?_
   (repeat' (first|refine aA fun K hK=>?_|refine ax ?_|(refine hK _ _ ?_;clear hK K)|(refine az ?_ ?_<;>intro hc<;>try exact jz)|refine cm (Ty) ?_|refine ay ?_|exact jI|(clear hK K)))
   (refine cr [.tmp 8] ?_ ?_<;>(try simp only[go_sem]))
def PH(h:SH)(n:Int)(hn:n<0\/16<n)(hl:h.length<=40)(hf:h.flatten.length<=40):ai prog 87 [.pt 2 0 0 0,rI n] (gK h) (fun r l=>r=.bf [rI 0,rI 7]/\l=gK h):=by
 have Vh:=vH h;refine aU func87 ntmps87 ?_
 (refine S ?_;try exact jI)
 by_cases h0:n<0
 ·(repeat' (first|refine aA fun K hK=>?_|refine ax ?_|(refine hK _ _ ?_;clear hK K)|(refine az ?_ ?_<;>intro hc<;>try exact jz)|refine ay ?_|exact jI|(clear hK K)))
  (refine cr [.tmp 4,.tmp 5] ?_ ?_<;>(try simp only[go_sem]))
 ·(repeat' (first|refine aA fun K hK=>?_|refine ax ?_|(refine hK _ _ ?_;clear hK K)|(refine az ?_ ?_<;>intro hc<;>try exact jz)|refine ay ?_|exact jI|(clear hK K)))
  (refine cr [.tmp 4,.tmp 5] ?_ ?_<;>(try simp only[go_sem]))
def Ka(h:SH)(n:Int)(hn:0<=n/\n<=16)(hc:40<(h.length:Int)+h.flatten.length+n+1)(hl:h.length<=40)(hf:h.flatten.length<=40):ai prog 87 [.pt 2 0 0 0,rI n] (gK h) (fun r l=>r=.bf [rI 0,rI 4]/\l=gK h):=by
 have Vh:=vH h;refine aU func87 ntmps87 ?_;refine S ?_
 (repeat' (first|refine aA fun K hK=>?_|refine ax ?_|(with_reducible refine gR 3 ?_);refine dE 3 (bo 0 16) mixed ?_|(refine hK _ _ ?_;clear hK K)|(refine az ?_ ?_<;>intro hc<;>try exact jz)|refine ay ?_|exact jI|(clear hK K)))
 (refine cr [.tmp 4,.tmp 5] ?_ ?_<;>(try simp only[go_sem]))
def NN(h:SH)(k:Nat)(hn:k<=16)(hc:h.length+h.flatten.length+k+1<=40):ai prog 87 [.pt 2 0 0 0,rI k] (gK h) (fun r l=>r=.bf [rI (h.length+1:Nat),rI 0]/\l=gK (h++[List.replicate k 0])):=by
 have Vh:=vH h;unfold gK;rw[Ls,NB,List.map_append,KD];refine aU func87 ntmps87 ?_;refine S ?_
 (repeat' (first|refine aA fun K hK=>?_|refine ax ?_|(with_reducible refine gR 3 ?_);refine dE 3 (bo 0 16) mixed ?_|(with_reducible refine gR 6 ?_);refine dE 6 (bo 0 15) mixed ?_|(refine hK _ _ ?_;clear hK K)|(refine az ?_ ?_<;>intro hc<;>try exact jz)|(refine OS (e:=3) (z0:=.int .i64 0) (css:=h.flatten.map eI) jG ⟨.i64,jG⟩ jG jG rfl (by simp only[go_sem];rfl) (by rw[List.length_map]) (by rw[List.length_map]) (by simp only[go_sem,room,List.length_map];omega) ?_;simp only[List.length_map];try refine S ?_)|refine ay ?_|exact jI|(clear hK K)))
 (refine cr [.tmp 4,.tmp 5] ?_ ?_<;>(try simp only[go_sem]))
 simp[eI]
def ow(p:ab)(L:List av)(a:Int)(h0:0<=a)(h1:a.toNat<p.aa.nodes.length):ai prog 72 [.pt 0 0 0 0,rI a] (bY p L) (fun r l=>r=.agg (dO (ao p a))/\l=bY p L):=by
 unfold ao;refine aU func72 ntmps72 ?_;refine S ?_
 (repeat' (first|refine aA fun K hK=>?_|refine ax ?_|(refine hK _ _ ?_;clear hK K)|(refine az ?_ ?_<;>intro hc<;>try exact jz)|refine al 5 ?_|refine ay ?_|exact jI|(clear hK K)))
 (refine bG [.cell 4 59] ?_;try simp only[go_sem])
def je(p:ab)(L:List av)(op a:Int)(hL:L.length<=1000000):ai prog 38 [.pt 0 0 0 0,rI op,rI a] (bY p L) (fun r l=>r=rI L.length/\l=bY p (L++[⟨op,a,0,sE⟩])):=by
 refine aU func38 ntmps38 ?_;refine S ?_
 (repeat' (first|refine aA fun K hK=>?_|refine ax ?_|(refine hK _ _ ?_;clear hK K)|(refine az ?_ ?_<;>intro hc<;>try exact jz)|refine ay ?_|exact jI|(clear hK K)))
 (refine bG [.tmp 6] ?_;try simp only[go_sem])
 rw[show((L.length+1:Nat):Int)-1=(L.length:Int) from jB]
def Ax(p:ab)(L:List av)(k:Nat)(hk:k<L.length)(hL:L.length<=1000000):ai prog 136 [.pt 0 0 0 0,rI k] (bY p L) (fun r l=>r=.bf []/\l=bY p (L.set k { nth L k with a:=L.length })):=by
 refine aU func136 ntmps136 ?_;refine S ?_
 (repeat' (first|refine aA fun K hK=>?_|refine ax ?_|(with_reducible refine gR 0 ?_);refine dE 0 (bo 0 13) mixed ?_|(refine hK _ _ ?_;clear hK K)|(refine az ?_ ?_<;>intro hc<;>try exact jz)|refine ay ?_|exact jI|(clear hK K)))
 (refine cr [] ?_ ?_<;>(try simp only[go_sem]))
def yV(p:ab)(a:Int):List av:=if(ao p a).kind=1 then[iI 2 (ao p a).n]else if(ao p a).kind=2 then[iI 3 (ao p a).n]else if(ao p a).kind=3 then[⟨4,0,0,(ao p a).name⟩]else if(ao p a).kind=4 then[⟨5,nth p.slots a.toNat,nth p.types a.toNat,sE⟩]else if(ao p a).kind=19 then[iI 14 0]else[]
def MD(p:ab)(L:List av)(a:Int)(h0:0<=a)(h2:a.toNat<p.slots.length)(h3:a.toNat<p.types.length)(hL:L.length<=1000000) :
  ai prog 139 [.pt 0 0 0 0,.agg (dO (ao p a)),rI a] (bY p L) (fun r l=>r=.bf []/\l=bY p (L++yV p a)):=by
 unfold yV;have TW:=je p L 2 (ao p a).n hL;have Wz:=je p L 3 (ao p a).n hL;have XT:=je p L 14 0 hL;generalize ao p a=nd at*;by_cases k1:nd.kind=1
 ·rw[if_pos k1];refine aU func139 ntmps139 ?_;refine S ?_
  (have W:=k1;repeat' (first|refine aA fun K hK=>?_|refine ax ?_|(refine hK _ _ ?_;clear hK K)|(refine az ?_ ?_<;>intro hc<;>try exact jz)|refine bx 5 ?_|refine cm (TW) ?_|refine ay ?_|exact jI|(clear hK K)))
  (refine bG [] ?_;try simp only[go_sem])
 rw[if_neg k1];have n1:=eq_false k1;by_cases k2:nd.kind=2
 ·rw[if_pos k2];refine aU func139 ntmps139 ?_;refine S ?_
  (have W:=k2;repeat' (first|refine aA fun K hK=>?_|refine ax ?_|(refine hK _ _ ?_;clear hK K)|(refine az ?_ ?_<;>intro hc<;>try exact jz)|refine bx 5 ?_|refine cm (Wz) ?_|refine ay ?_|exact jI|(clear hK K)))
  (refine bG [] ?_;try simp only[go_sem])
 rw[if_neg k2];have n2:=eq_false k2;by_cases k3:nd.kind=3
 ·rw[if_pos k3];refine aU func139 ntmps139 ?_;refine S ?_
  (have W:=k3;repeat' (first|refine aA fun K hK=>?_|refine ax ?_|(with_reducible refine gR 7 ?_);refine dE 7 (bo 0 13) mixed ?_|(refine hK _ _ ?_;clear hK K)|(refine az ?_ ?_<;>intro hc<;>try exact jz)|refine bx 5 ?_|refine ay ?_|exact jI|(clear hK K)))
  (refine bG [] ?_;try simp only[go_sem])
 rw[if_neg k3];have n3:=eq_false k3;by_cases k4:nd.kind=4
 ·rw[if_pos k4];refine aU func139 ntmps139 ?_;refine S ?_
  (have W:=k4;repeat' (first|refine aA fun K hK=>?_|refine ax ?_|(with_reducible refine gR 9 ?_);refine dE 9 (bo 0 27) mixed ?_|(refine hK _ _ ?_;clear hK K)|(refine az ?_ ?_<;>intro hc<;>try exact jz)|refine bx 5 ?_|refine ay ?_|exact jI|(clear hK K)))
  (refine bG [] ?_;try simp only[go_sem])
 rw[if_neg k4];have n4:=eq_false k4;by_cases k5:nd.kind=19
 ·rw[if_pos k5];refine aU func139 ntmps139 ?_;refine S ?_
  (have W:=k5;repeat' (first|refine aA fun K hK=>?_|refine ax ?_|(refine hK _ _ ?_;clear hK K)|(refine az ?_ ?_<;>intro hc<;>try exact jz)|refine bx 5 ?_|refine cm (XT) ?_|refine ay ?_|exact jI|(clear hK K)))
  (refine bG [] ?_;try simp only[go_sem])
 rw[if_neg k5,List.append_nil];have n5:=eq_false k5;refine aU func139 ntmps139 ?_;refine S ?_
 (have W:=jA n1 (jA n2 (jA n3 (jA n4 (n5))));repeat' (first|refine aA fun K hK=>?_|refine ax ?_|(refine hK _ _ ?_;clear hK K)|(refine az ?_ ?_<;>intro hc<;>try exact jz)|refine bx 5 ?_|refine ay ?_|exact jI|(clear hK K)))
 (refine bG [] ?_;try simp only[go_sem])
attribute [local go_sem] iI
theorem BB{p:ab}(ht:aL p.aa):∀(n m:Nat) (a k:Int),0<=a->a.toNat<p.aa.nodes.length->bT (bA p.aa.nodes a)->a.toNat<n->a.toNat<m->aV p n a k=aV p m a k
 |0,m,a,k,_,_,_,hn,_=>by omega
 |n+1,0,a,k,_,_,_,_,hm=>jB
 |n+1,m+1,a,k,h0,hl,hk,hn,hm=>by
  have sh:=(ht.shape a.toNat hl).1;have hb:=(ht.shape a.toNat hl).2.1;have SW:bT (ao p a).kind:=hk;unfold bT at SW;have aE:∀x k,x∈(ao p a).l->bT (bA p.aa.nodes x)->aV p n x k=aV p m x k:=fun x k hx S4=>by have:=hb x hx;exact BB ht n m x k this.1 jB S4 jB jB
  rw[mm,mm];have TG:(ao p a).kind=1\/(ao p a).kind=2\/(ao p a).kind=3\/(ao p a).kind=4\/((ao p a).kind=5\/(ao p a).kind=6\/(ao p a).kind=7\/(ao p a).kind=8)\/(ao p a).kind=9:=jB;rcases TG with e|e|e|e|e|e
  ·rw[if_pos e,if_pos e]
  ·rw[jN,if_pos e,jN,if_pos e]
  ·rw[jN,jN,if_pos e,jN,jN,if_pos e]
  ·rw[jN,jN,jN,if_pos e,jN,jN,jN,if_pos e]
  ·obtain⟨x,B',hx⟩:=sh.one (by have e:(nth p.aa.nodes a.toNat).kind=5\/(nth p.aa.nodes a.toNat).kind=6\/(nth p.aa.nodes a.toNat).kind=7\/(nth p.aa.nodes a.toNat).kind=8:=e;omega);have B':(ao p a).l=[x]:=B';have SZ:nth (ao p a).l 0=x:=by rw[B'];rfl
   have e1:=aE x k (by rw[B'];simp) hx;rw[SZ,e1];rcases e with e|e|e|e<;>simp only[e,Int.reduceEq,↓reduceIte]
  ·obtain⟨x,y,B',hx,hy⟩:=sh.two (.inl e);have B':(ao p a).l=[x,y]:=B';have SZ:nth (ao p a).l 0=x:=by rw[B'];rfl
   have UX:nth (ao p a).l 1=y:=by rw[B'];rfl
   have e1:=fun k=>aE x k (by rw[B'];simp) hx
   have e2:=fun k=>aE y k (by rw[B'];simp) hy
   rw[SZ,UX];simp only[e,e1,e2,Int.reduceEq,↓reduceIte]
structure kj(p:ab):Prop where
 ok:cY p
 neg:∀k,k<p.aa.nodes.length->¬iH (nth p.aa.nodes k).kind->nth p.slots k<=0
 pos:∀k,k<p.aa.nodes.length->iH (nth p.aa.nodes k).kind->0<=nth p.slots k
def C1(p:ab)(n:Nat):Prop:=∀(a:Int) (L:List av),0<=a->a.toNat<p.aa.nodes.length->eF (bA p.aa.nodes a)->a.toNat<n->¬(1000000<L.length+3000*n)->ai prog 114 [.pt 0 0 0 0,rI a] (bY p L) (fun r l=>r=.bf []/\l=bY p (L++jt p n a L.length))
variable{n:Nat}
def nk{k:Int}(h:bT (bA p.aa.nodes a)):jt p n a k=aV p n a k:=by have h:bT (ao p a).kind:=h;unfold bT at h;rw[uI,jN,jN,jN]
def Sn(hp:kj p)(hx:C1 p n)(a:Int)(L:List av)(h0:0<=a)(hl:a.toNat<p.aa.nodes.length)(hk:(ao p a).kind=9)(hn:a.toNat<n+1)(hL:¬(1000000<L.length+3000*(n+1))):ai prog 137 [.pt 0 0 0 0,.agg (dO (ao p a))] (bY p L) (fun r l=>r=.bf []/\l=bY p (L++aV p (n+1) a L.length)):=by
 have ht:=hp.ok.ok.aa;have hb:=(ht.shape a.toNat hl).2.1;obtain⟨x,y,B',Tu,Wx⟩:=(ht.shape a.toNat hl).1.two (.inl hk);have B':(ao p a).l=[x,y]:=B';have SZ:nth (ao p a).l 0=x:=by rw[B'];rfl
 have UX:nth (ao p a).l 1=y:=by rw[B'];rfl
 have bx:=hb x (by show x∈(ao p a).l;rw[B'];simp);have by_:=hb y (by show y∈(ao p a).l;rw[B'];simp);have D':=fun(z:Int) (k:Int) (lo:Nat)=>@mv p ht n z k lo
 obtain⟨lo,O'⟩:=(ht.shape a.toNat hl).2.2;have O':aJ p.aa.nodes lo (ao p a).l a.toNat:=O';rw[B']at O';obtain⟨c1,c2,c3,c4,c5,c6⟩:=iM O';obtain⟨d1,d2,d3,d4,d5⟩:=kq c6;have lx:=fun k=>D' x k lo c1 jB Tu c5
 have ly:=fun k=>D' y k _ d1 jB Wx d5
 have hm:=ht.many;have ex:=hx x L bx.1 jB (.inl Tu) jB jB;rw[nk Tu]at ex;have ey:=fun(M:List av) (hM:M.length<=L.length+2900)=>hx y M by_.1 jB (.inl Wx) jB jB
 have hL:¬(997000<L.length):=jB;clear hx;rename_i hL0;clear hL0;simp only[nk Wx]at ey;have e9:aV p (n+1) a L.length=(let x:=aV p n x L.length;if jW (ao p a).name=7 then x++aV p n y (L.length+x.length)++[⟨7,0,0,(ao p a).name⟩]else let y:=aV p n y (L.length+x.length+1);x++[iI (jW (ao p a).name) (L.length+x.length+1+y.length)]++y):=by rw[mm];simp only[hk,SZ,UX,Int.reduceEq,↓reduceIte]
 rw[e9];clear e9;generalize hX:aV p n x (L.length:Int)=X at*;have lX:X.length<=1300:=by have:=lx L.length;rw[hX]at this;omega
 have pt:=fun op=>je p (L++X) op 0 (by simp only[List.length_append];omega)
 have ey1:=ey (L++X) (by simp only[List.length_append];omega);generalize ao p a=nd at*;by_cases k1:nd.name=(⟨#[38,38]⟩:SK)
 ·rw[k1];have hs:jW (⟨#[38,38]⟩:SK)=18:=by unfold jW;rw[if_pos rfl]
  simp only[hs,Int.reduceEq,↓reduceIte];rw[show(L.length:Int)+X.length+1=((L++X++[iI 18 0]).length:Nat) by simp;omega];have ey2:=ey (L++X++[iI 18 0]) (by simp only[List.length_append,List.length_singleton];omega);generalize hY:aV p n y ((L++X++[iI 18 0]).length:Int)=Y at*;have lY:Y.length<=1300:=by have:=ly (L++X++[iI 18 0]).length;rw[hY]at this;omega
  have hh:=Ax p (L++X++[iI 18 0]++Y) (L++X).length (by simp only[List.length_append,List.length_singleton];omega) (by simp only[List.length_append,List.length_singleton];omega);rw[show nth (L++X++[iI 18 0]++Y) (L++X).length=iI 18 0 by rw[List.append_assoc];simp[nth]]at hh;have e8:(L++X++[iI 18 0]++Y).set (L++X).length ⟨18,((L++X++[iI 18 0]++Y).length:Nat),0,sE⟩=L++(X++[iI 18 (((L++X++[iI 18 0]).length:Nat)+Y.length)]++Y):=by rw[List.append_assoc,List.set_append_right _ _ jl,Nat.sub_self];simp[iI];omega
  have e8:bY p ((L++X++[iI 18 0]++Y).set (L++X).length { iI 18 0 with a:=((L++X++[iI 18 0]++Y).length:Nat) })=bY p (L++(X++[iI 18 (((L++X++[iI 18 0]).length:Nat)+Y.length)]++Y)):=by rw[<-e8];rfl
  rw[e8,show(L++X).length=L.length+X.length from List.length_append]at hh;clear e8;have WK:=pt 18;refine aU func137 ntmps137 ?_
  (refine S ?_;try exact jI)
  have d1:(((⟨#[124,124]⟩:SK):SK)=(⟨#[38,38]⟩:SK))=False:=eq_false jC;have k1':(nd.name=(⟨#[38,38]⟩:SK))=True:=eq_true k1
  (have W:=jA k1' (jA B' (d1));repeat' (first|refine aA fun K hK=>?_|refine ax ?_|(refine hK _ _ ?_;clear hK K)|(refine az ?_ ?_<;>intro hc<;>try exact jz)|refine cm (ex) ?_|refine uD 6 ?_|refine vD [] rN ?_|refine vD [(⟨#[38,38]⟩:SK)] rN ?_|refine mD (n:=nd.name) (vs:=[rI 18,rI 19]) [(⟨#[38,38]⟩:SK),(⟨#[124,124]⟩:SK)] (.int .i64 0) (.bf [rI 18,rB true]) rN jG (by unfold ov;rw[if_pos rfl];simp only[pP,k1,↓reduceIte]) ?_|refine cm (WK) ?_|refine cm (ey2) ?_|refine cm (hh) ?_|refine ay ?_|exact jI|(clear hK K)))
  (refine bG [] ?_;try simp only[go_sem])
 by_cases k2:nd.name=(⟨#[124,124]⟩:SK)
 ·rw[k2];have hs:jW (⟨#[124,124]⟩:SK)=19:=by unfold jW;rw[if_neg jC,if_pos rfl]
  simp only[hs,Int.reduceEq,↓reduceIte];rw[show(L.length:Int)+X.length+1=((L++X++[iI 19 0]).length:Nat) by simp;omega];have ey2:=ey (L++X++[iI 19 0]) (by simp only[List.length_append,List.length_singleton];omega);generalize hY:aV p n y ((L++X++[iI 19 0]).length:Int)=Y at*;have lY:Y.length<=1300:=by have:=ly (L++X++[iI 19 0]).length;rw[hY]at this;omega
  have hh:=Ax p (L++X++[iI 19 0]++Y) (L++X).length (by simp only[List.length_append,List.length_singleton];omega) (by simp only[List.length_append,List.length_singleton];omega);rw[show nth (L++X++[iI 19 0]++Y) (L++X).length=iI 19 0 by rw[List.append_assoc];simp[nth]]at hh;have e8:(L++X++[iI 19 0]++Y).set (L++X).length ⟨19,((L++X++[iI 19 0]++Y).length:Nat),0,sE⟩=L++(X++[iI 19 (((L++X++[iI 19 0]).length:Nat)+Y.length)]++Y):=by rw[List.append_assoc,List.set_append_right _ _ jl,Nat.sub_self];simp[iI];omega
  have e8:bY p ((L++X++[iI 19 0]++Y).set (L++X).length { iI 19 0 with a:=((L++X++[iI 19 0]++Y).length:Nat) })=bY p (L++(X++[iI 19 (((L++X++[iI 19 0]).length:Nat)+Y.length)]++Y)):=by rw[<-e8];rfl
  rw[e8,show(L++X).length=L.length+X.length from List.length_append]at hh;clear e8;have WK:=pt 19;refine aU func137 ntmps137 ?_
  (refine S ?_;try exact jI)
  have d1:(((⟨#[124,124]⟩:SK):SK)=(⟨#[38,38]⟩:SK))=False:=eq_false jC;have k2':(nd.name=(⟨#[124,124]⟩:SK))=True:=eq_true k2
  (have W:=jA k2' (jA B' (d1));repeat' (first|refine aA fun K hK=>?_|refine ax ?_|(refine hK _ _ ?_;clear hK K)|(refine az ?_ ?_<;>intro hc<;>try exact jz)|refine cm (ex) ?_|refine uD 6 ?_|refine vD [] rN ?_|refine vD [(⟨#[38,38]⟩:SK)] rN ?_|refine mD (n:=nd.name) (vs:=[rI 18,rI 19]) [(⟨#[38,38]⟩:SK),(⟨#[124,124]⟩:SK)] (.int .i64 0) (.bf [rI 19,rB true]) rN jG (by unfold ov;rw[if_pos rfl];simp only[pP,k2,d1,↓reduceIte]) ?_|refine cm (WK) ?_|refine cm (ey2) ?_|refine cm (hh) ?_|refine ay ?_|exact jI|(clear hK K)))
  (refine bG [] ?_;try simp only[go_sem])
 have n1:=eq_false k1;have n2:=eq_false k2;have hs:jW nd.name=7:=by unfold jW;rw[if_neg k1,if_neg k2]
 simp only[hs,↓reduceIte];rw[show(L.length:Int)+X.length=((L++X).length:Nat) from jE];generalize hY:aV p n y ((L++X).length:Int)=Y at*;have lY:Y.length<=1300:=by have:=ly (L++X).length;rw[hY]at this;omega
 simp only[<-List.append_assoc];refine aU func137 ntmps137 ?_
 (refine S ?_;try exact jI)
 have d1:(((⟨#[124,124]⟩:SK):SK)=(⟨#[38,38]⟩:SK))=False:=eq_false jC
 (have W:=jA n1 (jA n2 (jA B' (d1)));repeat' (first|refine aA fun K hK=>?_|refine ax ?_|(with_reducible refine gR 6 ?_);refine dE 6 (bo 0 13) mixed ?_|(refine hK _ _ ?_;clear hK K)|(refine az ?_ ?_<;>intro hc<;>try exact jz)|refine cm (ex) ?_|refine uD 6 ?_|refine vD [] rN ?_|refine vD [(⟨#[38,38]⟩:SK)] rN ?_|refine mD (n:=nd.name) (vs:=[rI 18,rI 19]) [(⟨#[38,38]⟩:SK),(⟨#[124,124]⟩:SK)] (.int .i64 0) (.bf [rI 0,rB false]) rN jG (by unfold ov;rw[if_pos rfl];simp only[pP,k1,k2,↓reduceIte]) ?_|refine cm (ey1) ?_|refine ay ?_|exact jI|(clear hK K)))
 (refine bG [] ?_;try simp only[go_sem])
def BW(p:ab)(f:FuncId)(hf:bn prog f=true)(g:Int->Int->List av)(l:SI)(L:List av)(hl:l.length<=1000)(B:Nat)(hB:¬(B<L.length+(bz g L.length l []).length))
  (hc:∀x∈l,∀M:List av,¬(B<M.length)->ai prog f [.pt 0 0 0 0,rI x] (bY p M) (fun r l=>r=.bf []/\l=bY p (M++g x M.length))) :
  ai prog 71 [bh eI 1 l,.bd f [.pt 0 0 0 0]] (bY p L) (fun r l'=>r=.bf []/\l'=bY p (L++bz g L.length l [])):=by
 refine aU func71 ntmps71 ?_;generalize hE:bY p (L++bz g L.length l [])=E;refine S ?_
 (repeat' (first|refine aA fun K hK=>?_|refine ax ?_|(refine hK _ _ ?_;clear hK K)|(refine az ?_ ?_<;>intro hc<;>try exact jz)|refine ay ?_|exact jI|(clear hK K)))
 refine fa (S:=Nat) [(5,1),(8,8)] (fun k=>k<=l.length) (fun k=>[(8,rI k)]) (fun k=>⟨[0,1],bY p (L++bz g L.length (l.take k) [])⟩) (fun k=>l.length-k) 0 jB (fb (by show _=Hp.mk _ (bY p (L++[]));rw[List.append_nil];rfl) cI) ?_;rintro k hk Kr S8;have Ta:=MH g L.length l k;by_cases SX:k<l.length
 ·have Wi:=hc (nth l k) (er SX) (L++bz g L.length (l.take k) []) (by rw[List.length_append];omega);have hs:=NK g L.length l k SX;rw[List.append_assoc,show((L++bz g L.length (l.take k) []).length:Int)=L.length+(bz g L.length (l.take k) []).length by rw[List.length_append];rfl,<-hs]at Wi;generalize hX:bz g L.length (l.take k) []=X at*;generalize hY:bz g L.length (l.take (k+1)) []=Y at*;refine S ?_
  (have W:=hf;repeat' (first|refine aA fun K hK=>?_|refine ax ?_|(refine hK _ _ ?_;clear hK K)|(refine az ?_ ?_<;>intro hc<;>try exact jz)|refine bm Wi ?_|refine ay ?_|exact jI|(clear hK K)))
  refine S8 _ _ (fc (k+1) jB jJ (by rw[hY];simp only[bY,kH,List.length_append,List.map_append,List.cons_append,List.nil_append]) cI)
 ·have e:k=l.length:=jB;subst e;rw[List.take_length,hE];refine S ?_
  (repeat' (first|refine aA fun K hK=>?_|refine ax ?_|(refine hK _ _ ?_;clear hK K)|(refine az ?_ ?_<;>intro hc<;>try exact jz)|refine ay ?_|exact jI|(clear hK K)))
  (refine cr [] ?_ ?_<;>(try simp only[go_sem]))
def MU(n:bu)(f:bg):ai prog 148 [.agg (gr f),.pt 4 0 0 0] [(4,.var 59 (dO n))] (fun r l=>r=rB (decide (f.name=n.name))/\l=[(4,.var 59 (dO n))]):=by
 refine aU func148 ntmps148 ?_
 (repeat' (first|refine aA fun K hK=>?_|refine ax ?_|(refine hK _ _ ?_;clear hK K)|(refine az ?_ ?_<;>intro hc<;>try exact jz)|refine bx 5 ?_|refine ay ?_|exact jI|(clear hK K)))
 (refine bG [.tmp 3] ?_;try simp only[go_sem])
def Kc(n:bu)(L:List bg)(k:Nat)(hL:L.length<=1000)(hk:k<L.length)(Tm:(nth L k).name=n.name)(UP:∀i,i<k->(nth L i).name≠n.name) :
  ai prog 39 [bh gr 5 L,.fZ 148 [.pt 4 0 0 0]] [(4,.var 59 (dO n))] (fun r l=>r=rI k/\l=[(4,.var 59 (dO n))]):=by
 refine aU func39 ntmps39 ?_
 (repeat' (first|refine aA fun K hK=>?_|refine ax ?_|(refine hK _ _ ?_;clear hK K)|(refine az ?_ ?_<;>intro hc<;>try exact jz)|refine ay ?_|exact jI|(clear hK K)))
 refine fa (S:=Nat) [(4,2),(8,11)] (fun i=>i<=k) (fun i=>[(8,rI i)]) (fun i=>⟨[4],[(4,.var 59 (dO n))]⟩) (fun i=>k-i) 0 jB (fb rfl cI) ?_;rintro i hi Kr S8;have Vd:=MU n (nth L i);by_cases e:i=k
 ·subst e;rw[decide_eq_true Tm]at Vd;refine S ?_
  (repeat' (first|refine aA fun K hK=>?_|refine ax ?_|(refine hK _ _ ?_;clear hK K)|(refine az ?_ ?_<;>intro hc<;>try exact jz)|refine cl Vd ?_|refine ay ?_|exact jI|(clear hK K)))
  (refine bG [.tmp 4] ?_;try simp only[go_sem])
 ·rw[decide_eq_false (UP i jB)]at Vd;refine S ?_
  (repeat' (first|refine aA fun K hK=>?_|refine ax ?_|(refine hK _ _ ?_;clear hK K)|(refine az ?_ ?_<;>intro hc<;>try exact jz)|refine cl Vd ?_|refine ay ?_|exact jI|(clear hK K)))
  refine S8 _ _ (fc (i+1) jB jJ rfl cI)
def PD(hp:kj p)(hx:C1 p n)(a:Int)(L:List av)(h0:0<=a)(hl:a.toNat<p.aa.nodes.length)(hk:(ao p a).kind=21)(hn:a.toNat<n+1)(hL:¬(1000000<L.length+3000*(n+1))):ai prog 138 [.pt 0 0 0 0,.agg (dO (ao p a))] (bY p L) (fun r l=>r=.bf []/\l=bY p (L++cW p n a L.length)):=by
 have ht:=hp.ok.ok.aa;have Yw:=ht.aq;have hm:=ht.many;have hb:=(ht.shape a.toNat hl).2.1;have Va:=(ht.shape a.toNat hl).1.call hk;obtain⟨lo,O'⟩:=(ht.shape a.toNat hl).2.2;have D':=Cj ht n (L.length:Int) lo hl hk O';obtain⟨k,hc⟩:=callee hp.ok hl hk;have hix:=Kc (ao p a) p.aa.aq k jB hc.lt hc.name (fun i hi=>by have:=hp.ok.names.one i k hi hc.lt;rwa [hc.name]at this);have hlc:(cW p n a L.length).length=(bz (aV p n) (L.length:Int) (ao p a).l []).length+1:=by unfold cW;simp
 have UQ:=BW p 114 jD (aV p n) (ao p a).l L (by have:=hc.yq;omega) (1000000-3000*n) jB (fun x VQ M hM=>by have Xg:=hb x VQ;have S4:=Va x VQ;have:=hx x M Xg.1 jB (.inl S4) jB jB;rwa [nk S4]at this)
 have Ty:Dy p a=k:=hc.last;unfold cW;rw[Ty];have hL:¬(997000<L.length):=jB;rename_i hL0;clear hx hL0;have Zx:=hc.yq;generalize ao p a=nd at*;generalize hX:bz (aV p n) (L.length:Int) nd.l []=X at*;simp only[<-List.append_assoc];refine aU func138 ntmps138 ?_;refine S ?_
 (repeat' (first|refine aA fun K hK=>?_|refine ax ?_|(with_reducible refine gR 3 ?_);refine dE 3 (bo 0 15) mixed ?_|(refine hK _ _ ?_;clear hK K)|(refine az ?_ ?_<;>intro hc<;>try exact jz)|refine cz 4 ?_|refine cm (UQ) ?_|refine cm (hix) ?_|refine ay ?_|exact jI|(clear hK K)))
 (refine bG [] ?_;try simp only[go_sem])
attribute [local go_sem] iI
def Ms(a x:Int)(L X:List av)(op:Int)(h0:0<=a)(hl:a.toNat<p.aa.nodes.length)(hs:a.toNat<p.slots.length)(B':(ao p a).l=[x])(hL:¬(1000000<(L++X).length))
  (hm:ov (ao p a).kind [6,7,8,20,5] [rI 10,rI 8,rI 9,rI 13,rI 11] (.raw (.int .i64 0)) true=.bf [rI op,rB true])
  (ex:ai prog 114 [.pt 0 0 0 0,rI x] (bY p L) (fun r l=>r=.bf []/\l=bY p (L++X))) :
  ai prog 114 [.pt 0 0 0 0,rI a] (bY p L) (fun r l=>r=.bf []/\l=bY p (L++X++[iI op (if nth p.slots a.toNat<0 then 0 else nth p.slots a.toNat)])):=by
 have u':=ow p L a h0 hl;have WK:=fun v=>je p (L++X) op v jB
 generalize ao p a=nd at*;refine aU func114 ntmps114 ?_;refine S ?_
 (have W:=B';repeat' (first|refine aA fun K hK=>?_|refine ax ?_|(refine hK _ _ ?_;clear hK K)|(refine az ?_ ?_<;>intro hc<;>try exact jz)|refine al 5 ?_|refine cm (u') ?_|refine uD 6 ?_|refine lB [] jQ ?_|refine lB [6] jQ ?_|refine lB [6,7] jQ ?_|refine lB [6,7,8] jQ ?_|refine lB [6,7,8,20] jQ ?_|refine Ai (n:=nd.kind) (vs:=[rI 10,rI 8,rI 9,rI 13,rI 11]) [6,7,8,20,5] (.int .i64 0) (.bf [rI op,rB true]) jQ jG hm ?_|refine cm (ex) ?_|refine cm (WK _) ?_|refine ay ?_|exact jI|(clear hK K)))
 (refine bG [] ?_;try simp only[go_sem])
def So(a:Int)(L X:List av)(h0:0<=a)(hl:a.toNat<p.aa.nodes.length)
  (hm:ov (ao p a).kind [6,7,8,20,5] [rI 10,rI 8,rI 9,rI 13,rI 11] (.raw (.int .i64 0)) true=.bf [rI 0,rB false]) (hk:(ao p a).kind=9)
  (ex:ai prog 137 [.pt 0 0 0 0,.agg (dO (ao p a))] (bY p L) (fun r l=>r=.bf []/\l=bY p (L++X))) :
  ai prog 114 [.pt 0 0 0 0,rI a] (bY p L) (fun r l=>r=.bf []/\l=bY p (L++X)):=by
 have u':=ow p L a h0 hl;generalize ao p a=nd at*;rw[hk]at hm;refine aU func114 ntmps114 ?_;refine S ?_
 (have W:=hk;repeat' (first|refine aA fun K hK=>?_|refine ax ?_|(refine hK _ _ ?_;clear hK K)|(refine az ?_ ?_<;>intro hc<;>try exact jz)|refine al 5 ?_|refine cm (u') ?_|refine uD 6 ?_|refine lB [] jQ ?_|refine lB [6] jQ ?_|refine lB [6,7] jQ ?_|refine lB [6,7,8] jQ ?_|refine lB [6,7,8,20] jQ ?_|refine Ai (n:=9) (vs:=[rI 10,rI 8,rI 9,rI 13,rI 11]) [6,7,8,20,5] (.int .i64 0) (.bf [rI 0,rB false]) jQ jG hm ?_|refine cm (ex) ?_|refine ay ?_|exact jI|(clear hK K)))
 (refine bG [] ?_;try simp only[go_sem])
def L7(a:Int)(L X:List av)(h0:0<=a)(hl:a.toNat<p.aa.nodes.length)
  (hm:ov (ao p a).kind [6,7,8,20,5] [rI 10,rI 8,rI 9,rI 13,rI 11] (.raw (.int .i64 0)) true=.bf [rI 0,rB false]) (hk:(ao p a).kind=21)
  (ex:ai prog 138 [.pt 0 0 0 0,.agg (dO (ao p a))] (bY p L) (fun r l=>r=.bf []/\l=bY p (L++X))) :
  ai prog 114 [.pt 0 0 0 0,rI a] (bY p L) (fun r l=>r=.bf []/\l=bY p (L++X)):=by
 have u':=ow p L a h0 hl;generalize ao p a=nd at*;rw[hk]at hm;refine aU func114 ntmps114 ?_;refine S ?_
 (have W:=hk;repeat' (first|refine aA fun K hK=>?_|refine ax ?_|(refine hK _ _ ?_;clear hK K)|(refine az ?_ ?_<;>intro hc<;>try exact jz)|refine al 5 ?_|refine cm (u') ?_|refine uD 6 ?_|refine lB [] jQ ?_|refine lB [6] jQ ?_|refine lB [6,7] jQ ?_|refine lB [6,7,8] jQ ?_|refine lB [6,7,8,20] jQ ?_|refine Ai (n:=21) (vs:=[rI 10,rI 8,rI 9,rI 13,rI 11]) [6,7,8,20,5] (.int .i64 0) (.bf [rI 0,rB false]) jQ jG hm ?_|refine cm (ex) ?_|refine ay ?_|exact jI|(clear hK K)))
 (refine bG [] ?_;try simp only[go_sem])
def L5(a:Int)(L X:List av)(h0:0<=a)(hl:a.toNat<p.aa.nodes.length)
  (hm:ov (ao p a).kind [6,7,8,20,5] [rI 10,rI 8,rI 9,rI 13,rI 11] (.raw (.int .i64 0)) true=.bf [rI 0,rB false]) (hk:(ao p a).kind≠9) (S5:(ao p a).kind≠21)
  (ex:ai prog 139 [.pt 0 0 0 0,.agg (dO (ao p a)),rI a] (bY p L) (fun r l=>r=.bf []/\l=bY p (L++X))) :
  ai prog 114 [.pt 0 0 0 0,rI a] (bY p L) (fun r l=>r=.bf []/\l=bY p (L++X)):=by
 have u':=ow p L a h0 hl;generalize ao p a=nd at*;have n1:=eq_false hk;have n2:=eq_false S5;refine aU func114 ntmps114 ?_;refine S ?_
 (have W:=jA n1 n2;repeat' (first|refine aA fun K hK=>?_|refine ax ?_|(refine hK _ _ ?_;clear hK K)|(refine az ?_ ?_<;>intro hc<;>try exact jz)|refine al 5 ?_|refine cm (u') ?_|refine uD 6 ?_|refine lB [] jQ ?_|refine lB [6] jQ ?_|refine lB [6,7] jQ ?_|refine lB [6,7,8] jQ ?_|refine lB [6,7,8,20] jQ ?_|refine Ai (n:=nd.kind) (vs:=[rI 10,rI 8,rI 9,rI 13,rI 11]) [6,7,8,20,5] (.int .i64 0) (.bf [rI 0,rB false]) jQ jG hm ?_|refine cm (ex) ?_|refine ay ?_|exact jI|(clear hK K)))
 (refine bG [] ?_;try simp only[go_sem])
def NT(ht:aL p.aa)(n m:Nat)(a k:Int)(hl:a.toNat<p.aa.nodes.length)(hk:(ao p a).kind=21)(hn:a.toNat<=n)(hm:a.toNat<=m):cW p n a k=cW p m a k:=by
 have hb:=(ht.shape a.toNat hl).2.1;have Va:=(ht.shape a.toNat hl).1.call hk;unfold cW;rw[Ew (ao p a).l k [] fun x hx j=>by have Xg:=hb x hx;exact BB ht n m x j Xg.1 jB (Va x hx) jB jB]
theorem E3{p:ab}(hp:kj p):∀n,C1 p n
 |0=>fun a L h0 hl hk hn hL=>by omega
 |n+1=>fun a L h0 hl hk hn hL=>by
  have hx:=E3 hp n;have ht:=hp.ok.ok.aa;have hm:=ht.many;have hb:=(ht.shape a.toNat hl).2.1;have Tr:p.slots.length=p.aa.nodes.length:=hp.ok.ok.slots;have Uc:p.types.length=p.aa.nodes.length:=hp.ok.ok.types;have sh:=(ht.shape a.toNat hl).1;have SW:eF (ao p a).kind:=hk;unfold eF bT at SW;have aE:∀x k,x∈(ao p a).l->bT (bA p.aa.nodes x)->aV p (n+1) x k=aV p n x k:=fun x k hx S4=>by have:=hb x hx;exact BB ht (n+1) n x k this.1 jB S4 jB jB
  by_cases e21:(ao p a).kind=21
  ·have h1:=PD hp hx a L h0 hl e21 hn jB;rw[show jt p (n+1) a L.length=cW p n a L.length by rw[uI,jN,jN,if_pos e21];exact NT ht _ _ a _ hl e21 jB jB];exact L7 a L _ h0 hl (by rw[e21];rfl) e21 h1
  by_cases e9:(ao p a).kind=9
  ·have h1:=Sn hp hx a L h0 hl e9 hn jB;rw[nk (show bT _ by unfold bT;show 1<=(ao p a).kind/\(ao p a).kind<=9;omega)];exact So a L _ h0 hl (by rw[e9];rfl) e9 h1
  have VR:∀op k,(ao p a).kind=k->(k=5\/k=6\/k=7\/k=8\/k=20)->ov k [6,7,8,20,5] [rI 10,rI 8,rI 9,rI 13,rI 11] (.raw (.int .i64 0)) true=.bf [rI op,rB true]->∃x X,(ao p a).l=[x]/\aV p n x L.length=X/\aV p (n+1) x L.length=X/\
    ai prog 114 [.pt 0 0 0 0,rI a] (bY p L) (fun r l=>r=.bf []/\l=bY p (L++(X++[iI op (if nth p.slots a.toNat<0 then 0 else nth p.slots a.toNat)]))):=fun op k e hk5 hm5=>by
   obtain⟨x,B',Tu⟩:=sh.one (by have e:(nth p.aa.nodes a.toNat).kind=k:=e;omega);have B':(ao p a).l=[x]:=B';have Xg:=hb x (by show x∈(ao p a).l;rw[B'];simp);obtain⟨lo,O'⟩:=(ht.shape a.toNat hl).2.2;have O':aJ p.aa.nodes lo (ao p a).l a.toNat:=O';rw[B']at O';obtain⟨d1,d2,d3,d4,d5⟩:=kq O';have lx:=mv ht n x L.length lo d1 jB Tu d5;have ex:=hx x L Xg.1 jB (.inl Tu) jB jB;rw[nk Tu]at ex;refine⟨x,aV p n x L.length,B',rfl,aE x _ (by rw[B'];simp) Tu,?_⟩;rw[<-List.append_assoc];exact Ms a x L _ op h0 hl jB B' (by rw[List.length_append];omega) (by rw[e];exact hm5) ex
  have neg:(ao p a).kind=6\/(ao p a).kind=7\/(ao p a).kind=8\/(ao p a).kind=20->(if nth p.slots a.toNat<0 then 0 else nth p.slots a.toNat)=0:=fun e=>by have:=hp.neg a.toNat hl (by unfold iH;have e:(nth p.aa.nodes a.toNat).kind=6\/(nth p.aa.nodes a.toNat).kind=7\/(nth p.aa.nodes a.toNat).kind=8\/(nth p.aa.nodes a.toNat).kind=20:=e;omega);split<;>omega
  by_cases e5:(ao p a).kind=5
  ·obtain⟨x,X,h1,h2,XE,h3⟩:=VR 11 5 e5 jB rfl;have hps:=hp.pos a.toNat hl (by unfold iH;have e:(nth p.aa.nodes a.toNat).kind=5:=e5;omega);rw[jN]at h3;rw[nk (show bT _ by unfold bT;show 1<=(ao p a).kind/\(ao p a).kind<=9;omega),mm];simp only[e5,h1,Int.reduceEq,↓reduceIte];rw[show nth [x] 0=x from rfl,h2];exact h3
  by_cases e6:(ao p a).kind=6
  ·obtain⟨x,X,h1,h2,XE,h3⟩:=VR 10 6 e6 jB rfl;rw[neg jB]at h3;rw[nk (show bT _ by unfold bT;show 1<=(ao p a).kind/\(ao p a).kind<=9;omega),mm];simp only[e6,h1,Int.reduceEq,↓reduceIte];rw[show nth [x] 0=x from rfl,h2];exact h3
  by_cases e7:(ao p a).kind=7
  ·obtain⟨x,X,h1,h2,XE,h3⟩:=VR 8 7 e7 jB rfl;rw[neg jB]at h3;rw[nk (show bT _ by unfold bT;show 1<=(ao p a).kind/\(ao p a).kind<=9;omega),mm];simp only[e7,h1,Int.reduceEq,↓reduceIte];rw[show nth [x] 0=x from rfl,h2];exact h3
  by_cases e8:(ao p a).kind=8
  ·obtain⟨x,X,h1,h2,XE,h3⟩:=VR 9 8 e8 jB rfl;rw[neg jB]at h3;rw[nk (show bT _ by unfold bT;show 1<=(ao p a).kind/\(ao p a).kind<=9;omega),mm];simp only[e8,h1,Int.reduceEq,↓reduceIte];rw[show nth [x] 0=x from rfl,h2];exact h3
  by_cases e20:(ao p a).kind=20
  ·obtain⟨x,X,h1,h2,XE,h3⟩:=VR 13 20 e20 jB rfl;rw[neg jB]at h3;rw[uI];simp only[e20,h1,Int.reduceEq,↓reduceIte];rw[show nth [x] 0=x from rfl,XE];exact h3
  have hlf:=MD p L a h0 jB jB jB;rw[show jt p (n+1) a L.length=yV p a by unfold yV;have TG:(ao p a).kind=1\/(ao p a).kind=2\/(ao p a).kind=3\/(ao p a).kind=4\/(ao p a).kind=19:=jB;rcases TG with e|e|e|e|e<;>(rw[uI,mm p n a];simp only[e,Int.reduceEq,↓reduceIte])]
  exact L5 a L _ h0 hl (by have TG:(ao p a).kind=1\/(ao p a).kind=2\/(ao p a).kind=3\/(ao p a).kind=4\/(ao p a).kind=19:=jB;rcases TG with e|e|e|e|e<;>(rw[e];rfl)) e9 e21 hlf
attribute [local go_sem] iI
def GY(p:ab)(n:Nat):Prop:=∀(a:Int) (L:List av),0<=a->a.toNat<p.aa.nodes.length->eo (bA p.aa.nodes a)->a.toNat<n->¬(1000000<L.length+3000*n)->ai prog 73 [.pt 0 0 0 0,rI a] (bY p L) (fun r l=>r=.bf []/\l=bY p (L++gX p n a L.length))
def II(ht:aL p.aa)(n:Nat)(b:Int)(k:Int)(lo:Nat)(b0:0<=b)(b1:b.toNat<p.aa.nodes.length)(b2:bA p.aa.nodes b=18)(b3:aJ p.aa.nodes lo (ao p b).l b.toNat):(bz (gX p n) k (ao p b).l []).length+4*lo<=4*b.toNat:=
 xd (f:=gX p n) (ao p b).l k lo b.toNat b3 fun x hx k lo Wi=>by have hb:=(ht.shape b.toNat b1).2.1 x hx;exact Dm ht n x k lo hb.1 jB ((ht.shape b.toNat b1).1.block b2 x hx) Wi
def Ao(ht:aL p.aa)(n:Nat)(b:Int)(k:Int)(b0:0<=b)(b1:b.toNat<p.aa.nodes.length)(b2:bA p.aa.nodes b=18):(bz (gX p n) k (ao p b).l []).length<=1200:=by obtain⟨lo,b3⟩:=(ht.shape b.toNat b1).2.2;have hm:=ht.many;have:=II ht n b k lo b0 b1 b2 b3;omega
def Cu(hp:kj p)(hs:GY p n)(b:Int)(L:List av)(h0:0<=b)(hl:b.toNat<p.aa.nodes.length)(hk:bA p.aa.nodes b=18)(hn:b.toNat<=n)(hL:¬(998700<L.length+3000*n)) :
  ai prog 37 [.pt 0 0 0 0,rI b] (bY p L) (fun r l=>r=.bf []/\l=bY p (L++bz (gX p n) L.length (ao p b).l [])):=by
 have ht:=hp.ok.ok.aa;have hm:=ht.many;have hb:=(ht.shape b.toNat hl).2.1;have Va:=(ht.shape b.toNat hl).1.block hk;have D':=Ao ht n b L.length h0 hl hk;obtain⟨lo,O'⟩:=(ht.shape b.toNat hl).2.2;have S9:lo+(ao p b).l.length<=b.toNat:=CD O';have u':=ow p L b h0 hl;have UQ:=BW p 73 jD (gX p n) (ao p b).l L jB (1000000-3000*n) jB (fun x VQ M hM=>by have Xg:=hb x VQ;exact hs x M Xg.1 jB (Va x VQ) jB jB)
 clear hs;generalize ao p b=nd at*;generalize hX:bz (gX p n) L.length nd.l []=X at*;refine aU func37 ntmps37 ?_;refine S ?_
 (repeat' (first|refine aA fun K hK=>?_|refine ax ?_|(refine hK _ _ ?_;clear hK K)|(refine az ?_ ?_<;>intro hc<;>try exact jz)|refine cm (u') ?_|refine cm (UQ) ?_|refine ay ?_|exact jI|(clear hK K)))
 (refine bG [] ?_;try simp only[go_sem])
def QH(L X Y:List av)(op v:Int)(k:Nat)(hk:k=L.length+X.length):(L++X++[iI op 0]++Y).set k { iI op 0 with a:=v }=L++X++[iI op v]++Y:=by subst hk;rw[List.append_assoc (L++X),List.set_append_right _ _ jE];simp[iI]
def N5(L X Y:List av)(x:av)(k:Nat)(hk:k=L.length+X.length):nth (L++X++[x]++Y) k=x:=by subst hk;rw[List.append_assoc (L++X)];simp[nth]
def zt(p:ab)(L X Y:List av)(op:Int)(k:Nat)(hk:k=L.length+X.length)(hL:¬(1000000<L.length+X.length+1+Y.length)) :
  ai prog 136 [.pt 0 0 0 0,rI k] (bY p (L++X++[iI op 0]++Y)) (fun r l=>r=.bf []/\l=bY p (L++X++[iI op (L.length+X.length+1+Y.length:Nat)]++Y)):=by
 have h:=Ax p (L++X++[iI op 0]++Y) k (by simp only[List.length_append,List.length_singleton];omega) (by simp only[List.length_append,List.length_singleton];omega);rw[N5 L X Y _ k hk,QH L X Y op _ k hk]at h;rwa [show(L++X++[iI op 0]++Y).length=L.length+X.length+1+Y.length by simp only[List.length_append,List.length_singleton]]at h
def PK(nd:bu)(x b:Int)(L X B:List av)(mark:Int)(hL:¬(999700<L.length+X.length+B.length))(hk:nd.kind=16)(B':nd.l=[x,b])
  (ex:ai prog 114 [.pt 0 0 0 0,rI x] (bY p L) (fun r l=>r=.bf []/\l=bY p (L++X)))
  (eb:ai prog 37 [.pt 0 0 0 0,rI b] (bY p (L++X++[iI 17 0])) (fun r l=>r=.bf []/\l=bY p (L++X++[iI 17 0]++B))) :
  ai prog 113 [.pt 0 0 0 0,.agg (dO nd),rI mark] (bY p L) (fun r l=>r=.bf []/\l=bY p (L++X++[iI 17 (L.length+X.length+1+(B.length+1):Nat)]++(B++[iI 16 mark]))):=by
 have h1:=je p (L++X) 17 0 (by simp only[List.length_append];omega);have h2:=je p (L++X++[iI 17 0]++B) 16 mark (by simp only[List.length_append,List.length_singleton];omega);have h3:=zt p L X (B++[iI 16 mark]) 17 (L.length+X.length) rfl (by simp only[List.length_append,List.length_singleton];omega);rw[show(B++[iI 16 mark]).length=B.length+1 from jE]at h3;simp only[<-List.append_assoc]at h3 ⊢;refine aU func113 ntmps113 ?_;refine S ?_
 (have W:=jA hk B';repeat' (first|refine aA fun K hK=>?_|refine ax ?_|(refine hK _ _ ?_;clear hK K)|(refine az ?_ ?_<;>intro hc<;>try exact jz)|refine bx 5 ?_|refine cm (ex) ?_|refine cm (h1) ?_|refine cm (eb) ?_|refine cm (h2) ?_|refine cm (h3) ?_|refine ay ?_|exact jI|(clear hK K)))
 (refine bG [] ?_;try simp only[go_sem])
def Lm(nd:bu)(x b:Int)(L X B:List av)(mark:Int)(hL:¬(999700<L.length+X.length+B.length))(hk:nd.kind≠16)(B':nd.l=[x,b])
  (ex:ai prog 114 [.pt 0 0 0 0,rI x] (bY p L) (fun r l=>r=.bf []/\l=bY p (L++X)))
  (eb:ai prog 37 [.pt 0 0 0 0,rI b] (bY p (L++X++[iI 17 0])) (fun r l=>r=.bf []/\l=bY p (L++X++[iI 17 0]++B))) :
  ai prog 113 [.pt 0 0 0 0,.agg (dO nd),rI mark] (bY p L) (fun r l=>r=.bf []/\l=bY p (L++X++[iI 17 (L.length+X.length+1+B.length:Nat)]++B)):=by
 have h1:=je p (L++X) 17 0 (by simp only[List.length_append];omega);have h3:=zt p L X B 17 (L.length+X.length) rfl jB;have n1:=eq_false hk;refine aU func113 ntmps113 ?_;refine S ?_
 (have W:=jA n1 B';repeat' (first|refine aA fun K hK=>?_|refine ax ?_|(refine hK _ _ ?_;clear hK K)|(refine az ?_ ?_<;>intro hc<;>try exact jz)|refine bx 5 ?_|refine cm (ex) ?_|refine cm (h1) ?_|refine cm (eb) ?_|refine cm (h3) ?_|refine ay ?_|exact jI|(clear hK K)))
 (refine bG [] ?_;try simp only[go_sem])
def Sl(nd:bu)(x b d:Int)(L X B D:List av)(mark:Int)(hL:¬(999700<L.length+X.length+B.length+D.length))(hk:nd.kind≠16)(B':nd.l=[x,b,d])
  (ex:ai prog 114 [.pt 0 0 0 0,rI x] (bY p L) (fun r l=>r=.bf []/\l=bY p (L++X)))
  (eb:ai prog 37 [.pt 0 0 0 0,rI b] (bY p (L++X++[iI 17 0])) (fun r l=>r=.bf []/\l=bY p (L++X++[iI 17 0]++B)))
  (ed:ai prog 37 [.pt 0 0 0 0,rI d] (bY p (L++X++[iI 17 (L.length+X.length+1+(B.length+1):Nat)]++B++[iI 16 0])) (fun r l=>r=.bf []/\l=bY p (L++X++[iI 17 (L.length+X.length+1+(B.length+1):Nat)]++B++[iI 16 0]++D))) :
  ai prog 113 [.pt 0 0 0 0,.agg (dO nd),rI mark] (bY p L) (fun r l=>r=.bf []/\l=bY p (L++X++[iI 17 (L.length+X.length+1+(B.length+1):Nat)]++(B++[iI 16 (L.length+X.length+1+B.length+1+D.length:Nat)])++D)):=by
 have h1:=je p (L++X) 17 0 (by simp only[List.length_append];omega);have h2:=je p (L++X++[iI 17 0]++B) 16 0 (by simp only[List.length_append,List.length_singleton];omega);have h3:=zt p L X (B++[iI 16 0]) 17 (L.length+X.length) rfl (by simp only[List.length_append,List.length_singleton];omega);rw[show(B++[iI 16 0]).length=B.length+1 from jE]at h3;have h4:=zt p (L++X++[iI 17 (L.length+X.length+1+(B.length+1):Nat)]) B D 16 (L.length+X.length+1+B.length) (by simp only[List.length_append,List.length_singleton]) (by simp only[List.length_append,List.length_singleton];omega);rw[show(L++X++[iI 17 (L.length+X.length+1+(B.length+1):Nat)]).length=L.length+X.length+1 by simp only[List.length_append,List.length_singleton]]at h4;simp only[<-List.append_assoc]at h3 h4 ⊢;have n1:=eq_false hk;refine aU func113 ntmps113 ?_;refine S ?_
 (have W:=jA n1 B';repeat' (first|refine aA fun K hK=>?_|refine ax ?_|(refine hK _ _ ?_;clear hK K)|(refine az ?_ ?_<;>intro hc<;>try exact jz)|refine bx 5 ?_|refine cm (ex) ?_|refine cm (h1) ?_|refine cm (eb) ?_|refine cm (h2) ?_|refine cm (h3) ?_|refine cm (ed) ?_|refine cm (h4) ?_|refine ay ?_|exact jI|(clear hK K)))
 (refine bG [] ?_;try simp only[go_sem])
attribute [local go_sem] iI
def JM(a:Int)(L Y:List av)(h0:0<=a)(hl:a.toNat<p.aa.nodes.length)(hs:a.toNat<p.slots.length)(hL:¬(999900<L.length+Y.length))(hk:(ao p a).kind=10)
  (UQ:ai prog 71 [bh eI 1 (ao p a).l,.bd 114 [.pt 0 0 0 0]] (bY p (L++[iI 1 a])) (fun r l=>r=.bf []/\l=bY p (L++[iI 1 a]++Y))) :
  ai prog 73 [.pt 0 0 0 0,rI a] (bY p L) (fun r l=>r=.bf []/\l=bY p (L++[iI 1 a]++Y++[iI 6 (nth p.slots a.toNat)])):=by
 have u':=ow p L a h0 hl;have h1:=je p L 1 a jB;have h2:=je p (L++[iI 1 a]++Y) 6 (nth p.slots a.toNat) (by simp only[List.length_append,List.length_singleton];omega);generalize ao p a=nd at*;refine aU func73 ntmps73 ?_;refine S ?_
 (have W:=hk;repeat' (first|refine aA fun K hK=>?_|refine ax ?_|(refine hK _ _ ?_;clear hK K)|(refine az ?_ ?_<;>intro hc<;>try exact jz)|refine al 5 ?_|refine cm (u') ?_|refine cm (h1) ?_|refine cm (UQ) ?_|refine cm (h2) ?_|refine ay ?_|exact jI|(clear hK K)))
 (refine bG [] ?_;try simp only[go_sem])
def Jz(a:Int)(L Y:List av)(h0:0<=a)(hl:a.toNat<p.aa.nodes.length)(hs:a.toNat<p.slots.length)(hL:¬(999900<L.length+Y.length))(hk:(ao p a).kind=11)
  (UQ:ai prog 71 [bh eI 1 (ao p a).l,.bd 114 [.pt 0 0 0 0]] (bY p (L++[iI 1 a])) (fun r l=>r=.bf []/\l=bY p (L++[iI 1 a]++Y))) :
  ai prog 73 [.pt 0 0 0 0,rI a] (bY p L) (fun r l=>r=.bf []/\l=bY p (L++[iI 1 a]++Y++[iI 6 (nth p.slots a.toNat)])):=by
 have u':=ow p L a h0 hl;have h1:=je p L 1 a jB;have h2:=je p (L++[iI 1 a]++Y) 6 (nth p.slots a.toNat) (by simp only[List.length_append,List.length_singleton];omega);generalize ao p a=nd at*;refine aU func73 ntmps73 ?_;refine S ?_
 (have W:=hk;repeat' (first|refine aA fun K hK=>?_|refine ax ?_|(refine hK _ _ ?_;clear hK K)|(refine az ?_ ?_<;>intro hc<;>try exact jz)|refine al 5 ?_|refine cm (u') ?_|refine cm (h1) ?_|refine cm (UQ) ?_|refine cm (h2) ?_|refine ay ?_|exact jI|(clear hK K)))
 (refine bG [] ?_;try simp only[go_sem])
def LZ(a:Int)(L Y:List av)(h0:0<=a)(hl:a.toNat<p.aa.nodes.length)(hs:a.toNat<p.slots.length)(hL:¬(999900<L.length+Y.length))(hk:(ao p a).kind=12)
  (UQ:ai prog 71 [bh eI 1 (ao p a).l,.bd 114 [.pt 0 0 0 0]] (bY p (L++[iI 1 a])) (fun r l=>r=.bf []/\l=bY p (L++[iI 1 a]++Y))) :
  ai prog 73 [.pt 0 0 0 0,rI a] (bY p L) (fun r l=>r=.bf []/\l=bY p (L++[iI 1 a]++Y++[iI 12 (nth p.slots a.toNat)])):=by
 have u':=ow p L a h0 hl;have h1:=je p L 1 a jB;have h2:=je p (L++[iI 1 a]++Y) 12 (nth p.slots a.toNat) (by simp only[List.length_append,List.length_singleton];omega);generalize ao p a=nd at*;refine aU func73 ntmps73 ?_;refine S ?_
 (have W:=hk;repeat' (first|refine aA fun K hK=>?_|refine ax ?_|(refine hK _ _ ?_;clear hK K)|(refine az ?_ ?_<;>intro hc<;>try exact jz)|refine al 5 ?_|refine cm (u') ?_|refine cm (h1) ?_|refine cm (UQ) ?_|refine cm (h2) ?_|refine ay ?_|exact jI|(clear hK K)))
 (refine bG [] ?_;try simp only[go_sem])
def NU(a:Int)(L Y:List av)(h0:0<=a)(hl:a.toNat<p.aa.nodes.length)(hs:a.toNat<p.slots.length)(hL:¬(999900<L.length+Y.length))(hk:(ao p a).kind=13)
  (UQ:ai prog 71 [bh eI 1 (ao p a).l,.bd 114 [.pt 0 0 0 0]] (bY p (L++[iI 1 a])) (fun r l=>r=.bf []/\l=bY p (L++[iI 1 a]++Y))) :
  ai prog 73 [.pt 0 0 0 0,rI a] (bY p L) (fun r l=>r=.bf []/\l=bY p (L++[iI 1 a]++Y++[iI 23 (0)])):=by
 have u':=ow p L a h0 hl;have h1:=je p L 1 a jB;have h2:=je p (L++[iI 1 a]++Y) 23 (0) (by simp only[List.length_append,List.length_singleton];omega);generalize ao p a=nd at*;refine aU func73 ntmps73 ?_;refine S ?_
 (have W:=hk;repeat' (first|refine aA fun K hK=>?_|refine ax ?_|(refine hK _ _ ?_;clear hK K)|(refine az ?_ ?_<;>intro hc<;>try exact jz)|refine al 5 ?_|refine cm (u') ?_|refine cm (h1) ?_|refine cm (UQ) ?_|refine cm (h2) ?_|refine ay ?_|exact jI|(clear hK K)))
 (refine bG [] ?_;try simp only[go_sem])
def Pa(a:Int)(L Y:List av)(h0:0<=a)(hl:a.toNat<p.aa.nodes.length)(hs:a.toNat<p.slots.length)(hL:¬(999900<L.length+Y.length))(hk:(ao p a).kind=14)
  (UQ:ai prog 71 [bh eI 1 (ao p a).l,.bd 114 [.pt 0 0 0 0]] (bY p (L++[iI 1 a])) (fun r l=>r=.bf []/\l=bY p (L++[iI 1 a]++Y))) :
  ai prog 73 [.pt 0 0 0 0,rI a] (bY p L) (fun r l=>r=.bf []/\l=bY p (L++[iI 1 a]++Y++[iI 15 (0)])):=by
 have u':=ow p L a h0 hl;have h1:=je p L 1 a jB;have h2:=je p (L++[iI 1 a]++Y) 15 (0) (by simp only[List.length_append,List.length_singleton];omega);generalize ao p a=nd at*;refine aU func73 ntmps73 ?_;refine S ?_
 (have W:=hk;repeat' (first|refine aA fun K hK=>?_|refine ax ?_|(refine hK _ _ ?_;clear hK K)|(refine az ?_ ?_<;>intro hc<;>try exact jz)|refine al 5 ?_|refine cm (u') ?_|refine cm (h1) ?_|refine cm (UQ) ?_|refine cm (h2) ?_|refine ay ?_|exact jI|(clear hK K)))
 (refine bG [] ?_;try simp only[go_sem])
def PL(a:Int)(L Y:List av)(h0:0<=a)(hl:a.toNat<p.aa.nodes.length)(hs:a.toNat<p.slots.length)(hL:¬(999900<L.length+Y.length))(hk:(ao p a).kind=17)(Vx:(ao p a).l=[])
  (UQ:ai prog 71 [bh eI 1 (ao p a).l,.bd 114 [.pt 0 0 0 0]] (bY p (L++[iI 1 a])) (fun r l=>r=.bf []/\l=bY p (L++[iI 1 a]++Y))) :
  ai prog 73 [.pt 0 0 0 0,rI a] (bY p L) (fun r l=>r=.bf []/\l=bY p (L++[iI 1 a]++Y++[iI 22 (0)])):=by
 have u':=ow p L a h0 hl;have h1:=je p L 1 a jB;have h2:=je p (L++[iI 1 a]++Y) 22 (0) (by simp only[List.length_append,List.length_singleton];omega);generalize ao p a=nd at*;rw[Vx]at UQ;refine aU func73 ntmps73 ?_;refine S ?_
 (have W:=jA hk Vx;repeat' (first|refine aA fun K hK=>?_|refine ax ?_|(refine hK _ _ ?_;clear hK K)|(refine az ?_ ?_<;>intro hc<;>try exact jz)|refine al 5 ?_|refine cm (u') ?_|refine cm (h1) ?_|refine cm (UQ) ?_|refine cm (h2) ?_|refine ay ?_|exact jI|(clear hK K)))
 (refine bG [] ?_;try simp only[go_sem])
def Ru(a:Int)(L Y:List av)(h0:0<=a)(hl:a.toNat<p.aa.nodes.length)(hs:a.toNat<p.slots.length)(hL:¬(999900<L.length+Y.length))(hk:(ao p a).kind=17)(x:Int)(Vx:(ao p a).l=[x])
  (UQ:ai prog 71 [bh eI 1 (ao p a).l,.bd 114 [.pt 0 0 0 0]] (bY p (L++[iI 1 a])) (fun r l=>r=.bf []/\l=bY p (L++[iI 1 a]++Y))) :
  ai prog 73 [.pt 0 0 0 0,rI a] (bY p L) (fun r l=>r=.bf []/\l=bY p (L++[iI 1 a]++Y++[iI 21 (0)])):=by
 have u':=ow p L a h0 hl;have h1:=je p L 1 a jB;have h2:=je p (L++[iI 1 a]++Y) 21 (0) (by simp only[List.length_append,List.length_singleton];omega);generalize ao p a=nd at*;rw[Vx]at UQ;refine aU func73 ntmps73 ?_;refine S ?_
 (have W:=jA hk Vx;repeat' (first|refine aA fun K hK=>?_|refine ax ?_|(refine hK _ _ ?_;clear hK K)|(refine az ?_ ?_<;>intro hc<;>try exact jz)|refine al 5 ?_|refine cm (u') ?_|refine cm (h1) ?_|refine cm (UQ) ?_|refine cm (h2) ?_|refine ay ?_|exact jI|(clear hK K)))
 (refine bG [] ?_;try simp only[go_sem])
def BA(a:Int)(L Y:List av)(h0:0<=a)(hl:a.toNat<p.aa.nodes.length)(hL:¬(999900<L.length+Y.length))(hk:(ao p a).kind=15\/(ao p a).kind=16)
  (ht:ai prog 113 [.pt 0 0 0 0,.agg (dO (ao p a)),rI L.length] (bY p (L++[iI 1 a])) (fun r l=>r=.bf []/\l=bY p (L++[iI 1 a]++Y))) :
  ai prog 73 [.pt 0 0 0 0,rI a] (bY p L) (fun r l=>r=.bf []/\l=bY p (L++[iI 1 a]++Y)):=by
 have u':=ow p L a h0 hl;have h1:=je p L 1 a jB;generalize ao p a=nd at*;rcases hk with hk|hk
 ·refine aU func73 ntmps73 ?_;refine S ?_
  (have W:=hk;repeat' (first|refine aA fun K hK=>?_|refine ax ?_|(refine hK _ _ ?_;clear hK K)|(refine az ?_ ?_<;>intro hc<;>try exact jz)|refine al 5 ?_|refine cm (u') ?_|refine cm (h1) ?_|refine cm (ht) ?_|refine ay ?_|exact jI|(clear hK K)))
  (refine bG [] ?_;try simp only[go_sem])
 ·refine aU func73 ntmps73 ?_;refine S ?_
  (have W:=hk;repeat' (first|refine aA fun K hK=>?_|refine ax ?_|(refine hK _ _ ?_;clear hK K)|(refine az ?_ ?_<;>intro hc<;>try exact jz)|refine al 5 ?_|refine cm (u') ?_|refine cm (h1) ?_|refine cm (ht) ?_|refine ay ?_|exact jI|(clear hK K)))
  (refine bG [] ?_;try simp only[go_sem])
def Re{k:Int}(h:bA p.aa.nodes a=21):jt p n a k=cW p n a k:=by have h:(ao p a).kind=21:=h;rw[uI,jN,jN,if_pos h]
def LN(p:ab)(n:Nat)(bl:Int->Int->List av)(a from_:Int):p9 p n bl a from_=(
  if(ao p a).kind=16 then aV p n (nth (ao p a).l 0) from_++[iI 17 (from_+(aV p n (nth (ao p a).l 0) from_).length+1+((bl (nth (ao p a).l 1) (from_+(aV p n (nth (ao p a).l 0) from_).length+1)).length+1))]++(bl (nth (ao p a).l 1) (from_+(aV p n (nth (ao p a).l 0) from_).length+1)++[iI 16 (from_-1)])
  else if(ao p a).l.length=3 then
   aV p n (nth (ao p a).l 0) from_++[iI 17 (from_+(aV p n (nth (ao p a).l 0) from_).length+1+((bl (nth (ao p a).l 1) (from_+(aV p n (nth (ao p a).l 0) from_).length+1)).length+1))]++(bl (nth (ao p a).l 1) (from_+(aV p n (nth (ao p a).l 0) from_).length+1)++[iI 16 (from_+(aV p n (nth (ao p a).l 0) from_).length+1+(bl (nth (ao p a).l 1) (from_+(aV p n (nth (ao p a).l 0) from_).length+1)).length+1+(bl (nth (ao p a).l 2) (from_+(aV p n (nth (ao p a).l 0) from_).length+1+(bl (nth (ao p a).l 1) (from_+(aV p n (nth (ao p a).l 0) from_).length+1)).length+1)).length)])++bl (nth (ao p a).l 2) (from_+(aV p n (nth (ao p a).l 0) from_).length+1+(bl (nth (ao p a).l 1) (from_+(aV p n (nth (ao p a).l 0) from_).length+1)).length+1)
  else aV p n (nth (ao p a).l 0) from_++[iI 17 (from_+(aV p n (nth (ao p a).l 0) from_).length+1+(bl (nth (ao p a).l 1) (from_+(aV p n (nth (ao p a).l 0) from_).length+1)).length)]++bl (nth (ao p a).l 1) (from_+(aV p n (nth (ao p a).l 0) from_).length+1)):=rfl
def wq(f:Int->Int->List av)(k x:Int):bz f k [x] []=f x k:=by show[]++f x (k+((0:Nat):Int))=_;rw[Int.natCast_zero,Int.add_zero,List.nil_append]
def MO(f:Int->Int->List av)(k x y:Int):bz f k [x,y] []=f x k++f y (k+(f x k).length):=by show bz f k [y] ([]++f x (k+((0:Nat):Int)))=_;rw[Int.natCast_zero,Int.add_zero,List.nil_append];rfl
def ut(L Y:List av)(a b:av):L++a::(Y++[b])=L++[a]++Y++[b]:=jE
def PN(L Y:List av)(a:av):L++a::Y=L++[a]++Y:=jE
theorem xv{p:ab}(hp:kj p):∀n,GY p n
 |0=>fun a L h0 hl hk hn hL=>by omega
 |n+1=>fun a L h0 hl hk hn hL=>by
  have hs:=xv hp n;have hx:=E3 hp n;have ht:=hp.ok.ok.aa;have hm:=ht.many;have hb:=(ht.shape a.toNat hl).2.1;have Tr:p.slots.length=p.aa.nodes.length:=hp.ok.ok.slots;have sh:=(ht.shape a.toNat hl).1;obtain⟨lo,O'⟩:=(ht.shape a.toNat hl).2.2;have O':aJ p.aa.nodes lo (ao p a).l a.toNat:=O';have S9:lo+(ao p a).l.length<=a.toNat:=CD O';have SW:eo (ao p a).kind:=hk;unfold eo at SW;have l1:(L++[iI 1 a]).length=L.length+1:=jE;have U6:∀x k,x∈(ao p a).l->eF (bA p.aa.nodes x)->(jt p n x k).length<=1200:=fun x k VQ Vk=>by have Xg:=hb x VQ;obtain⟨lo',hc⟩:=(ht.shape x.toNat jB).2.2;have:=Fa ht n k lo' Xg.1 jB Vk hc;omega
  have UQ:∀Y,(∀x∈(ao p a).l,eF (bA p.aa.nodes x))->bz (jt p n) (L.length+1) (ao p a).l []=Y->Y.length<=2500->ai prog 71 [bh eI 1 (ao p a).l,.bd 114 [.pt 0 0 0 0]] (bY p (L++[iI 1 a])) (fun r l=>r=.bf []/\l=bY p (L++[iI 1 a]++Y)):=fun Y hr hY hYl=>by have:=BW p 114 jD (jt p n) (ao p a).l (L++[iI 1 a]) jB (1000000-3000*n) (by rw[l1,Int.natCast_add];show¬(_<L.length+1+(bz (jt p n) (L.length+1) (ao p a).l []).length);rw[hY];omega) (fun x VQ M hM=>hx x M (hb x VQ).1 (by have:=hb x VQ;omega) (hr x VQ) (by have:=hb x VQ;omega) jB);rw[l1,Int.natCast_add]at this;rw[show bz (jt p n) ((L.length:Int)+((1:Nat):Int)) (ao p a).l []=Y from hY]at this;exact this
  rw[yl];by_cases e10:(ao p a).kind=10
  ·obtain⟨x,B',X1⟩:=sh.right (by have e:(nth p.aa.nodes a.toNat).kind=10:=e10;omega);have B':(ao p a).l=[x]:=B';have UD:=U6 x (L.length+1) (by rw[B'];simp) X1;have h:=UQ (jt p n x (L.length+1)) (by rw[B'];intro y hy;simp only[List.mem_singleton]at hy;subst hy;exact X1) (by rw[B',wq]) jB;rw[jP,B',show nth [x] 0=x from rfl,ut];exact JM a L _ h0 hl jB jB e10 h
  by_cases e11:(ao p a).kind=11
  ·obtain⟨x,B',X1⟩:=sh.right (by have e:(nth p.aa.nodes a.toNat).kind=11:=e11;omega);have B':(ao p a).l=[x]:=B';have UD:=U6 x (L.length+1) (by rw[B'];simp) X1;have h:=UQ (jt p n x (L.length+1)) (by rw[B'];intro y hy;simp only[List.mem_singleton]at hy;subst hy;exact X1) (by rw[B',wq]) jB;rw[jP,B',show nth [x] 0=x from rfl,ut];exact Jz a L _ h0 hl jB jB e11 h
  rw[jN];by_cases e12:(ao p a).kind=12
  ·obtain⟨x,y,B',Tu,Wx⟩:=sh.two (.inr e12);have B':(ao p a).l=[x,y]:=B';have UD:=U6 x (L.length+1) (by rw[B'];simp) (.inl Tu);have hy1:=U6 y (L.length+1+(jt p n x (L.length+1)).length) (by rw[B'];simp) (.inl Wx);have h:=UQ (jt p n x (L.length+1)++jt p n y (L.length+1+(jt p n x (L.length+1)).length)) (by rw[B'];intro z hz;simp only[List.mem_cons,List.not_mem_nil,or_false]at hz;rcases hz with rfl|rfl<;>exact .inl (by assumption)) (by rw[B',MO]) (by rw[List.length_append];omega);rw[if_pos e12,B',show nth [x,y] 0=x from rfl,show nth [x,y] 1=y from rfl,<-nk Tu,<-nk Wx,ut];exact LZ a L _ h0 hl jB (by rw[List.length_append];omega) e12 h
  rw[if_neg e12];by_cases e13:(ao p a).kind=13
  ·obtain⟨x,B',hxC⟩:=sh.nN e13;have B':(ao p a).l=[x]:=B';have X1:eF (bA p.aa.nodes x):=.inr (.inr (.inr hxC));have UD:=U6 x (L.length+1) (by rw[B'];simp) X1;have h:=UQ (jt p n x (L.length+1)) (by rw[B'];intro y hy;simp only[List.mem_singleton]at hy;subst hy;exact X1) (by rw[B',wq]) jB;rw[if_pos e13,B',show nth [x] 0=x from rfl,<-Re hxC,ut];exact NU a L _ h0 hl jB jB e13 h
  rw[if_neg e13];by_cases e14:(ao p a).kind=14
  ·obtain⟨x,B',Tu⟩:=sh.one (by have e:(nth p.aa.nodes a.toNat).kind=14:=e14;omega);have B':(ao p a).l=[x]:=B';have UD:=U6 x (L.length+1) (by rw[B'];simp) (.inl Tu);have h:=UQ (jt p n x (L.length+1)) (by rw[B'];intro y hy;simp only[List.mem_singleton]at hy;subst hy;exact .inl Tu) (by rw[B',wq]) jB;rw[if_pos e14,B',show nth [x] 0=x from rfl,<-nk Tu,ut];exact Pa a L _ h0 hl jB jB e14 h
  rw[if_neg e14];by_cases e17:(ao p a).kind=17
  ·rw[if_pos e17];rcases sh.ret e17 with B'|⟨x,B',Tu⟩
   ·have B':(ao p a).l=[]:=B';have h:=UQ [] (by rw[B'];intro y hy;simp at hy) (by rw[B'];rfl) jE;rw[B',if_pos (show([]:SI).length=0 from rfl),show([iI 22 0]:List av)=[]++[iI 22 0] from rfl,ut];exact PL a L _ h0 hl jB (by simp only[List.length_nil];omega) e17 B' h
   ·have B':(ao p a).l=[x]:=B';have UD:=U6 x (L.length+1) (by rw[B'];simp) (.inl Tu);have h:=UQ (jt p n x (L.length+1)) (by rw[B'];intro y hy;simp only[List.mem_singleton]at hy;subst hy;exact .inl Tu) (by rw[B',wq]) jB;rw[B',if_neg (show¬([x]:SI).length=0 from jE),show nth [x] 0=x from rfl,<-nk Tu,ut];exact Ru a L _ h0 hl jB jB e17 x B' h
  rw[if_neg e17];have expL:∀x lo,aJ p.aa.nodes lo (ao p x).l x.toNat->0<=x->x.toNat<p.aa.nodes.length->bT (bA p.aa.nodes x)->∀k,(aV p n x k).length<=1200:=fun x lo c h0 h1 h2 k=>by have:=mv ht n x k lo h0 h1 h2 c;omega
  have tst:∀x b,x∈(ao p a).l->b∈(ao p a).l->bT (bA p.aa.nodes x)->bA p.aa.nodes b=18->∃X B,aV p n x (L.length+1)=X/\X.length<=1200/\B.length<=1200/\bz (gX p n) (L.length+1+X.length+1) (ao p b).l []=B/\
    ai prog 114 [.pt 0 0 0 0,rI x] (bY p (L++[iI 1 a])) (fun r l=>r=.bf []/\l=bY p (L++[iI 1 a]++X))/\
    ai prog 37 [.pt 0 0 0 0,rI b] (bY p (L++[iI 1 a]++X++[iI 17 0])) (fun r l=>r=.bf []/\l=bY p (L++[iI 1 a]++X++[iI 17 0]++B)):=fun x b VQ hbm Tu VS=>by
   have Xg:=hb x VQ;have hbb:=hb b hbm;have hX:=U6 x (L.length+1) VQ (.inl Tu);rw[nk Tu]at hX;have ex:=hx x (L++[iI 1 a]) Xg.1 jB (.inl Tu) jB jB;rw[nk Tu,l1,Int.natCast_add]at ex;refine⟨_,_,rfl,hX,Ao ht n b _ hbb.1 jB VS,rfl,ex,?_⟩;have eb:=Cu hp hs b (L++[iI 1 a]++aV p n x (L.length+1)++[iI 17 0]) hbb.1 jB VS jB (by simp only[List.length_append,List.length_singleton];omega);rw[show((L++[iI 1 a]++aV p n x (L.length+1)++[iI 17 0]).length:Int)=L.length+1+(aV p n x (L.length+1)).length+1 by simp only[List.length_append,List.length_singleton];omega]at eb;exact eb
  rw[PN,LN];by_cases e16:(ao p a).kind=16
  ·obtain⟨x,b,B',Tu,VS⟩:=sh.dS e16;have B':(ao p a).l=[x,b]:=B';obtain⟨X,B,t1,t2,t3,t4,t5,t6⟩:=tst x b (by rw[B'];simp) (by rw[B'];simp) Tu VS;have hw:=PK (ao p a) x b (L++[iI 1 a]) X B L.length jB e16 B' t5 t6;rw[if_pos e16,B',show nth [x,b] 0=x from rfl,show nth [x,b] 1=b from rfl,t1,t4];rw[show((L.length:Int)+1+X.length+1+(B.length+1))=(((L++[iI 1 a]).length+X.length+1+(B.length+1):Nat):Int) by rw[l1];omega,show(L.length:Int)+1-1=L.length from jB];refine BA a L _ h0 hl (by simp only[List.length_append,List.length_singleton];omega) (.inr e16) ?_;simp only[List.append_assoc]at hw ⊢;exact hw
  rw[if_neg e16];have e15:(ao p a).kind=15:=jB;obtain⟨x,b,Tu,VS,B'|⟨d,B',ZV⟩⟩:=sh.kI e15
  ·have B':(ao p a).l=[x,b]:=B';obtain⟨X,B,t1,t2,t3,t4,t5,t6⟩:=tst x b (by rw[B'];simp) (by rw[B'];simp) Tu VS;have hw:=Lm (ao p a) x b (L++[iI 1 a]) X B L.length jB e16 B' t5 t6;rw[B',if_neg (show¬([x,b]:SI).length=3 from jE),show nth [x,b] 0=x from rfl,show nth [x,b] 1=b from rfl,t1,t4];rw[show((L.length:Int)+1+X.length+1+B.length)=(((L++[iI 1 a]).length+X.length+1+B.length:Nat):Int) by rw[l1];omega];refine BA a L _ h0 hl (by simp only[List.length_append,List.length_singleton];omega) (.inl e15) ?_;simp only[List.append_assoc]at hw ⊢;exact hw
  ·have B':(ao p a).l=[x,b,d]:=B';obtain⟨X,B,t1,t2,t3,t4,t5,t6⟩:=tst x b (by rw[B'];simp) (by rw[B'];simp) Tu VS;have ZW:=hb d (by show d∈(ao p a).l;rw[B'];simp);have hD:=Ao ht n d (L.length+1+X.length+1+B.length+1) ZW.1 jB ZV;have hsum:X.length+B.length<=1200:=by
    have O':=O';rw[B']at O';obtain⟨c1,c2,c3,c4,c5,c6⟩:=iM O';obtain⟨d1,d2,d3,d4,d5,d6⟩:=iM c6;have q1:=mv ht n x (L.length+1) lo c1 jB Tu c5;have q2:=II ht n b (L.length+1+X.length+1) _ d1 jB VS d5;rw[t1]at q1;rw[t4]at q2;omega
   have ed:=Cu hp hs d (L++[iI 1 a]++X++[iI 17 ((L++[iI 1 a]).length+X.length+1+(B.length+1):Nat)]++B++[iI 16 0]) ZW.1 jB ZV jB (by simp only[List.length_append,List.length_singleton];omega);rw[show((L++[iI 1 a]++X++[iI 17 ((L++[iI 1 a]).length+X.length+1+(B.length+1):Nat)]++B++[iI 16 0]).length:Int)=L.length+1+X.length+1+B.length+1 by simp only[List.length_append,List.length_singleton];omega]at ed;rw[B',if_pos (show([x,b,d]:SI).length=3 from rfl),show nth [x,b,d] 0=x from rfl,show nth [x,b,d] 1=b from rfl,show nth [x,b,d] 2=d from rfl,t1,t4];generalize hDD:bz (gX p n) (L.length+1+X.length+1+B.length+1) (ao p d).l []=D at*;have hw:=Sl (ao p a) x b d (L++[iI 1 a]) X B D L.length jB e16 B' t5 t6 ed;rw[show((L.length:Int)+1+X.length+1+(B.length+1))=(((L++[iI 1 a]).length+X.length+1+(B.length+1):Nat):Int) by rw[l1];omega,show((L.length:Int)+1+X.length+1+B.length+1+D.length)=(((L++[iI 1 a]).length+X.length+1+B.length+1+D.length:Nat):Int) by rw[l1];omega];refine BA a L _ h0 hl (by simp only[List.length_append,List.length_singleton];omega) (.inl e15) ?_;simp only[List.append_assoc]at hw ⊢;exact hw
structure Fw(c c':Ck):Prop where
 fn:c'.fn=c.fn
 aq:∀x∈c'.aq,x∈c.aq\/x=c.fn
def Fw.refl(c:Ck):Fw c c:=⟨rfl,fun _ h=>.inl h⟩
theorem Fw.trans{a b c:Ck}(h:Fw a b)(k:Fw b c):Fw a c:=⟨k.fn.trans h.fn,fun x hx=>by
 rcases k.aq x hx with e|e
 ·exact h.aq x e
 ·right;rw[e,h.fn]⟩
structure Ns(c c':Ck):Prop where
 aa:c'.aa=c.aa
 slots:∀k,¬iH (nth c.aa.nodes k).kind->nth c'.slots k=nth c.slots k
def Ns.refl(c:Ck):Ns c c:=⟨rfl,fun _ _=>rfl⟩
theorem Ns.trans{a b c:Ck}(h:Ns a b)(k:Ns b c):Ns a c:=⟨k.aa.trans h.aa,fun j hj=>(k.slots j (by rw[h.aa];exact hj)).trans (h.slots j hj)⟩
def vE{c c':Ck}(h1:c'.aa=c.aa)(h2:c'.slots=c.slots):Ns c c':=⟨h1,fun _ _=>by rw[h2]⟩
def FJ(c:Ck)(a s:Int)(h:iH (c.node a).kind):Ns c (c.slot a s):=⟨rfl,fun k hk=>by
 show nth (c.slots.set a.toNat s) k=_;unfold nth;rw[List.getD_eq_getElem?_getD,List.getElem?_set,List.getD_eq_getElem?_getD];by_cases e:a.toNat=k
 ·subst e;exact(hk h).elim
 ·rw[if_neg e]⟩
def qM(c:Ck)(e a:Int):Ns c (c.aG e a):=by unfold Ck.aG;split<;>exact vE rfl rfl
def oX(c:Ck)(b:Bool)(a:Int):Ns c (c.ar b a):=by unfold Ck.ar;split;exact .refl _;exact qM _ _ _
def yR(c:Ck)(a:Int)(h:iH (c.node a).kind):Ns c (c.named a).1:=by unfold Ck.named;split;exact qM _ _ _;exact FJ c a _ h
def RQ(c:Ck)(a t:Int):Ns c (c.note a t):=⟨rfl,fun _ _=>rfl⟩
def Je(c:Ck)(a:Int):Ns c (c.af a):=⟨rfl,fun _ _=>rfl⟩
def ub{c x y:Ck}{q:Prop}[Decidable q](h:Ns c x)(k:Ns c y):Ns c (if q then x else y):=by split;exact h;exact k
theorem Hy{ex:Ck->Int->Ck×Int}(hx:∀c a,Ns c (ex c a).1):∀(L:SI) (c:Ck) (ts:SI),Ns c (fV ex c L ts).1
 |[],c,ts=>by unfold fV;exact .refl c
 |a::L,c,ts=>by
  unfold fV;split
  ·exact(hx c a).trans (Hy hx L _ _)
  ·exact .refl c
theorem Ea(a:Int):∀(ts:SI) (ps:List bQ) (c:Ck),Ns c (gY a c ts ps)
 |[],ps,c=>by rw[sR];exact .refl c
 |_::_,[],c=>by rw[sN];exact .refl c
 |x::ts,p::ps,c=>by
  unfold gY;split
  ·exact(oX _ _ _).trans (Ea a ts ps _)
  ·exact .refl c
variable{ex:Ck->Int->Ck×Int}
def Ov(hx:∀c a,Ns c (ex c a).1)(c:Ck)(a:Int):Ns c (gM ex c a).1:=by
 unfold gM;split
 ·exact qM _ _ _
 ·simp only;exact((Hy hx _ c _).trans (ub (qM _ _ _) (.refl _))).trans (Ea _ _ _ _)
def Mg(hx:∀c a,Ns c (ex c a).1)(c:Ck)(a:Int):Ns c (cn ex c a).1:=by
 unfold cn;simp only;split
 ·exact .refl c
 split
 ·exact .refl c
 split
 ·exact .refl c
 split
 ·rename_i e;exact yR _ _ (.inl e)
 split
 ·exact Ov hx c a
 split
 ·rename_i e;exact((yR _ _ (.inr (.inl e))).trans (hx _ _)).trans (oX _ _ _)
 split
 ·exact((hx _ _).trans (hx _ _)).trans (oX _ _ _)
 split
 ·exact(hx _ _).trans (oX _ _ _)
 split
 ·exact(hx _ _).trans (oX _ _ _)
 split
 ·exact(hx _ _).trans (oX _ _ _)
 ·exact(hx _ _).trans (oX _ _ _)
theorem rR:∀(n:Nat) (c:Ck) (a:Int),Ns c (au n c a).1
 |0,c,a=>by unfold au;exact .refl c
 |n+1,c,a=>by
  unfold au;split
  ·exact .refl c
  ·exact(Mg (rR n) c a).trans (RQ _ _ _)
def QR(hx:∀c a,Ns c (ex c a).1)(c:Ck)(a:Int)(hk:iH (c.node a).kind):Ns c (o0 ex c a):=by have hA:Ns c (gC ex c a):=(hx c _).trans (oX _ _ _);have hB:Ns (gC ex c a) (jf ex c a):=ub (qM _ _ _) (.refl _);have hC:Ns (jf ex c a) (dP ex c a):=ub (qM _ _ _) (.refl _);rw[tJ];have ZX:=(hA.trans hB).trans hC;exact ZX.trans ((FJ (dP ex c a) a _ (by unfold Ck.node;rw[ZX.aa];exact hk)).trans (vE rfl rfl))
def LU(hx:∀c a,Ns c (ex c a).1)(c:Ck)(a:Int):Ns c (ki ex c a):=by
 unfold ki;simp only;split
 ·exact qM _ _ _
 split
 ·exact(hx _ _).trans (oX _ _ _)
 ·exact .refl c
theorem B6{st:Ck->Int->Ck}(hs:∀c a,Ns c (st c a)):∀(L:SI) (c:Ck),Ns c (dt st c L)
 |[],c=>by unfold dt;exact .refl c
 |a::L,c=>by
  unfold dt;split
  ·exact(hs c a).trans (B6 hs L _)
  ·exact .refl c
def I6{st:Ck->Int->Ck}(hs:∀c a,Ns c (st c a))(c:Ck)(a:Int):Ns c (eL st c a):=by unfold eL;simp only;exact((Je c a).trans (B6 hs _ _)).trans (vE rfl rfl)
theorem DH:∀(n:Nat) (c:Ck) (a:Int),Ns c (bH n c a)
 |0,c,a=>by unfold bH;exact .refl c
 |n+1,c,a=>by
  unfold bH;simp only;refine(Je c a).trans ?_;split
  ·rename_i e;exact QR (rR n) _ _ (.inr (.inr (.inl e)))
  split
  ·rename_i e;exact((yR _ _ (.inr (.inr (.inr (.inl e))))).trans (rR n _ _)).trans (oX _ _ _)
  split
  ·rename_i e;exact(((yR _ _ (.inr (.inr (.inr (.inr e))))).trans (rR n _ _)).trans (rR n _ _)).trans (oX _ _ _)
  split
  ·exact rR n _ _
  split
  ·exact(rR n _ _).trans (oX _ _ _)
  split
  ·exact LU (rR n) _ _
  ·exact((rR n _ _).trans (oX _ _ _)).trans (B6 (fun c a=>I6 (DH n) c a) _ _)
theorem DF(body:Int):∀(ps:List bQ) (c:Ck) (i:Int),Ns c (eJ body c ps i)
 |[],c,i=>by unfold eJ;exact .refl c
 |p::ps,c,i=>by unfold eJ;simp only;have h1:Ns c (if 0<=c.find p.name then c.aG 41 body else c):=ub (qM c 41 body) (.refl c);generalize (if 0<=c.find p.name then c.aG 41 body else c)=d at*;refine h1.trans ?_;exact Ns.trans (b:={ d with vars:=d.vars++[⟨p.name,p.ty,i⟩],more:=d.more.drop 1,size:=d.size+1 }) (vE rfl rfl) (DF body ps _ _)
def JY(c:Ck)(k:Nat):Ns c (fJ c k):=by
 have h:Ns { c with fn:=(k:Int),vars:=[],more:=[],size:=0 } (fJ c k):=by unfold fJ;simp only;exact((DF _ _ _ _).trans (ub (I6 (DH _) _ _) (.refl _))).trans (vE rfl rfl)
 exact Ns.trans (b:={ c with fn:=(k:Int),vars:=[],more:=[],size:=0 }) (vE rfl rfl) h
theorem HW:∀(n i:Nat) (c:Ck),Ns c (fO c i n)
 |0,i,c=>by unfold fO;exact .refl c
 |n+1,i,c=>by
  unfold fO;split
  ·exact(JY c i).trans (HW n (i+1) _)
  ·exact .refl c
theorem GO(x:bg):∀(l:List bg) (c:Ck),Ns c (mi x c l)
 |[],c=>by unfold mi;exact .refl c
 |f::l,c=>by unfold mi;exact(ub (qM _ _ _) (.refl _):Ns c (if f.name=x.name then c.aG 41 x.body else c)).trans (GO x l _)
theorem AG(aq:List bg):∀(n i:Nat) (c:Ck) (m:Bool),Ns c (lf aq c m i n).1
 |0,i,c,m=>by unfold lf;exact .refl c
 |n+1,i,c,m=>by unfold lf;exact(GO _ _ c).trans (AG aq n (i+1) _ _)
def Km(c:Ck):Ns c (jh c):=by unfold jh;simp only;exact ub (AG _ _ _ _ _) ((AG _ _ _ _ _).trans (qM _ _ _))
def Qm{t:aF}(he:(ij t).2.2=0):∀k,k<t.nodes.length->¬iH (nth t.nodes k).kind->nth (ij t).1.slots k<=0:=fun k hk hn=>by
 unfold ij at he ⊢;split at he
 ·rename_i h;exact(h he).elim
 rename_i h;rw[if_neg h];have h1:=(Km (jM t)).trans (HW t.aq.length 0 _);show nth (fO (jh (jM t)) 0 t.aq.length).slots k<=0;rw[h1.slots k hn];show nth (t.nodes.map fun _=>(-1:Int)) k<=0;unfold nth;rw[List.getD_eq_getElem?_getD,List.getElem?_map,List.getElem?_eq_getElem hk];show(-1:Int)<=0;omega
def QP{t:List bu}{lo hi:Nat}{L:SI}(h:aJ t lo L hi):∀k,lo<=k->k<hi->∃j,j<L.length/\k<=(nth L j).toNat/\(if j=0 then lo else(nth L (j-1)).toNat+1)<=k:=by
 induction h with
 |nil=>intro k h1 h2;omega
 |@cons lo c hi L hc h1 h2 i1 i2=>
  intro k Te S5;by_cases e:k<=c
  ·exact⟨0,jE,by show k<=(c:Int).toNat;omega,by rw[if_pos rfl];exact Te⟩
  ·obtain⟨j,g1,g2,g3⟩:=i2 k jB S5;refine⟨j+1,by simp;omega,g2,?_⟩;rw[jN];by_cases e0:j=0
   ·subst e0;show(c:Int).toNat+1<=k;omega
   ·rw[if_neg e0]at g3;rw[show j+1-1=(j-1)+1 from jB];exact g3
def J5(h:cY p):∀k,k<p.aa.nodes.length->iH (nth p.aa.nodes k).kind->0<=nth p.slots k:=fun k hk hs=>by
 obtain⟨j,g1,g2,g3⟩:=QP h.ok.aa.chain k (Nat.zero_le _) hk;have g1:j<p.aa.aq.length:=by simpa using g1
 have e:∀i,i<p.aa.aq.length->nth (p.aa.aq.map (·.body)) i=(nth p.aa.aq i).body:=fun i hi=>by unfold nth;rw[List.getD_eq_getElem?_getD,List.getElem?_map,List.getD_eq_getElem?_getD,List.getElem?_eq_getElem hi];rfl
 rw[e j g1]at g2;have hf:=h.aq j g1;refine(hf.all k ?_ jB hs).1;unfold oK;split at g3
 ·rename_i e0;rw[if_pos e0];exact g3
 ·rename_i e0;rw[if_neg e0];rw[e (j-1) jB]at g3;exact g3
def Kg{s:SK}(he:(gy s).2.2=0):∀k,k<(gy s).1.aa.nodes.length->¬iH (nth (gy s).1.aa.nodes k).kind->nth (gy s).1.slots k<=0:=by
 have hok:=KN he;unfold gy at he hok ⊢;split at he
 ·rename_i h;exact(h he).elim
 rename_i h;rw[if_neg h]at hok ⊢;have h:(gP s).2.2=0:=jB;simp only at he hok ⊢;split at he
 ·cases he
 rename_i h2;split at he
 ·rename_i h3;exact(h3 he).elim
 rename_i h3;rw[if_neg h2,if_neg h3]at hok ⊢;have ht:=(AM (xS h) jB).2;simp only at hok ⊢;rw[ht];exact Qm jB
attribute [local go_sem] iI
def Mw(hp:kj p):aP prog 17 [.agg (bV p)] (.agg (yg (kN p))):=by
 have ht:=hp.ok.ok.aa;have hm:=ht.many;have Yw:=ht.aq;have eV:kN p=fl p p.aa.aq.length:=by unfold kN fl;rw[List.take_length]
 rw[eV];have UH:=Cz hp.ok;have Vh:=za p;rw[BF];refine df func17 ntmps17 ?_;refine S ?_
 (repeat' (first|refine aA fun K hK=>?_|refine ax ?_|(refine hK _ _ ?_;clear hK K)|(refine az ?_ ?_<;>intro hc<;>try exact jz)|refine cz 2 ?_|refine al 3 ?_|refine al 0 ?_|refine ay ?_|exact jI|(clear hK K)))
 refine iJ (dJ.fB 1 0 6 91 4 rfl jC rfl rfl) ?_
 (refine S ?_;try exact jI)
 refine iJ (dJ.nil 5 4 3 (sz:=1) rfl jC (Or.inl rfl)) ?_
 (refine S ?_;try exact jI)
 have Tc:=hK;clear hK;refine fa (S:=Nat) [(4,1),(6,1),(13,17)] (fun k=>k<=p.aa.aq.length) (fun k=>[(4,.rs 5 k 1 k),(13,rI k)])
  (fun k=>⟨[],[(2,.var 29 (kH p)),(3,.var 62 [.raw (.slice none 0 0),.raw (.slice none 0 0)]),(0,.var 113 (kH p++[.rs 1 (fl p k).ins.length 4 (fl p k).ins.length])),(1,.aK 91 4 ((fl p k).ins.map du)),(5,.aK 3 1 ((fl p k).entry.map eI))]⟩)
  (fun k=>p.aa.aq.length-k) 0 jB (fb rfl cI) ?_
 rintro k hk Kr S8;have Xm:=UH k hk;have hek:=Vh k hk;by_cases SX:k<p.aa.aq.length
 ·have hs:=zx p k SX;have Uh:=pw ht (k:=k) SX;have U1:=Uh.1;have Us:=Uh.2;have Wu:=ht.body _ (er SX);have Ws:=Ao ht (me p) (nth p.aa.aq k).body (fl p k).ins.length jB jB Wu;have hcb:=Cu hp (xv hp (me p)) (nth p.aa.aq k).body (fl p k).ins jB jB Wu (by show _<=p.aa.nodes.length;omega) (by have:me p<=300:=hm;omega);change ai _ _ _ _ (fun r l=>r=.bf []/\l=bY p ((fl p k).ins++qZ p (me p) (nth p.aa.aq k).body (fl p k).ins.length))at hcb
  change (qZ p (me p) (nth p.aa.aq k).body (fl p k).ins.length).length<=1200 at Ws
  have WK:=je p ((fl p k).ins++qZ p (me p) (nth p.aa.aq k).body (fl p k).ins.length) 22 (nth p.aa.aq k).ret (by rw[List.length_append];omega);have e1:(fl p (k+1)).ins=(fl p k).ins++qZ p (me p) (nth p.aa.aq k).body (fl p k).ins.length++[iI 22 (nth p.aa.aq k).ret]:=by rw[hs];rfl
  have e2:(fl p (k+1)).entry=(fl p k).entry++[((fl p k).ins.length:Int)]:=by rw[hs];rfl
  generalize qZ p (me p) (nth p.aa.aq k).body (fl p k).ins.length=B at*;generalize hC':fl p (k+1)=C' at*;generalize fl p k=C at*;generalize hF:nth p.aa.aq k=F at*;refine S ?_
  (have W:=jA hF hek;repeat' (first|refine aA fun K hK=>?_|refine ax ?_|(refine hK _ _ ?_;clear hK K)|(refine az ?_ ?_<;>intro hc<;>try exact jz)|refine al 6 ?_|refine cm (hcb) ?_|refine cm (WK) ?_|refine ay ?_|exact jI|(clear hK K)))
  refine S8 _ _ (x8 [6] (k+1) jB (by show p.aa.aq.length-(k+1)<p.aa.aq.length-k;omega) rfl Sd (by rw[hC',e1,e2];simp only[kH,List.map_append,List.length_append,List.map_cons,List.map_nil,List.length_cons,List.length_nil];rfl) lU)
 ·have e:k=p.aa.aq.length:=jB;subst e;generalize fl p p.aa.aq.length=C at*;refine S ?_
  (have W:=hek;repeat' (first|refine aA fun K hK=>?_|refine ax ?_|(refine hK _ _ ?_;clear hK K)|(refine az ?_ ?_<;>intro hc<;>try exact jz)|refine Tc _ _ ?_|refine ay ?_|exact jI|(clear hK K)))
  refine lW [.cell 2 62] ?_;exact bK.agg (ds:=[bh du 4 C.ins,bh eI 1 C.entry]) (jA (dM.row (enc:=du) C.ins rfl rfl jE) (jA (dM.row (enc:=eI) C.entry rfl rfl (by simp[hek])) trivial))
def FH{s:SK}(he:(gy s).2.2=0):kj (gy s).1:=⟨B7 he,Kg he,J5 (B7 he)⟩
def RH(f:bg):aP prog 40 [.agg (gr f)] (rB (decide (f.name=(⟨#[109,97,105,110]⟩:SK)))):=by
 refine df func40 ntmps40 ?_
 (repeat' (first|refine aA fun K hK=>?_|refine ax ?_|(refine hK _ _ ?_;clear hK K)|(refine az ?_ ?_<;>intro hc<;>try exact jz)|refine cz 4 ?_|refine ay ?_|exact jI|(clear hK K)))
 (refine bG [.tmp 2] ?_;try simp only[go_sem])
def RI(L:List bg)(k:Nat)(hL:L.length<=1000)(hk:k<L.length)(Tm:(nth L k).name=(⟨#[109,97,105,110]⟩:SK))(UP:∀i,i<k->(nth L i).name≠(⟨#[109,97,105,110]⟩:SK)) :
  aP prog 39 [bh gr 5 L,.raw (.func (.func 40) #[] #[])] (rI k):=by
 refine df func39 ntmps39 ?_
 (repeat' (first|refine aA fun K hK=>?_|refine ax ?_|(refine hK _ _ ?_;clear hK K)|(refine az ?_ ?_<;>intro hc<;>try exact jz)|refine ay ?_|exact jI|(clear hK K)))
 refine fa (S:=Nat) [(4,2),(8,11)] (fun i=>i<=k) (fun i=>[(8,rI i)]) (fun i=>⟨[],[]⟩) (fun i=>k-i) 0 jB (fb rfl cI) ?_;rintro i hi Kr S8;have Vd:=RH (nth L i);by_cases e:i=k
 ·subst e;rw[decide_eq_true Tm]at Vd;refine S ?_
  (repeat' (first|refine aA fun K hK=>?_|refine ax ?_|(refine hK _ _ ?_;clear hK K)|(refine az ?_ ?_<;>intro hc<;>try exact jz)|refine cp (Vd) ?_|refine ay ?_|exact jI|(clear hK K)))
  (refine bG [.tmp 4] ?_;try simp only[go_sem])
 ·rw[decide_eq_false (UP i jB)]at Vd;refine S ?_
  (repeat' (first|refine aA fun K hK=>?_|refine ax ?_|(refine hK _ _ ?_;clear hK K)|(refine az ?_ ?_<;>intro hc<;>try exact jz)|refine cp (Vd) ?_|refine ay ?_|exact jI|(clear hK K)))
  refine S8 _ _ (fc (i+1) jB jJ rfl cI)
def Pz(m:Nat)(hL:p.aa.aq.length<=1000)(hk:m<p.aa.aq.length)(Tm:(nth p.aa.aq m).name=(⟨#[109,97,105,110]⟩:SK))(UP:∀i,i<m->(nth p.aa.aq i).name≠(⟨#[109,97,105,110]⟩:SK)):aP prog 20 [.agg (bV p)] (rI m):=by
 have hix:=RI p.aa.aq m hL hk Tm UP;rw[BF];refine df func20 ntmps20 ?_;refine S ?_
 (repeat' (first|refine aA fun K hK=>?_|refine ax ?_|(refine hK _ _ ?_;clear hK K)|(refine az ?_ ?_<;>intro hc<;>try exact jz)|refine cz 2 ?_|refine cp (hix) ?_|refine ay ?_|exact jI|(clear hK K)))
 (refine bG [.tmp 2] ?_;try simp only[go_sem])
end Go.Proofs.YtbjookcdpondlaaGreatDoor