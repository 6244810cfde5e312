/- Lemmas. No conditions. -/
import Derived.Test.YtijdhbokcdpklaaGreatDoorTwI
set_option linter.all false
set_option maxHeartbeats 4000000
set_option maxRecDepth 10000
namespace Go.Gd
open Go
def vP(E:List az):Prop:=∀j,j<E.length-1->(nth E j).at_<=(nth E (j+1)).at_
instance (E:List az):Decidable (vP E):=inferInstanceAs (Decidable (∀j,j<E.length-1->(nth E j).at_<=(nth E (j+1)).at_))
def Cq(x y:az):Int:=if x.at_<y.at_ then -1 else if y.at_<x.at_ then 1 else 0
section
variable {P:UY}{ops:Array Oper}
theorem xC{D:UQ}{K K':UI}{tail:List Oper}(ht:∀F H,K' F H->oK P ops K tail F H):∀(l:List Oper) (F:UM) (H:Hp),iq D P ops K' l F H->oK P ops K (l++tail) F H
 |[],F,H,h=>ht F H h
 |o::rest,F,H,h=>by
  refine zk ?_;simp only[iq]at h;split at h
  ·rename_i hg;exact(pF (K:=fun F' H'=>iq D P ops K' rest F' H') hg h).mono fun F' H' hk=>xC ht rest F' H' hk
  ·rename_i j want hg;split at h
   ·rename_i b hb;split at h
    ·rename_i hd;refine lK.mono (K:=fun F' H'=>iq D P ops K' rest F' H') ?_ fun F' H' hk=>xC ht rest F' H' hk
     obtain⟨dst,op,ty,pos,after,guard⟩:=o;have hc:iU op=true:=by simp only[Bool.and_eq_true]at hd;exact hd.2
     cases op<;>first|(cases hc;done)|skip
     rename_i c;obtain⟨callee,args,ts⟩:=c;cases callee<;>first|(cases hc;done)|skip
     rename_i f;refine lF hg hb (fun Vi w tm Q next h1 h2 hn=>?_) (fun Vi=>⟨.gd false (.raw (.bool false)),ny rfl,h.2 Vi⟩);obtain⟨ok,Vp⟩:=h.1 Vi;have WN:=nP ok;have e1:gB F f=bG F f:=WN f (by simp[Op.operands,Call.operands]);have e2:args.toList.map (gB F)=args.toList.map (bG F):=List.map_congr_left fun x hx=>WN x (by simp[Op.operands,Call.operands]at hx ⊢;exact .inr hx)
     refine ug (ev:=gB F) e1 e2 Vp h1 (oI h2) fun v r' w' H' hR g1 g2 g3=>?_
     rw[Act.put_eq];exact hn _ w' _ H' hR g1 ((h2.ext g3).put dst g2 []) g3
    split at h
    ·refine lK.mono (K:=fun F' H'=>iq D P ops K' rest F' H') ?_ fun F' H' hk=>xC ht rest F' H' hk
     obtain⟨dst,op,ty,pos,after,guard⟩:=o;unfold eO at h;split at h
     ·rename_i f args argTypes W6;cases W6;obtain⟨r,hc,hk⟩:=h;refine lF hg hb (fun Vi w tm Q next h1 h2 hn=>?_) (fun Vi=>⟨_,ny Vi,hk⟩);obtain⟨ok,Vp⟩:=hc Vi;have WN:=nP ok;have e1:gB F f=bG F f:=WN f (by simp[Op.operands,Call.operands]);have e2:args.toList.map (gB F)=args.toList.map (bG F):=List.map_congr_left fun x hx=>WN x (by simp[Op.operands,Call.operands]at hx ⊢;exact .inr hx)
      refine ug (ev:=gB F) e1 e2 Vp h1 (oI h2) fun v r' w' H' hR g1 g2 g3=>?_
      obtain⟨rfl,rfl⟩:=hR;rw[Act.put_eq];exact hn _ w' _ H' hk g1 ((h2.ext g3).put dst (ph Vi g2) []) g3
     ·rename_i f m args argTypes W6;cases W6;obtain⟨r,hc,hk⟩:=h;refine lF hg hb (fun Vi w tm Q next h1 h2 hn=>?_) (fun Vi=>⟨_,ny Vi,hk⟩);obtain⟨ok,Vp⟩:=hc Vi;have WN:=nP ok;have e1:gB F f=bG F f:=WN f (by simp[Op.operands,Call.operands]);have e2:args.toList.map (gB F)=args.toList.map (bG F):=List.map_congr_left fun x hx=>WN x (by simp[Op.operands,Call.operands]at hx ⊢;exact .inr hx)
      refine zj (ev:=gB F) e1 e2 Vp h1 (oI h2) fun v r' w' H' hR g1 g2 g3=>?_
      obtain⟨rfl,rfl⟩:=hR;rw[Act.put_eq];exact hn _ w' _ H' hk g1 ((h2.ext g3).put dst (ph Vi g2) []) g3
     ·rename_i c x y W6;simp only at W6;subst W6;obtain⟨hs,hk⟩:=h;refine lF hg hb (fun Vi w tm Q next h1 h2 hn=>?_) (fun Vi=>⟨_,ny Vi,hk⟩);obtain⟨ok,hq⟩:=hs Vi;obtain⟨v,B',hv⟩:=BL (P:=P) (ρ:=(Act.mk tm []).eval) (dst:=dst) (ty:=ty) (pos:=pos) (after:=after) (guard:=guard) (zg h2 c ok) (h2.eval [] x) (h2.eval [] y) hq;simp only[Oper.wp,B',Oper.upon];rw[Act.put_eq];exact hn _ w _ H hk h1 (h2.put dst (ph Vi hv) []) (Ext.refl w H)
     ·split at h
      ·obtain⟨hs,hk⟩:=h;refine lF hg hb (fun Vi w tm Q next h1 h2 hn=>?_) (fun Vi=>⟨_,ny Vi,hk⟩);obtain⟨ok,hq⟩:=hs Vi;rw[<-rY _ (nP ok)]at hq;obtain⟨v,B',hv⟩:=xS (ρ:=(Act.mk tm []).eval) ⟨dst,op,ty,pos,after,guard⟩ h1 (oI h2) hq;simp only[Oper.wp,B',Oper.upon];rw[Act.put_eq];rw[rY _ (nP ok)]at hv;exact hn _ w _ H hk h1 (h2.put dst (ph Vi hv) []) (Ext.refl w H)
      ·exact h.elim
    ·refine lK.mono (K:=fun F' H'=>iq D P ops K' rest F' H') ?_ fun F' H' hk=>xC ht rest F' H' hk
     refine lF hg hb (fun Vi w tm Q next h1 h2 hn=>?_) (fun Vi=>⟨_,fun w=>.any _,h.2 Vi⟩);exact yf (h.1 Vi) h1 h2 (fun x=>h2.eval [] x) hn
   ·exact h.elim
def Cu(P:UY)(ops:Array Oper)(F:UM)(H:Hp)(K:UI)(t:Nat)(a:US)(m:Nat)(ps:Array (Nat×Operand))(j:Nat)(want:Bool):Prop:=
 ll ops F j want=some true/\(ps.toList.all fun p=>(iT (cn F p.2)).1)=true/\mK P H a m (ps.toList.map fun p=>(p.1,bG F p.2)) (fun r H'=>K (cM F (some t) r) H')
@[go_sem] def j7g(F:UM)(H:Hp)(K:UI)(t:Nat)(a:US)(m:Nat)(ps:Array (Nat×Operand))(j:Nat)(want:Bool):Cu P ops F H K t a m ps j want =
 (ll ops F j want=some true/\(ps.toList.all fun p=>(iT (cn F p.2)).1)=true/\mK P H a m (ps.toList.map fun p=>(p.1,bG F p.2)) (AP (fun r H'=>K (cM F (some t) r) H') .mk)):=(rfl)
def Nv{F:UM}{H:Hp}{K:UI}{t:Nat}{a:US}{m:Nat}{ps:Array (Nat×Operand)}{ty:US}{pos:String}{after:Array Edge}{j:Nat}{want:Bool}{rest:List Oper}
  (h:Cu P ops F H (fun F' H'=>oK P ops K rest F' H') t a m ps j want):oK P ops K (⟨some t,.buildSlice a m ps,ty,pos,after,some (j,want)⟩::rest) F H:=by
 obtain⟨hb,hok,hl⟩:=h;refine zk ?_;refine lF (o:=⟨some t,.buildSlice a m ps,ty,pos,after,some (j,want)⟩) (K:=fun F' H'=>oK P ops K rest F' H') rfl hb (fun _ w tm Q next h1 h2 hn=>?_) (fun e=>by cases e);have YP:∀p∈ps.toList,(iT (cn F p.2)).1=true:=List.all_eq_true.1 hok;have e:(ps.toList.map fun p=>(p.1,gB F p.2))=ps.toList.map fun p=>(p.1,bG F p.2):=List.map_congr_left fun p hp=>by unfold gB;rw[if_pos (YP p hp)]
 have hl:vc P (gB F) H ty (fun r H'=>oK P ops K rest (cM F (some t) r) H') (.buildSlice a m ps):=by show mK P H a m (ps.toList.map fun p=>(p.1,gB F p.2)) _;rw[e];exact hl
 exact yf (o:=⟨some t,.buildSlice a m ps,ty,pos,after,some (j,want)⟩) (K:=fun F' H'=>oK P ops K rest F' H') hl h1 h2 (oI h2) hn
end
def sT{P:UY}{id:Nat}{l l1 l2:List Oper}{Q:Exit->UI}{F:UM}{H:Hp}{q:Prop}(D:UQ)(n:Nat){t:Nat}{a:US}{m:Nat}{ps:Array (Nat×Operand)}{ty:US}{pos:String}{after:Array Edge}{j:Nat}{want:Bool}(h:q)
  (e1:l.take n=l1:=by(simp only[List.take_succ_cons,List.take_zero];try rfl)) (e2:l.drop n=⟨some t,.buildSlice a m ps,ty,pos,after,some (j,want)⟩::l2:=by(simp only[List.drop_succ_cons,List.drop_zero];try rfl))
  (e:iq D P l.toArray (fun F H=>Cu P l.toArray F H (fun F' H'=>iq D P l.toArray (Q .normal) l2 F' H') t a m ps j want) l1 F H=q:=by exact fm):dH P (.region id l.toArray false) Q F H:=by
 refine BU ?_;have hl:l=l1++(⟨some t,.buildSlice a m ps,ty,pos,after,some (j,want)⟩::l2):=by rw[<-e1,<-e2,List.take_append_drop]
 have:=xC (P:=P) (ops:=l.toArray) (K:=Q .normal) (tail:=⟨some t,.buildSlice a m ps,ty,pos,after,some (j,want)⟩::l2) (fun F H hk=>Nv (by obtain⟨g1,g2,g3⟩:=hk;exact⟨g1,g2,CL g3 fun r H' hk=>wu _ _ _ hk⟩)) l1 F H (e ▸ h)
 rw[<-hl]at this;simpa using this
theorem Cw:∀(E:List az),ji E->vP E
 |[],_=>fun j h=>by simp at h
 |[x],_=>fun j h=>by simp at h
 |x::y::l,h=>fun j hj=>by
  cases j with
  |zero=>exact h.1 y rfl
  |succ j=>exact Cw (y::l) h.2 j (by simp at hj ⊢;omega)
structure OR(o:mF):Prop where
 k0:0<=o.kind
 k1:o.kind<256
 n:bE o.n
 v:bE o.v.n
end Go.Gd
namespace Go.Proofs.YtijdhbokcdpklaaGreatDoor
open Go Go.Gd Tryz
def SW(x y:az):aB prog 84 [.agg (bv x),.agg (bv y)] (rI (Cq x y)):=by
 unfold Cq;by_cases h1:x.at_<y.at_
 ·rw[if_pos h1];refine bF func84 ntmps84 ?_
  (have W:=h1;repeat' (first|refine aq fun K hK=>?_|refine ak ?_|(refine hK _ _ ?_;clear hK K)|(refine ao ?_ ?_<;>intro hc<;>try exact jz)|refine bx 0 ?_|refine bx 1 ?_|refine ap ?_|exact jI|(clear hK K)))
  (refine aW [.tmp 4] ?_;try simp only[go_sem])
 ·rw[if_neg h1];by_cases h2:y.at_<x.at_
  ·rw[if_pos h2];refine bF func84 ntmps84 ?_
   (have W:=jA h1 h2;repeat' (first|refine aq fun K hK=>?_|refine ak ?_|(refine hK _ _ ?_;clear hK K)|(refine ao ?_ ?_<;>intro hc<;>try exact jz)|refine bx 0 ?_|refine bx 1 ?_|refine ap ?_|exact jI|(clear hK K)))
   (refine aW [.tmp 4] ?_;try simp only[go_sem])
  ·rw[if_neg h2];refine bF func84 ntmps84 ?_
   (have W:=jA h1 h2;repeat' (first|refine aq fun K hK=>?_|refine ak ?_|(refine hK _ _ ?_;clear hK K)|(refine ao ?_ ?_<;>intro hc<;>try exact jz)|refine bx 0 ?_|refine bx 1 ?_|refine ap ?_|exact jI|(clear hK K)))
   (refine aW [.tmp 4] ?_;try simp only[go_sem])
def Pb(E:List az)(hl:E.length<=1000):aB prog 83 [aM bv 5 E,.raw (.func (.func 84) #[] #[])] (rB (decide (vP E))):=by
 suffices key:∀b:Bool,(vP E<->b=true)->aB prog 83 [aM bv 5 E,.raw (.func (.func 84) #[] #[])] (rB b) from key _ jE
 intro b hb;refine bF func83 ntmps83 ?_
 (repeat' (first|refine aq fun K hK=>?_|refine ak ?_|(refine hK _ _ ?_;clear hK K)|(refine ao ?_ ?_<;>intro hc<;>try exact jz)|refine ap ?_|exact jI|(clear hK K)))
 have Vb:=hK;clear hK;refine ee (S:=Int) [(4,2),(9,16)] (fun i=>-1<=i/\i<=(E.length:Int)-1/\∀j:Nat,i<=j->j<E.length-1->(nth E j).at_<=(nth E (j+1)).at_) (fun i=>[(5,rI i)]) (fun _=>⟨[],[]⟩) (fun i=>i.toNat) ((E.length:Int)-1) ⟨jB,jB,fun j h1 h2=>jB⟩ (dZ rfl cr) ?_;rintro i ⟨Xg,Xx,U8⟩ Kr U5;by_cases h0:0<i
 ·obtain⟨m,rfl⟩:∃m:Nat,i=(m:Int)+1:=⟨(i-1).toNat,jB⟩;have U7:=SW (nth E (m+1)) (nth E m);have e1:((m:Int)+1).toNat=m+1:=jB;have e2:((m:Int)+1-1).toNat=m:=jB;have g1:m+1<E.length:=jB;have g2:m<E.length:=jB;unfold Cq at U7;by_cases h1:(nth E (m+1)).at_<(nth E m).at_
  ·rw[if_pos h1]at U7;have hbf:b=false:=by
    cases b
    ·rfl
    ·have:=(hb.2 rfl) m jB;omega
   subst hbf;refine S ?_
   (have W:=jA h0 (jA e1 (jA e2 (jA g1 (g2))));repeat' (first|refine aq fun K hK=>?_|refine ak ?_|(with_reducible refine gR 4 ?_);refine dE 4 (ba 0 12) mixed ?_|(refine hK _ _ ?_;clear hK K)|(refine ao ?_ ?_<;>intro hc<;>try exact jz)|refine cp (U7) ?_|refine ap ?_|exact jI|(clear hK K)))
   (refine aW [.tmp 4] ?_;try simp only[go_sem])
  ·have hcz:∃z:Int,0<=z/\aB prog 84 [.agg (bv (nth E (m+1))),.agg (bv (nth E m))] (rI z):=by
    rw[if_neg h1]at U7;split at U7
    ·exact⟨1,jC,U7⟩
    ·exact⟨0,jC,U7⟩
   obtain⟨z,hz,U7⟩:=hcz;have YB:¬z<0:=jB;refine S ?_
   (have W:=jA h0 (jA e1 (jA e2 (jA g1 (jA g2 (YB)))));repeat' (first|refine aq fun K hK=>?_|refine ak ?_|(with_reducible refine gR 4 ?_);refine dE 4 (ba 0 12) mixed ?_|(refine hK _ _ ?_;clear hK K)|(refine ao ?_ ?_<;>intro hc<;>try exact jz)|refine cp (U7) ?_|refine ap ?_|exact jI|(clear hK K)))
   refine U5 _ _ (dY ((m:Int)) ⟨jB,jB,fun j h2 h3=>?_⟩ (by show(m:Int).toNat<((m:Int)+1).toNat;omega) rfl cr);by_cases e:j=m
   ·subst e;omega
   ·exact U8 j jB h3
 ·have YZ:b=true:=hb.1 fun j hj=>U8 j jB hj
  subst YZ;refine S ?_
  (have W:=h0;repeat' (first|refine aq fun K hK=>?_|refine ak ?_|(refine hK _ _ ?_;clear hK K)|(refine ao ?_ ?_<;>intro hc<;>try exact jz)|refine Vb _ _ ?_|refine ap ?_|exact jI|(clear hK K)))
  (refine aW [.tmp 4] ?_;try simp only[go_sem])
def Ik(E:List az)(hl:E.length<=1000):aB prog 57 [aM bv 5 E] (rB (decide (vP E))):=by
 have h:=Pb E hl;generalize decide (vP E)=b at*;refine bF func57 ntmps57 ?_
 (repeat' (first|refine aq fun K hK=>?_|refine ak ?_|(refine hK _ _ ?_;clear hK K)|(refine ao ?_ ?_<;>intro hc<;>try exact jz)|refine cp (h) ?_|refine ap ?_|exact jI|(clear hK K)))
 (refine aW [.tmp 2] ?_;try simp only[go_sem])
end Go.Proofs.YtijdhbokcdpklaaGreatDoor
namespace Go.Proofs.YtijdhbokcdpklaaGreatDoor
open Go Go.Gd Tryz Go.Gd.MV
def LJ{x:az}(h:jS x=true):aB prog 59 [.agg (bv x)] (rB false):=by
 have h1:=Dh x;rw[h]at h1;refine bF func59 ntmps59 ?_
 (repeat' (first|refine aq fun K hK=>?_|refine ak ?_|(refine hK _ _ ?_;clear hK K)|(refine ao ?_ ?_<;>intro hc<;>try exact jz)|refine aV 1 ?_|refine cp (h1) ?_|refine ap ?_|exact jI|(clear hK K)))
 (refine aW [.tmp 2] ?_;try simp only[go_sem])
def T0(L:List az)(hL:L.length<=1000)(h:∀x∈L,jS x=true):aB prog 85 [aM bv 5 L,.raw (.func (.func 59) #[] #[])] (rI (-1)):=by
 refine bF func85 ntmps85 ?_
 (repeat' (first|refine aq fun K hK=>?_|refine ak ?_|(refine hK _ _ ?_;clear hK K)|(refine ao ?_ ?_<;>intro hc<;>try exact jz)|refine ap ?_|exact jI|(clear hK K)))
 have Vb:=hK;clear hK;refine ee (S:=Nat) [(4,2),(8,11)] (fun k=>k<=L.length) (fun k=>[(8,rI k)]) (fun _=>⟨[],[]⟩) (fun k=>L.length-k) 0 (Nat.zero_le _) (dZ rfl cr) ?_;rintro k hk Kr U5;by_cases I':k<L.length
 ·have U7:=LJ (h _ (fa I'));refine S ?_
  (have W:=I';repeat' (first|refine aq fun K hK=>?_|refine ak ?_|(refine hK _ _ ?_;clear hK K)|(refine ao ?_ ?_<;>intro hc<;>try exact jz)|refine cp (U7) ?_|refine ap ?_|exact jI|(clear hK K)))
  exact U5 _ _ (dY (k+1) jB (by show L.length-(k+1)<L.length-k;omega) rfl cr)
 ·(refine S ?_;try exact jI)
  (have W:=I';repeat' (first|refine aq fun K hK=>?_|refine ak ?_|(refine hK _ _ ?_;clear hK K)|(refine ao ?_ ?_<;>intro hc<;>try exact jz)|refine Vb _ _ ?_|refine ap ?_|exact jI|(clear hK K)))
  (refine aW [.tmp 4] ?_;try simp only[go_sem])
def Hu(L:List az)(hL:L.length<=1000)(h:∀x∈L,jS x=true):aB prog 58 [aM bv 5 L,.raw (.func (.func 59) #[] #[])] (rB false):=by
 have h1:=T0 L hL h;refine bF func58 ntmps58 ?_
 (repeat' (first|refine aq fun K hK=>?_|refine ak ?_|(refine hK _ _ ?_;clear hK K)|(refine ao ?_ ?_<;>intro hc<;>try exact jz)|refine cp (h1) ?_|refine ap ?_|exact jI|(clear hK K)))
 (refine aW [.tmp 4] ?_;try simp only[go_sem])
def Te(b o:List az)(hb:b.length+o.length<=8)(sb:ji b)(so:ji o)(mb:∀x∈b,jS x=true)(mo:∀x∈o,jS x=true):aB prog 36 [.sl true 1 [[aM bv 5 b],[aM bv 5 o]] []] (rB true):=by
 have h1:=Ik b jB;have h2:=Ik o jB;rw[decide_eq_true (Cw _ sb)]at h1;rw[decide_eq_true (Cw _ so)]at h2;have h3:=Hu b jB mb;have h4:=Hu o jB mo;have h8:(b.length:Int)+o.length<=8:=jB;refine bF func36 ntmps36 ?_
 (repeat' (first|refine aq fun K hK=>?_|refine ak ?_|(refine hK _ _ ?_;clear hK K)|(refine ao ?_ ?_<;>intro hc<;>try exact jz)|refine ap ?_|exact jI|(clear hK K)))
 have Vb:=hK;clear hK;refine ee (S:=Nat) [(2,2),(5,1),(8,16)] (fun k=>k<=2) (fun k=>[(8,rI k),(3,rI (if k=0 then 0 else if k=1 then(b.length:Int)else(b.length:Int)+o.length))]) (fun _=>⟨[],[]⟩) (fun k=>2-k) 0 jC (dZ rfl cr) ?_;rintro k hk Kr U5;obtain rfl|rfl|rfl:k=0\/k=1\/k=2:=jB
 ·(refine S ?_;try exact jI)
  (repeat' (first|(with_reducible refine gR 6 ?_);refine sS [] ?_|refine aq fun K hK=>?_|refine ak ?_|(refine hK _ _ ?_;clear hK K)|(refine ao ?_ ?_<;>intro hc<;>try exact jz)|refine cp (h1) ?_|refine cq (h3) ?_|refine ap ?_|exact jI|(clear hK K)))
  exact U5 _ _ (dY 1 jC jC rfl cr)
 ·(refine S ?_;try exact jI)
  (repeat' (first|(with_reducible refine gR 6 ?_);refine sS [] ?_|refine aq fun K hK=>?_|refine ak ?_|(refine hK _ _ ?_;clear hK K)|(refine ao ?_ ?_<;>intro hc<;>try exact jz)|refine cp (h2) ?_|refine cq (h4) ?_|refine ap ?_|exact jI|(clear hK K)))
  exact U5 _ _ (dY 2 jC jC rfl cr)
 ·(refine S ?_;try exact jI)
  (have W:=h8;repeat' (first|refine aq fun K hK=>?_|refine ak ?_|(refine hK _ _ ?_;clear hK K)|(refine ao ?_ ?_<;>intro hc<;>try exact jz)|refine Vb _ _ ?_|refine ap ?_|exact jI|(clear hK K)))
  (refine aW [.tmp 2] ?_;try simp only[go_sem])
section
variable {p:af}(hp:mf p)(U7:fg p){F:UP->MV->MV}(hF:bH p (bA p) F)
include hp U7 hF
theorem NV{w:aU}(h:WI p F w):aB prog 17 [.agg (cf p),.agg (cL w)] (rB true):=by
 have hl8:¬(w.l.length:Int)>8:=by have:=h.j.l8;omega
 have Wu:¬w.cur<0:=by have:=h.j.c0;omega
 have Vn:¬w.cur >= (w.l.length:Int):=by have:=h.j.c1;omega
 have hbD:=h.j.c0;have hbF:=h.j.c1;have ht0:¬w.time<0:=by have:=h.j.t0;omega
 have XM:¬w.time>200:=by have:=h.j.t1;omega
 have VU:=h.j.ok.ln;have YL:=BY hp U7 hF h.j.cb.w.ok w.time h.j.ok.t;rw[h.co]at YL;unfold curB at YL;refine bF func17 ntmps17 ?_
 (have W:=jA hl8 (jA Wu (jA Vn (jA ht0 (XM))));repeat' (first|refine aq fun K hK=>?_|refine ak ?_|(refine hK _ _ ?_;clear hK K)|(refine ao ?_ ?_<;>intro hc<;>try exact jz)|refine aV 2 ?_|refine aV 3 ?_|refine ap ?_|exact jI|(clear hK K)))
 have Vb:=hK;clear hK;refine ee (S:=Nat) [(4,3),(37,40)] (fun k=>k<=w.l.length) (fun k=>[(37,rI k)]) (fun _=>⟨[],[(2,.var 30 (cf p)),(3,.var 37 (cL w))]⟩) (fun k=>w.l.length-k) 0 (Nat.zero_le _) (dZ rfl cr) ?_;rintro k hk Kr U5;by_cases I':k<w.l.length
 ·have hb:=h.j.b k I';have h1:=yY (nth w.l k).name;rw[hb.nm]at h1;have h2:=o0 w (nth w.l k).name jB;rw[h.j.un.find I']at h2;have h3:¬((nth w.l k).aD.length:Int)>16:=by have:=hb.w.i16;omega
  have h4:=Te (nth w.l k).base (nth w.l k).own hb.w.s8 hb.s hb.so hb.mb hb.mo;have h5:=tP hb.w.ok;have h6:=H6 hp U7 hF (inp:=(nth w.l k).aD) (by have:=hb.w.i16;omega) hb.w.ok.inr (E:=dr (nth w.l k)) hb.w.ok.fq (by have:=hb.w.re;omega);rw[show badM p F (nth w.l k).aD (dr (nth w.l k)) 200=0 from hb.bad]at h6;refine S ?_
  (have W:=jA I' h3;repeat' (first|(with_reducible refine gR 6 ?_);refine sT [] 23 ?_|refine aq fun K hK=>?_|refine ak ?_|(with_reducible refine gR 8 ?_);refine dC 8 ([],[73,74],[]) [] (ba 0 7) mixed ?_|(refine hK _ _ ?_;clear hK K)|(refine ao ?_ ?_<;>intro hc<;>try exact jz)|refine cC 6 ?_|refine cp (h1) ?_|refine cq (h2) ?_|refine cq (h4) ?_|refine cq (h5) ?_|refine cq (h6) ?_|refine ap ?_|exact jI|(clear hK K)))
  refine U5 _ _ (po [6] (k+1) jB (by show w.l.length-(k+1)<w.l.length-k;omega) rfl Sd (by rfl) jo)
 ·(refine S ?_;try exact jI)
  (have W:=jA I' (jA hbD (hbF));repeat' (first|refine aq fun K hK=>?_|refine ak ?_|(with_reducible refine gR 11 ?_);refine dC 11 ([],[86],[]) [] (ba 0 14) mixed ?_|(refine hK _ _ ?_;clear hK K)|(refine ao ?_ ?_<;>intro hc<;>try exact jz)|refine cq (YL) ?_|refine Vb _ _ ?_|refine ap ?_|exact jI|(clear hK K)))
  (refine aW [.tmp 4] ?_;try simp only[go_sem])
end
section
variable {p:af}(hs:gi p){F:UP->MV->MV}(hF:bH p (bA p) F){w:aU}(h:jh w)
include h
include hs hF
omit h hs hF in
theorem PW:jh sO:=⟨jC,jC,jC,fun k hk=>by have hk:k<1:=hk;obtain rfl:k=0:=jB;exact⟨⟨jC,jC,jC,fun x hx=>(by cases hx),fun x hx=>(by cases hx),fun x hx=>(by cases hx)⟩,jC,jC⟩,⟨jC,jC⟩⟩
omit h in
end
def zS(p:af)(inp:UP)(m:MV):Option MV:=
 if m.status=2\/m.status=3 then some m
 else if(pu p (bA p) inp 50 m.eH).dF (bA p)then some (pu p (bA p) inp 50 m.eH).fD else none
def zy(p:af)(inp:UP)(E:List az)(T:Int):Nat->MV->Nat->Bool->Option (MV×Nat×Bool)
 |0,m,k,b=>some (m,k,b)
 |n+1,m,k,b=>
  if(cz MV.time (dw p (bA p)) E (E.length+1) m k b).1.time=T then some (cz MV.time (dw p (bA p)) E (E.length+1) m k b)
  else match zS p inp (cz MV.time (dw p (bA p)) E (E.length+1) m k b).1 with
   |none=>none
   |some m'=>if m'.time=(cz MV.time (dw p (bA p)) E (E.length+1) m k b).1.time then some (m',(cz MV.time (dw p (bA p)) E (E.length+1) m k b).2)
    else zy p inp E T n m' (cz MV.time (dw p (bA p)) E (E.length+1) m k b).2.1 (cz MV.time (dw p (bA p)) E (E.length+1) m k b).2.2
def tF(p:af)(inp:UP)(E:List az)(t:Int):Option (MV×Nat×Bool):=
 if(pu p (bA p) [] 50 (l4 p (bA p))).dF (bA p)then zy p inp E (dM t) ((dM t-(pu p (bA p) [] 50 (l4 p (bA p))).time).toNat+1) (pu p (bA p) [] 50 (l4 p (bA p))) 0 false else none
section
variable {p:af}{F:UP->MV->MV}(hF:bH p (bA p) F){inp:UP}(hi:∀x∈inp,bE x){E:List az}(hE:∀k,k<E.length->bE (nth E k).v.n)
include hF hi
theorem NB{m m':MV}(h:IM p inp m)(e:zS p inp m=some m'):F inp m=m':=by
 unfold zS at e;split at e
 ·rename_i c;cases e;exact hF.still _ _ c
 rename_i c;split at e
 ·rename_i d;cases e;exact Nk hF hi h.mi c 50 d
 ·cases e
include hE
theorem EU{T:Int}(hT:T<=200):∀(n:Nat) (m:MV) (k:Nat) (b:Bool) {r:MV×Nat×Bool},IM p inp m->m.time<=T->zy p inp E T n m k b=some r->da MV.time (F inp) (dw p (bA p)) E T n m k b=r
 |0,m,k,b,r,_,_,e=>by cases e;rfl
 |n+1,m,k,b,r,h,ht,e=>by
  obtain⟨a1,a2,_⟩:=nw (mS hF hi hE) (E.length+1) m k b h;unfold zy at e;unfold da;generalize cz MV.time (dw p (bA p)) E (E.length+1) m k b=Q at*;by_cases c:Q.1.time=T
  ·rw[if_pos c]at e ⊢;cases e;rfl
  rw[if_neg c]at e ⊢;cases P':zS p inp Q.1 with
  |none=>rw[P']at e;cases e
  |some m'=>
   rw[P']at e;have hs:=NB hF hi a1 P';obtain⟨c1,c2⟩:=pq hF hi a1;rw[hs]at c1 c2 ⊢;simp only at e;by_cases d:m'.time=Q.1.time
   ·rw[if_pos d]at e ⊢;cases e;rfl
   ·rw[if_neg d]at e ⊢;exact EU hT n m' Q.2.1 Q.2.2 c1 (by rcases c2 with e|⟨e,_⟩<;>omega) e
theorem Ia(hs:gi p){t:Int}{r:MV×Nat×Bool}(e:tF p inp E t=some r):runM p F inp E t=r:=by
 obtain⟨m1,⟨n,hg⟩,P',_⟩:=BF hs (yd hs) [];unfold tF at e;split at e
 ·rename_i c;have em:=JW hg P' 50 c;have e0:=yE ⟨n,hg⟩ P';obtain⟨a,b,_⟩:=pX hs inp;obtain⟨c0,c1⟩:=yJ t;rw[em,<-e0]at e;unfold runM;exact EU hF hi hE c1 _ _ 0 false a jB e
 ·cases e
end
def wx:UR:=(⟨#[102,110,32,109,97,105,110,40,41,123,108,101,116,32,97,61,49,59,112,114,105,110,116,32,97,59,125]⟩:UR)
def eX:az:=⟨1,(⟨#[97]⟩:UR),⟨1,5,⟨#[]⟩⟩⟩
def CE:(fZ wx).2.2=0:=by decide +kernel
def RJ:(tF (fZ wx).1 [] [] 1).map (fun r=>r.1.time)=some 1:=by decide +kernel
def Ma:(tF (fZ wx).1 [] [eX] 200).map (fun r=>l5 [eX] 200 r)=some 0:=by decide +kernel
def Tg:(tF (fZ wx).1 [] [eX] 2).map (fun r=>r.1.bC)=some [(⟨#[53]⟩:UR)]:=by decide +kernel
def Ri:∃p x,fZ wx=(p,x,0)/\mf p/\fg p/\∃r1 r2 r3,tF p [] [] 1=some r1/\r1.1.time=1/\tF p [] [eX] 200=some r2/\l5 [eX] 200 r2=0/\tF p [] [eX] 2=some r3/\r3.1.bC=[(⟨#[53]⟩:UR)]:=by obtain⟨r1,a1,b1⟩:=Option.map_eq_some_iff.1 RJ;obtain⟨r2,a2,b2⟩:=Option.map_eq_some_iff.1 Ma;obtain⟨r3,a3,b3⟩:=Option.map_eq_some_iff.1 Tg;exact⟨_,_,by rw[<-CE],Cd CE,A0 CE,r1,r2,r3,a1,b1,a2,b2,a3,b3⟩
def y0:aB prog 5 [] (rB true):=by
 obtain⟨p,x,e,hp,U7,r1,r2,r3,a1,b1,a2,b2,a3,b3⟩:=Ri;have hs:=Dl wx jC;rw[e]at hs;obtain⟨F,hF⟩:=B0 hp.ok;have hi:∀x∈([]:UP),bE x:=fun x hx=>by cases hx
 have he0:∀k,k<([]:List az).length->bE (nth ([]:List az) k).v.n:=fun k hk=>by simp at hk
 have XK:∀k,k < [eX].length->bE (nth [eX] k).v.n:=fun k hk=>by
  have:k=0:=by simpa using hk
  subst this;exact⟨jC,jC⟩
 have q1:=Ia hF hi he0 hp.ok a1;have q2:=Ia hF hi XK hp.ok a2;have hw0:=PW;have Vn:comesB p F (curB sO) 1=1:=by show(runM p F [] [] 1).1.time=1;rw[q1];exact b1
 have g1:goW p F sO 1=(⟨[⟨(⟨#[109,97,105,110]⟩:UR),[],[],[]⟩],0,1⟩,0):=by unfold goW;rw[Vn,if_neg jC];rfl
 have hg:=Kx hp U7 hF hw0 1 ⟨jC,jC⟩;have hw1:jh ⟨[⟨(⟨#[109,97,105,110]⟩:UR),[],[],[]⟩],0,1⟩:=⟨jC,jC,jC,hw0.b,⟨jC,jC⟩⟩;rw[g1]at hg;have hfk:forkB p F (fl (⟨#[98]⟩:UR)) (curB ⟨[⟨(⟨#[109,97,105,110]⟩:UR),[],[],[]⟩],0,1⟩) (⟨#[98]⟩:UR) ⟨1,(⟨#[97]⟩:UR),⟨1,5,⟨#[]⟩⟩⟩=(⟨(⟨#[98]⟩:UR),[],[],[eX]⟩,0):=by
  have h1:fl (⟨#[98]⟩:UR)=true:=jC;have h2:jS eX=true:=jC;have h3:(atB p F ⟨(⟨#[109,97,105,110]⟩:UR),[],[],[]⟩ 1).time=1:=by show(runM p F [] [] 1).1.time=1;rw[q1];exact b1
  have h4:badB p F ⟨(⟨#[98]⟩:UR),[],[],[eX]⟩=0:=by show l5 [eX] (dM 200) (runM p F [] [eX] 200)=0;rw[q2];exact b2
  show forkB p F (fl (⟨#[98]⟩:UR)) ⟨(⟨#[109,97,105,110]⟩:UR),[],[],[]⟩ (⟨#[98]⟩:UR) eX=_;unfold forkB;rw[h1,h2,if_neg jC];show(if(atB p F ⟨(⟨#[109,97,105,110]⟩:UR),[],[],[]⟩ 1).time<1 then _ else _)=_;rw[h3,if_neg jC,if_neg jC];show fineB p F ⟨(⟨#[98]⟩:UR),[],[],[eX]⟩=_;unfold fineB;rw[h4,if_neg (fun h=>h rfl)]
 have hf:=Im hp U7 hF hw1 (⟨#[98]⟩:UR) (⟨#[97]⟩:UR) (v:=⟨1,5,⟨#[]⟩⟩) ⟨jC,jC⟩;have g2:forkW p F ⟨[⟨(⟨#[109,97,105,110]⟩:UR),[],[],[]⟩],0,1⟩ (⟨#[98]⟩:UR) (⟨#[97]⟩:UR) ⟨1,5,⟨#[]⟩⟩=(⟨[⟨(⟨#[109,97,105,110]⟩:UR),[],[],[]⟩,⟨(⟨#[98]⟩:UR),[],[],[eX]⟩],1,1⟩,0):=by have Zv:dp (⟨#[98]⟩:UR) [⟨(⟨#[109,97,105,110]⟩:UR),[],[],[]⟩] 0=-1:=jC;unfold forkW pY;simp only;rw[hfk,Zv];rfl
 rw[g2]at hf;have ZG:aB prog 8 [] (.agg (cL sO)):=C1;refine bF func5 ntmps5 ?_
 (repeat' (first|refine aq fun K hK=>?_|refine ak ?_|(with_reducible refine gR 2 ?_);refine dC 2 ([],[],[15,16]) [6] (ba 0 9) mixed ?_|(refine hK _ _ ?_;clear hK K)|(refine ao ?_ ?_<;>intro hc<;>try exact jz)|refine cC 1 ?_|refine cC 4 ?_|refine cC 6 ?_|refine cp (hs) ?_|refine cN ZG ?_|refine cN hg ?_|refine cp (hf) ?_|refine ap ?_|exact jI|(clear hK K)))
 (refine aW [.tmp 0] ?_;try simp only[go_sem])
def HH(s:UR)(l:List mF)(nm0:UR)(a:Int)(hl:∀x∈l,OR x)(ha:0<=a/\a<256){nm:UR}(Vd:(20<nm0.size/\nm=nm0.extract 0 20)\/(¬20<nm0.size/\nm=nm0))(Vr:fl nm=false):aB prog 4 [rS s,aM gV 7 l,.agg [rS nm0,.raw (.int .u8 a)]] (rB true):=by
 have hs:=Dl (o5 s) (JM s);have hok:=@Cd (o5 s);have X4:=@A0 (o5 s);generalize fZ (o5 s)=R at hs hok X4;obtain⟨p,x,e⟩:=R;simp only at hs hok X4;by_cases he:e=0
 rotate_left
 ·refine bF func4 ntmps4 ?_
  (have W:=he;repeat' (first|refine aq fun K hK=>?_|refine ak ?_|(refine hK _ _ ?_;clear hK K)|(refine ao ?_ ?_<;>intro hc<;>try exact jz)|refine cp (y0) ?_|refine cp (yL _) ?_|refine aV 5 ?_|refine cC 8 ?_|refine cp (hs) ?_|refine ap ?_|exact jI|(clear hK K)))
  (refine aW [.tmp 6] ?_;try simp only[go_sem])
 have hp:mf p:=hok he;have U7:fg p:=X4 he;obtain⟨F,hF⟩:=B0 hp.ok;have hW:=DU hp.ok hF (l:=l) fun x hx=>⟨(hl x hx).n,(hl x hx).v⟩
 have hD:∀k,k<l.length->aB prog 9 [.agg (cf p),.agg (cL (woodsW p F l k)),.agg (gV (oP (nth l k)))] (.aQ [.agg (cL (woodsW p F l (k+1))),rI (doesW p F (woodsW p F l k) (oP (nth l k))).2.1,rI (doesW p F (woodsW p F l k) (oP (nth l k))).2.2]):=fun k hk=>by have hx:=hl _ (fa hk);exact FO hp U7 hF (hW k jB).j.ok (oP (nth l k)) hx.k0 hx.n hx.v
 have ZG:aB prog 8 [] (.agg (cL (woodsW p F l 0))):=C1;have hZ:∀k,k<=l.length->∃w,w=woodsW p F l k/\WI p F w:=fun k hk=>⟨_,rfl,hW k hk⟩
 generalize woodsW p F l=Wl at*;refine bF func4 ntmps4 ?_
 (have W:=he;repeat' (first|refine aq fun K hK=>?_|refine ak ?_|(refine hK _ _ ?_;clear hK K)|(refine ao ?_ ?_<;>intro hc<;>try exact jz)|refine cp (y0) ?_|refine cp (yL _) ?_|refine aV 5 ?_|refine cC 8 ?_|refine cC 11 ?_|refine cp (hs) ?_|refine cp (ZG) ?_|refine ap ?_|exact jI|(clear hK K)))
 have Vb:=hK;clear hK;refine ee (S:=Nat) [(12,1),(34,22)] (fun k=>k<=l.length/\k<=16) (fun k=>[(12,rI k)]) (fun k=>⟨[],[(5,.var 56 [rS nm0,.raw (.int .u8 a)]),(8,.var 30 (cf p)),(11,.var 37 (cL (Wl k)))]⟩) (fun k=>16-k) 0 ⟨Nat.zero_le _,Nat.zero_le _⟩ (dZ rfl cr) ?_;rintro k ⟨hk,Vc⟩ Kr U5;by_cases I':k<l.length/\k<16
 ·obtain⟨h1,h2⟩:=I';have ho:=HQ (nth l k);have hd:=hD k h1;refine S ?_
  (have W:=jA h1 h2;repeat' (first|refine aq fun K hK=>?_|refine ak ?_|(with_reducible refine gR 9 ?_);refine dC 9 ([],[51,52],[]) [] (ba 0 13) mixed ?_|(refine hK _ _ ?_;clear hK K)|(refine ao ?_ ?_<;>intro hc<;>try exact jz)|refine cq (ho) ?_|refine cq (hd) ?_|refine ap ?_|exact jI|(clear hK K)))
  exact U5 _ _ (dY (k+1) ⟨jB,jB⟩ (by show 16-(k+1)<16-k;omega) rfl cr)
 have hex:((k<l.length)=False)\/((k<l.length)=True/\(k<16)=False):=by
  by_cases c:k<l.length
  ·exact .inr ⟨eq_true c,eq_false jB⟩
  ·exact .inl (eq_false c)
 obtain⟨w,hw,hI⟩:=hZ k hk;rw[<-hw];clear hD hZ hW ZG;have hSm:=F1 hI.j.ok;have Vn:=hI.j.c1;have Wu:=hI.j.c0;have hlp:0<w.l.length:=jB;have Ws:¬w.l.length=0:=jB;have VU:=hI.j.ok.ln;obtain⟨n,hn,hna⟩:∃n:Nat,n<w.l.length/\a.tmod (w.l.length:Int)=(n:Int):=by rw[Int.tmod_eq_emod_of_nonneg ha.1];have h1:=Int.emod_nonneg a (b:=(w.l.length:Int)) jB;have h2:=Int.emod_lt_of_pos a (b:=(w.l.length:Int)) jB;exact⟨(a % (w.l.length:Int)).toNat,jB,jB⟩
 have hr:=yT hI.j.ok (nth w.l n).name nm;have VY:=o0 w nm jB;have g:ng (fl nm) w (nth w.l n).name nm=(w,1):=by unfold ng;rw[hI.j.un.find hn,jN,if_pos Vr]
 rw[g]at hr;simp only at hr;rcases Vd with⟨c,e1⟩|⟨c,e1⟩
 all_goals
  rw[e1]at hr;rcases hex with h1|h1
  all_goals
   refine S ?_
   (have W:=jA h1 (jA Ws (jA hna (jA hn (c))));repeat' (first|(with_reducible refine gR 20 ?_);refine sS [] ?_|refine aq fun K hK=>?_|refine ak ?_|(refine hK _ _ ?_;clear hK K)|(refine ao ?_ ?_<;>intro hc<;>try exact jz)|refine cC 16 ?_|refine cp (hr) ?_|refine cp (hSm) ?_|refine⟨rI 0,?_⟩|refine Vb _ _ ?_|refine ap ?_|exact jI|(clear hK K)))
   (refine aW [.tmp 6] ?_;try simp only[go_sem])
def S1(s:UR)(l:List mF)(nm0:UR)(a:Int)(hl:∀x∈l,OR x)(ha:0<=a/\a<256)(c:¬20<nm0.size)(Vr:fl nm0=true):aB prog 4 [rS s,aM gV 7 l,.agg [rS nm0,.raw (.int .u8 a)]] (rB true):=by
 have hs:=Dl (o5 s) (JM s);have hok:=@Cd (o5 s);have X4:=@A0 (o5 s);generalize fZ (o5 s)=R at hs hok X4;obtain⟨p,x,e⟩:=R;simp only at hs hok X4;by_cases he:e=0
 rotate_left
 ·refine bF func4 ntmps4 ?_
  (have W:=he;repeat' (first|refine aq fun K hK=>?_|refine ak ?_|(refine hK _ _ ?_;clear hK K)|(refine ao ?_ ?_<;>intro hc<;>try exact jz)|refine cp (y0) ?_|refine cp (yL _) ?_|refine aV 5 ?_|refine cC 8 ?_|refine cp (hs) ?_|refine ap ?_|exact jI|(clear hK K)))
  (refine aW [.tmp 6] ?_;try simp only[go_sem])
 have hp:mf p:=hok he;have U7:fg p:=X4 he;obtain⟨F,hF⟩:=B0 hp.ok;have hW:=DU hp.ok hF (l:=l) fun x hx=>⟨(hl x hx).n,(hl x hx).v⟩
 have hD:∀k,k<l.length->aB prog 9 [.agg (cf p),.agg (cL (woodsW p F l k)),.agg (gV (oP (nth l k)))] (.aQ [.agg (cL (woodsW p F l (k+1))),rI (doesW p F (woodsW p F l k) (oP (nth l k))).2.1,rI (doesW p F (woodsW p F l k) (oP (nth l k))).2.2]):=fun k hk=>by have hx:=hl _ (fa hk);exact FO hp U7 hF (hW k jB).j.ok (oP (nth l k)) hx.k0 hx.n hx.v
 have ZG:aB prog 8 [] (.agg (cL (woodsW p F l 0))):=C1;have hZ:∀k,k<=l.length->∃w,w=woodsW p F l k/\WI p F w:=fun k hk=>⟨_,rfl,hW k hk⟩
 generalize woodsW p F l=Wl at*;refine bF func4 ntmps4 ?_
 (have W:=he;repeat' (first|refine aq fun K hK=>?_|refine ak ?_|(refine hK _ _ ?_;clear hK K)|(refine ao ?_ ?_<;>intro hc<;>try exact jz)|refine cp (y0) ?_|refine cp (yL _) ?_|refine aV 5 ?_|refine cC 8 ?_|refine cC 11 ?_|refine cp (hs) ?_|refine cp (ZG) ?_|refine ap ?_|exact jI|(clear hK K)))
 have Vb:=hK;clear hK;refine ee (S:=Nat) [(12,1),(34,22)] (fun k=>k<=l.length/\k<=16) (fun k=>[(12,rI k)]) (fun k=>⟨[],[(5,.var 56 [rS nm0,.raw (.int .u8 a)]),(8,.var 30 (cf p)),(11,.var 37 (cL (Wl k)))]⟩) (fun k=>16-k) 0 ⟨Nat.zero_le _,Nat.zero_le _⟩ (dZ rfl cr) ?_;rintro k ⟨hk,Vc⟩ Kr U5;by_cases I':k<l.length/\k<16
 ·obtain⟨h1,h2⟩:=I';have ho:=HQ (nth l k);have hd:=hD k h1;refine S ?_
  (have W:=jA h1 h2;repeat' (first|refine aq fun K hK=>?_|refine ak ?_|(with_reducible refine gR 9 ?_);refine dC 9 ([],[51,52],[]) [] (ba 0 13) mixed ?_|(refine hK _ _ ?_;clear hK K)|(refine ao ?_ ?_<;>intro hc<;>try exact jz)|refine cq (ho) ?_|refine cq (hd) ?_|refine ap ?_|exact jI|(clear hK K)))
  exact U5 _ _ (dY (k+1) ⟨jB,jB⟩ (by show 16-(k+1)<16-k;omega) rfl cr)
 have hex:((k<l.length)=False)\/((k<l.length)=True/\(k<16)=False):=by
  by_cases c:k<l.length
  ·exact .inr ⟨eq_true c,eq_false jB⟩
  ·exact .inl (eq_false c)
 obtain⟨w,hw,hI⟩:=hZ k hk;rw[<-hw];clear hD hZ hW ZG;have hSm:=F1 hI.j.ok;have Vn:=hI.j.c1;have Wu:=hI.j.c0;have hlp:0<w.l.length:=jB;have Ws:¬w.l.length=0:=jB;have VU:=hI.j.ok.ln;obtain⟨n,hn,hna⟩:∃n:Nat,n<w.l.length/\a.tmod (w.l.length:Int)=(n:Int):=by rw[Int.tmod_eq_emod_of_nonneg ha.1];have h1:=Int.emod_nonneg a (b:=(w.l.length:Int)) jB;have h2:=Int.emod_lt_of_pos a (b:=(w.l.length:Int)) jB;exact⟨(a % (w.l.length:Int)).toNat,jB,jB⟩
 have hr:=yT hI.j.ok (nth w.l n).name nm0;have VY:=o0 w nm0 jB;by_cases hz:dp nm0 w.l 0<0
 rotate_left
 ·have g:ng (fl nm0) w (nth w.l n).name nm0=(w,61):=by
   unfold ng;rw[hI.j.un.find hn,jN,Vr,if_neg jC,jP]
  have Vz:dp nm0 w.l 0 >= 0:=jB;rw[g]at hr;simp only at hr;generalize dp nm0 w.l 0=fz at*;rcases hex with h1|h1
  all_goals
   refine S ?_
   (have W:=jA h1 (jA Ws (jA hna (jA hn (jA c (Vz)))));repeat' (first|(with_reducible refine gR 20 ?_);refine sS [] ?_|refine aq fun K hK=>?_|refine ak ?_|(refine hK _ _ ?_;clear hK K)|(refine ao ?_ ?_<;>intro hc<;>try exact jz)|refine cC 16 ?_|refine cp (hr) ?_|refine cp (hSm) ?_|refine cq (VY) ?_|refine Vb _ _ ?_|refine ap ?_|exact jI|(clear hK K)))
   (refine aW [.tmp 6] ?_;try simp only[go_sem])
 ·obtain⟨g1,g2,g3,g4⟩:=RD hI.j.un hn (hI.j.b n hn).nm Vr hz;have hY:WI p F { w with l:=w.l.set n { nth w.l n with name:=nm0 } }:=by
   have:=H4 hp.ok hF hI (nth w.l n).name nm0;rw[g1]at this;exact this
  rw[g1]at hr;simp only at hr;have Xn:=yT hY.j.ok nm0 (nth w.l n).name;rw[g2]at Xn;simp only at Xn;have har:(w.l.set n { nth w.l n with name:=nm0 }).length<=1000:=by rw[List.length_set];omega
  have hf1:=o0 { w with l:=w.l.set n { nth w.l n with name:=nm0 } } nm0 har;have hf2:=o0 { w with l:=w.l.set n { nth w.l n with name:=nm0 } } (nth w.l n).name har;have haU:=NV hp U7 hF hY;simp only at hf1 hf2;rw[g3]at hf1;obtain⟨z2,YB⟩:∃z2,z2=dp (nth w.l n).name (w.l.set n { nth w.l n with name:=nm0 }) 0:=⟨_,rfl⟩;rw[<-YB]at hf2 g4;obtain⟨Y,hYe⟩:∃Y:aU,Y={ w with l:=w.l.set n { nth w.l n with name:=nm0 } }:=⟨_,rfl⟩;rw[<-hYe]at hr Xn hf1 hf2 haU;clear g1 g2 g3 hY hYe YB har VY Vr hz;rcases hex with h1|h1
  all_goals
   refine S ?_
   (have W:=jA h1 (jA Ws (jA hna (jA hn (jA c (g4)))));repeat' (first|(with_reducible refine gR 23 ?_);refine sS [] ?_|refine aq fun K hK=>?_|refine ak ?_|(refine hK _ _ ?_;clear hK K)|(refine ao ?_ ?_<;>intro hc<;>try exact jz)|refine cC 16 ?_|refine cC 19 ?_|refine cp (hr) ?_|refine cp (Xn) ?_|refine cp (hSm) ?_|refine cq (hf1) ?_|refine cq (hf2) ?_|refine cq (haU) ?_|refine Vb _ _ ?_|refine ap ?_|exact jI|(clear hK K)))
   (refine aW [.tmp 6] ?_;try simp only[go_sem])
def Uw{s:UR}(h:20<s.size):fl (s.extract 0 20)=false:=by
 unfold fl;have:¬(s.extract 0 20).size<=8:=by rw[ByteArray.size_extract];omega
 rw[decide_eq_false this];simp
def Lk(s:UR)(l:List mF)(x:UR×Int)(hl:∀x∈l,OR x)(hx:0<=x.2/\x.2<256):aB prog 4 [rS s,aM gV 7 l,.agg (AL x)] (rB true):=by
 by_cases c:20<x.1.size
 ·exact HH s l x.1 x.2 hl hx (.inl ⟨c,rfl⟩) (Uw c)
 ·cases hk:fl x.1
  ·exact HH s l x.1 x.2 hl hx (.inr ⟨c,rfl⟩) hk
  ·exact S1 s l x.1 x.2 hl hx c hk
end Go.Proofs.YtijdhbokcdpklaaGreatDoor