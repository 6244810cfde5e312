/- Lemmas. No conditions. -/
import Derived.Test.YtfkgcobaheegbaaGreatDoorVlS
set_option linter.all false
set_option maxHeartbeats 4000000
set_option maxRecDepth 10000
namespace Go.Proofs.YtfkgcobaheegbaaGreatDoor
open Go Go.Gd Tryz Go.Gd.MV
def u9:ByteArray:=(⟨#[102,110,32,109,97,105,110,40,41,123,112,114,105,110,116,32,49,59,112,114,105,110,116,32,50,59,125]⟩:ByteArray)
theorem B4:(ga u9).2.2=0:=by decide +kernel
theorem Nt:oF (ga u9).1 (oL (ga u9).1 [] 1)=⟨[⟨0,3,[]⟩],[],0,[(⟨#[49]⟩:ByteArray)],0,0,1⟩:=by decide +kernel
theorem I0:∃p x,ga u9=(p,x,0)/\iH p/\jb p/\oF p (oL p [] 1)=⟨[⟨0,3,[]⟩],[],0,[(⟨#[49]⟩:ByteArray)],0,0,1⟩:=
 ⟨_,_,by rw[<-B4],DF B4,GZ B4,Nt⟩
theorem DE:dV prog 32 [] (rB true):=by
 obtain⟨p,x,e,hw,hp,hl⟩:=I0;have hs:=EE u9 jC;rw[e]at hs;obtain⟨m,N,l,hR,_,hS,hb,hnw⟩:=Ep hw hp [] [];have hv:=zt hw [];obtain⟨m',hS',hb',N',l',⟨hR',hk'⟩,hU,hst⟩:=Gw hw jC (fun x hx=>by cases hx) (n:=0) jC hv hR hS hb [];have hv1:=zq hw jC (fun x hx=>by cases hx) hv;have hst:=hst.args (args:=[mP N,.raw (.slice none 0 0)]) (fun w vs hw hv=>tu hv (fun _ h=>h) fun us hu=>tu hu (By 1 _) (fun _ h=>h)) (o6 hR rfl);have hse:=Hw hR' (CT hw.ok (rc hw.ok) hv1.fD.inv hS' hv1.q.none);rw[EQ hw.ok (rc hw.ok) hv1.fD.inv hS' hv1.q.none,show hZ p (oi p) []=oL p [] 1 from rfl,hl]at hse;rw[show mP N'=mP N by unfold mP;rw[hk']]at hse;have hlo:=hR.ok.low;have hlo':=hR'.ok.low;refine eQ func32 ntmps32 ?_
 (have W:=jA hlo (hlo');repeat' (first|refine aA fun K hK=>?_|refine aC ?_|(refine hK _ _ ?_;clear hK K)|(refine aB ?_ ?_<;>intro hc<;>try exact jz)|refine lC 0 ?_|refine lC 1 ?_|refine cp (hs) ?_|refine Dv hnw hR.ok ?_|refine cT hst ?_|refine cT hse ?_|refine az ?_|exact jI|(clear hK K)));all_goals(try clear W)
 exact Cq [.tmp 0] rfl (.same _ rfl)
structure LS where
 i:Nat
 m:MV
 N:NM
 e:List (Nat×Row)
end Go.Proofs.YtfkgcobaheegbaaGreatDoor
namespace Go.Gd
open Go
theorem fS.mono{a b:Nat}{e:List (Nat×Row)}(h:fS a e)(hab:a<=b):fS b e:=⟨fun i hi h2=>h.no i jB h2,h.nodup,h.closed⟩
@[go_sem] theorem j3f(k a b:Nat):dO k (hn a b)=false:=decide_eq_false fun h=>by have:=hJ a b;omega
theorem zx{n:Nat}{S:Type}{W:List (Nat×Nat)}{ok:S->Prop}{J:S->List (Nat×AV)}{G:S->Hp}{μ:S->Nat}{F₀ F:List AV}{l tl tl0:List (Nat×Row)}(k:Nat)(k2:fS 0 l)(s:S)(h1:ok s)(h2:μ s<n)(hst:gz (dO k) tl)(hd:eo (dO k) tl=tl0)(hG:(⟨[],tie l tl0⟩:Hp)=G s)(h3:bZ (dO k) ⟨[],tie l tl⟩ F (mH (J s) (mB W F₀))):Next n W ok J G μ F₀ F ⟨[],tie l tl⟩:=by
 have k3:=k2.mono (Nat.zero_le k);refine Ah (dO k) s h1 h2 rfl (xK _ _ _ (yv _ _ k2.nodup fun i r hi=>fN (fun j hj=>?_) _ (k2.closed i r hi)) hst) ?_ h3
 ·unfold fy
  rw[k3.dO (List.contains_iff_mem.1 hj)];rfl
 ·rw[<-hG]
  show Hp.mk _ (eo (dO k) (l++tl))=Hp.mk _ (l++tl0);rw[yD,xD _ _ (fun i hi=>k3.dO hi),hd]
end Go.Gd
namespace Go.Proofs.YtfkgcobaheegbaaGreatDoor
open Go Go.Gd Tryz Go.Gd.MV
structure ni(p:ab)(last:Bool)(c:ja):Prop where
 n0:0<=c.node
 n1:c.node<p.aa.nodes.length
 f0:0<=c.fn
 f1:c.fn<p.size.length
 sl:(c.slots.length:Int)=nth p.size c.fn.toNat
 fn:nth p.fn c.node.toNat=c.fn
 k:10<=(nth p.aa.nodes c.node.toNat).kind/\(nth p.aa.nodes c.node.toNat).kind<=17
 call:last=false->(nth p.aa.nodes c.node.toNat).l.length=1/\0<=nth (nth p.aa.nodes c.node.toNat).l 0/\nth (nth p.aa.nodes c.node.toNat).l 0<p.aa.nodes.length/\(nth p.aa.nodes (nth (nth p.aa.nodes c.node.toNat).l 0).toNat).kind=21
variable{inp:List Int}
theorem Om{p:ab}(hw:iH p){n:Nat}{s:aK}(hv:lF p inp n s)(k:Nat)(hk:k<s.ao.length):ni p (decide (k=s.ao.length-1)) (qi p (nth s.ao k)):=by
 have hs:=hw.ok;have hI:=hv.fD.inv;have hf:dc p (nth s.ao k):=hI.inv.fr k hk;have hb:lH p (nth s.ao k):=by
  by_cases hk1:k+1<s.ao.length
  ·exact hI.inv.busy k hk1
  ·have:=hI.af (fun e=>by have:=hv.q.none e;omega)
   have ek:k=s.ao.length-1:=jB
   rw[ek];exact this
 have hft:=hv.wt.fr k hk;have hst:=((sK hw hf hft hb).1 0).fn;have f0:=hf.f0;have f1:=hf.f1;have hX:=hf.pl _ (lI hb.1);have ha0:=hX.a0;have hb2:=hb.2;have hm:bS p (nth s.ao k)∈dm p (nth s.ao k).pl.block:=dx jB;obtain⟨k0,k1,k2,k3⟩:=hX.aw hs f0 f1 hm;have hin:=hX.in_ hs f0 f1;have hnode:(qi p (nth s.ao k)).node=bS p (nth s.ao k):=rfl;have hsz:=hs.ok.size;unfold dv at k3;unfold bs at k3;have hlt:(bS p (nth s.ao k)).toNat<p.aa.nodes.length:=jB
 refine⟨by rw[hnode];exact k0,by rw[hnode];omega,f0,by show(nth s.ao k).fn<_;omega,hf.sl,by rw[hnode,hst];show(((nth s.ao k).fn.toNat:Nat):Int)=(nth s.ao k).fn;omega,by rw[hnode];omega,fun hla=>?_⟩;have hla:k≠s.ao.length-1:=of_decide_eq_false hla;obtain⟨c1,c2,_⟩:=hv.wt.link k (show k+1<s.ao.length from jB);rw[hnode];have hsh:=hs.ok.aa.shape _ hlt;have hone:∃y,(nth p.aa.nodes (bS p (nth s.ao k)).toNat).l=[y]:=by
  have c1:(nth p.aa.nodes (bS p (nth s.ao k)).toNat).kind=10\/(nth p.aa.nodes (bS p (nth s.ao k)).toNat).kind=11\/(nth p.aa.nodes (bS p (nth s.ao k)).toNat).kind=13:=c1;rcases c1 with h|h|h
  ·obtain⟨y,h1,_⟩:=hsh.1.right (.inl h);exact⟨y,h1⟩
  ·obtain⟨y,h1,_⟩:=hsh.1.right (.inr h);exact⟨y,h1⟩
  ·obtain⟨y,h1,_⟩:=hsh.1.mR h;exact⟨y,h1⟩
 obtain⟨y,hly⟩:=hone;have hy:=hsh.2.1 y (by rw[hly];simp);have e0:nth (nth p.aa.nodes (bS p (nth s.ao k)).toNat).l 0=y:=by rw[hly];rfl
 have c2:(nth p.aa.nodes (nth (nth p.aa.nodes (bS p (nth s.ao k)).toNat).l 0).toNat).kind=21:=c2;exact⟨by rw[hly];rfl,by rw[e0];omega,by rw[e0];omega,c2⟩
structure px(p:ab)(t:kS):Prop where
 calls:t.calls.length<=8
 out:t.ay.length<=24
 cells:fg t.heap<=40
 at_:∀k,k<t.calls.length->ni p (decide (k=t.calls.length-1)) (nth t.calls k)
theorem IH{p:ab}(hw:iH p){n:Nat}{s:aK}(hv:lF p inp n s):px p (oF p s):=by
 have hf:=Mw hw.ok hv.fD.inv;refine⟨hf.calls,hf.out,hv.fD.inv.cells,fun k hk=>?_⟩;have hk':k<s.ao.length:=by simpa[oF]using hk
 have e1:nth (oF p s).calls k=qi p (nth s.ao k):=by show nth (s.ao.map (qi p)) k=_;rw[KL _ hk']
 have e2:(oF p s).calls.length=s.ao.length:=by show(s.ao.map (qi p)).length=_;simp
 rw[e1,e2];exact Om hw hv k hk'
theorem IT(s:ByteArray)(inp:List Int)(a:Int)(hi:∀x∈inp,dj x)(ha:0<=a/\a<256):dV prog 11 [rS s,bt eI 1 inp,.raw (.int .u8 a)] (rB true):=by
 have hs:=EE (qL s) (Ku s);have hwk:=@DF (qL s);have hcm:=@GZ (qL s);obtain⟨n,hn,ea⟩:=Mu 101 jC ha;have ea:a.tmod 101=(n:Int):=ea;generalize ga (qL s)=R at hs hwk hcm;obtain⟨p,x,e⟩:=R;simp only at hs hwk hcm;by_cases he:e=0
 rotate_left
 ·refine eQ func11 ntmps11 ?_
  (have W:=he;repeat' (first|refine aA fun K hK=>?_|refine aC ?_|(with_reducible refine gR 19 ?_);refine dE 19 [0,1,2,3,4,5,6,7,8,9,10,11,12,13,14,15,16,17,18,19,20,21,22,23,24,25,26,27,28,29,30,31,32,33,34,35,36,37,38,39,40,41,42,43,44,45,46,47] mixed ?_|(with_reducible refine gR 22 ?_);refine dE 22 [0,1,2,3,4,5,6,7,8,9,10,11,12,13,14,15,16,17,18,19,20,21,22,23,24,25,26,27,28,29,30,31,32,33,34] mixed ?_|(refine hK _ _ ?_;clear hK K)|(refine aB ?_ ?_<;>intro hc<;>try exact jz)|refine cp (DE) ?_|refine cp (Hz _) ?_|refine al 0 ?_|refine cp (hs) ?_|(refine tJ ?_ ?_<;>intro hc<;>try exact jz)|refine az ?_|exact jI|(clear hK K)));all_goals(try clear W)
  (refine bH [.tmp 6] ?_;try simp only[go_sem])
 have hw:iH p:=hwk he;have hp:jb p:=hcm he;have hin:=MQ inp;have hir:=HE hi;have hl:(kZ inp).length<=1000:=jB
 obtain⟨m0,N0,l0,hR0,_,hS0,hb0,hnw⟩:=Ep hw hp [] (kZ inp);have hlo0:=hR0.ok.low;refine eQ func11 ntmps11 ?_
 (have W:=jA he hlo0;repeat' (first|(with_reducible refine gR 13 ?_);refine sS [] ?_|refine aA fun K hK=>?_|refine aC ?_|(with_reducible refine gR 19 ?_);refine dE 19 [0,1,2,3,4,5,6,7,8,9,10,11,12,13,14,15,16,17,18,19,20,21,22,23,24,25,26,27,28,29,30,31,32,33,34,35,36,37,38,39,40,41,42,43,44,45,46,47] mixed ?_|(with_reducible refine gR 22 ?_);refine dE 22 [0,1,2,3,4,5,6,7,8,9,10,11,12,13,14,15,16,17,18,19,20,21,22,23,24,25,26,27,28,29,30,31,32,33,34] mixed ?_|(refine hK _ _ ?_;clear hK K)|(refine aB ?_ ?_<;>intro hc<;>try exact jz)|refine cp (DE) ?_|refine cp (Hz _) ?_|refine lC 0 ?_|refine cp (hs) ?_|refine cp (JL _) ?_|refine Dv hnw hR0.ok ?_|(refine tJ ?_ ?_<;>intro hc<;>try exact jz)|refine az ?_|exact jI|(clear hK K)));all_goals(try clear W)
 have hKo:=hK;clear hK;refine fm (S:=LS) [(6,1),(12,5),(34,130)] (fun t=>t.i<=n/\bJ p (jL p) t.m t.N t.e/\oT p (jL p) (oL p (kZ inp) t.i) t.m/\Bd (kZ inp).length t.m/\t.N.k=N0.k/\lF p (kZ inp) t.i (oL p (kZ inp) t.i)) (fun t=>[(12,rI t.i)]) (fun t=>⟨[],tie t.e [(0,.var 29 (fB p))]⟩) (fun t=>n-t.i) ⟨0,m0,N0,l0⟩ ⟨Nat.zero_le _,hR0,hS0,hb0,rfl,zt hw _⟩ (fi rfl cX) ?_;rintro⟨i,m,N,e⟩ ⟨hi2,hR,hS,hb,hNk,hv⟩ Kr hKr;simp only at hi2 hR hS hb hNk hv;have hlo:=hR.ok.low;have eM:mP N=mP N0:=by unfold mP;rw[hNk]
 by_cases hlt:i<n
 ·have hv1:=zq hw hl hir hv
  have hse:=Hw hR (CT hw.ok (rc hw.ok) hv.fD.inv hS hv.q.none);rw[EQ hw.ok (rc hw.ok) hv.fD.inv hS hv.q.none,eM]at hse;have hP:=IH hw hv;obtain⟨m',hS',hb',N',l',⟨hR',hk'⟩,hU,hst⟩:=Gw hw hl hir (n:=i) jB hv hR hS hb [];rw[eM]at hst;have e2:oL p (kZ inp) (i+1)=hZ p (oL p (kZ inp) i) (kZ inp):=rfl;rw[<-e2]at hS' hv1;have hlo':=hR'.ok.low;generalize h2e:oL p (kZ inp) (i+1)=s2 at*;generalize oL p (kZ inp) i=s1 at*;generalize oF p s1=t1 at*;have hce:=MD t1.heap (by have:=hP.cells;omega);obtain⟨p1,p2,p3,p4⟩:=hP;have q1:(8<(t1.calls.length:Int))=False:=eq_false jB;have q2:(24<(t1.ay.length:Int))=False:=eq_false jB;have q3:(40<fg t1.heap)=False:=eq_false jB
  (refine S ?_;try exact jI)
  (have W:=jA ea (jA hlo (jA hlo' (jA q1 (jA q2 (q3)))));repeat' (first|(with_reducible refine gR 13 ?_);refine sS [] ?_|refine aA fun K hK=>?_|refine aC ?_|(with_reducible refine gR 19 ?_);refine dE 19 [0,1,2,3,4,5,6,7,8,9,10,11,12,13,14,15,16,17,18,19,20,21,22,23,24,25,26,27,28,29,30,31,32,33,34,35,36,37,38,39,40,41,42,43,44,45,46,47] mixed ?_|(with_reducible refine gR 22 ?_);refine dE 22 [0,1,2,3,4,5,6,7,8,9,10,11,12,13,14,15,16,17,18,19,20,21,22,23,24,25,26,27,28,29,30,31,32,33,34] mixed ?_|(refine hK _ _ ?_;clear hK K)|(refine aB ?_ ?_<;>intro hc<;>try exact jz)|refine lC 1 ?_|refine cT hse ?_|refine cq (hce) ?_|(refine tJ ?_ ?_<;>intro hc<;>try exact jz)|refine az ?_|exact jI|(clear hK K)));all_goals(try clear W)
  have hKi:=hK;clear hK;have hKb:=hK;clear hK;refine fm (S:=Nat) [(6,1),(14,3),(59,102)] (fun k=>k<=t1.calls.length) (fun k=>[(14,rI k)]) (fun k=>⟨[],tie e [(0,.var 29 (fB p)),(1,.var 72 (np t1))]⟩) (fun k=>t1.calls.length-k) 0 (Nat.zero_le _) (fi rfl cX) ?_;rintro k hk Kr2 hKr2;by_cases hlt2:k<t1.calls.length
  ·obtain⟨n0,n1,f0,f1,sl,fn,kd,cal⟩:=p4 k hlt2
   have hfl:=hw.ok.ok.fn;have a1:((nth t1.calls k).node<0)=False:=eq_false jB;have a2:((p.aa.nodes.length:Int)<=(nth t1.calls k).node)=False:=eq_false jB;have a3:((nth t1.calls k).fn<0)=False:=eq_false jB;have a4:((p.size.length:Int)<=(nth t1.calls k).fn)=False:=eq_false jB;have a5:((nth p.aa.nodes (nth t1.calls k).node.toNat).kind<10)=False:=eq_false jB;have a6:(17<(nth p.aa.nodes (nth t1.calls k).node.toNat).kind)=False:=eq_false jB;have a7:(nth t1.calls k).node<p.fn.length:=jB
   by_cases hla:k=t1.calls.length-1
   ·have b1:((k:Int)<(t1.calls.length:Int)-1)=False:=eq_false jB
    generalize hx:nth t1.calls k=c at*;generalize hy:nth p.aa.nodes c.node.toNat=d at*
    (refine S ?_;try exact jI)
    (have W:=jA hlo (jA hx (jA hy (jA n0 (jA n1 (jA f0 (jA f1 (jA sl (jA fn (jA a1 (jA a2 (jA a3 (jA a4 (jA a5 (jA a6 (jA a7 (b1))))))))))))))));repeat' (first|(with_reducible refine gR 13 ?_);refine sS [] ?_|refine aA fun K hK=>?_|refine aC ?_|(with_reducible refine gR 19 ?_);refine dE 19 [0,1,2,3,4,5,6,7,8,9,10,11,12,13,14,15,16,17,18,19,20,21,22,23,24,25,26,27,28,29,30,31,32,33,34,35,36,37,38,39,40,41,42,43,44,45,46,47] mixed ?_|(with_reducible refine gR 22 ?_);refine dE 22 [0,1,2,3,4,5,6,7,8,9,10,11,12,13,14,15,16,17,18,19,20,21,22,23,24,25,26,27,28,29,30,31,32,33,34] mixed ?_|(refine hK _ _ ?_;clear hK K)|(refine aB ?_ ?_<;>intro hc<;>try exact jz)|refine lC 2 ?_|refine lC 3 ?_|(refine tJ ?_ ?_<;>intro hc<;>try exact jz)|refine az ?_|exact jI|(clear hK K)));all_goals(try clear W)
    refine hKr2 _ _ ?_;refine zx (tl0:=[(0,.var 29 (fB p)),(1,.var 72 (np t1))]) 2 hR.ok (k+1) jB (by show t1.calls.length-(k+1)<t1.calls.length-k;omega) Sd rfl rfl kY
   ·obtain⟨g1,g2,g3,g4⟩:=cal (decide_eq_false hla)
    have b1:((k:Int)<(t1.calls.length:Int)-1)=True:=eq_true jB;generalize hx:nth t1.calls k=c at*;generalize hy:nth p.aa.nodes c.node.toNat=d at*;have g5:(d.l.length:Int)=1:=jB
    (refine S ?_;try exact jI)
    (have W:=jA hlo (jA hx (jA hy (jA n0 (jA n1 (jA f0 (jA f1 (jA sl (jA fn (jA a1 (jA a2 (jA a3 (jA a4 (jA a5 (jA a6 (jA a7 (jA b1 (jA g1 (jA g2 (jA g3 (jA g4 (g5)))))))))))))))))))));repeat' (first|(with_reducible refine gR 13 ?_);refine sS [] ?_|refine aA fun K hK=>?_|refine aC ?_|(with_reducible refine gR 19 ?_);refine dE 19 [0,1,2,3,4,5,6,7,8,9,10,11,12,13,14,15,16,17,18,19,20,21,22,23,24,25,26,27,28,29,30,31,32,33,34,35,36,37,38,39,40,41,42,43,44,45,46,47] mixed ?_|(with_reducible refine gR 22 ?_);refine dE 22 [0,1,2,3,4,5,6,7,8,9,10,11,12,13,14,15,16,17,18,19,20,21,22,23,24,25,26,27,28,29,30,31,32,33,34] mixed ?_|(refine hK _ _ ?_;clear hK K)|(refine aB ?_ ?_<;>intro hc<;>try exact jz)|refine lC 2 ?_|refine lC 3 ?_|(refine tJ ?_ ?_<;>intro hc<;>try exact jz)|refine az ?_|exact jI|(clear hK K)));all_goals(try clear W)
    refine hKr2 _ _ ?_;refine zx (tl0:=[(0,.var 29 (fB p)),(1,.var 72 (np t1))]) 2 hR.ok (k+1) jB (by show t1.calls.length-(k+1)<t1.calls.length-k;omega) Sd rfl rfl kY
  ·have hke:k=t1.calls.length:=jB
   subst hke
   (refine S ?_;try exact jI)
   (have W:=jA hlo (hlo');repeat' (first|(with_reducible refine gR 13 ?_);refine sS [] ?_|refine aA fun K hK=>?_|refine aC ?_|(with_reducible refine gR 19 ?_);refine dE 19 [0,1,2,3,4,5,6,7,8,9,10,11,12,13,14,15,16,17,18,19,20,21,22,23,24,25,26,27,28,29,30,31,32,33,34,35,36,37,38,39,40,41,42,43,44,45,46,47] mixed ?_|(with_reducible refine gR 22 ?_);refine dE 22 [0,1,2,3,4,5,6,7,8,9,10,11,12,13,14,15,16,17,18,19,20,21,22,23,24,25,26,27,28,29,30,31,32,33,34] mixed ?_|(refine hK _ _ ?_;clear hK K)|(refine aB ?_ ?_<;>intro hc<;>try exact jz)|refine hKi _ _ ?_|refine hKb _ _ ?_|refine cT hst ?_|(refine tJ ?_ ?_<;>intro hc<;>try exact jz)|refine az ?_|exact jI|(clear hK K)));all_goals(try clear W)
   refine hKr _ _ ?_;refine zx (tl0:=[(0,.var 29 (fB p))]) 1 hR'.ok ⟨i+1,m',N',l'⟩ ⟨by show i+1<=n;omega,hR',by show oT p (jL p) (oL p (kZ inp) (i+1)) m';rw[h2e];exact hS',hb',hk'.trans hNk,by show lF p (kZ inp) (i+1) (oL p (kZ inp) (i+1));rw[h2e];exact hv1⟩ (by show n-(i+1)<n-i;omega) Sd rfl rfl kY
 ·have hin:i=n:=jB
  subst hin
  (refine S ?_;try exact jI)
  (have W:=jA ea hlo;repeat' (first|(with_reducible refine gR 13 ?_);refine sS [] ?_|refine aA fun K hK=>?_|refine aC ?_|(with_reducible refine gR 19 ?_);refine dE 19 [0,1,2,3,4,5,6,7,8,9,10,11,12,13,14,15,16,17,18,19,20,21,22,23,24,25,26,27,28,29,30,31,32,33,34,35,36,37,38,39,40,41,42,43,44,45,46,47] mixed ?_|(with_reducible refine gR 22 ?_);refine dE 22 [0,1,2,3,4,5,6,7,8,9,10,11,12,13,14,15,16,17,18,19,20,21,22,23,24,25,26,27,28,29,30,31,32,33,34] mixed ?_|(refine hK _ _ ?_;clear hK K)|(refine aB ?_ ?_<;>intro hc<;>try exact jz)|refine hKo _ _ ?_|(refine tJ ?_ ?_<;>intro hc<;>try exact jz)|refine az ?_|exact jI|(clear hK K)));all_goals(try clear W)
  exact Cq [.tmp 6] rfl (.same _ rfl)
end Go.Proofs.YtfkgcobaheegbaaGreatDoor
