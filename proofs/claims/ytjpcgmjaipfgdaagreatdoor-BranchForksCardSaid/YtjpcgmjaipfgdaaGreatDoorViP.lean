/- Lemmas. No conditions. -/
import Derived.Test.YtjpcgmjaipfgdaaGreatDoorBqA
import Derived.Lib.ItoaLen
set_option linter.all false
set_option maxHeartbeats 8000000
set_option maxRecDepth 10000
namespace Go.Gd
open Go
def gb(b:aE):List aw:=gP b.base b.own
def bZ:aE:=⟨sE,[],[],[]⟩
@[go_sem] def qaH(a:UInt8):(#[a]:Array UInt8).size=1:=(rfl)
def yy{n:Int}(h:bz n):(ld n).size<=21:=by have:=Lib.itoa_length_le n h.1 h.2;show(Lib.itoa n).toArray.size<=21;simpa using this
def EY(x:Int)(l:UY)(b:Bool)(t:U0):tN (x::l) b t=tN l true ((if b=true then t++(⟨#[44]⟩:U0)else t)++ld x):=rfl
attribute [go_sem] List.take_zero
def aL.below{w:NW}{H:Hp}(r:aL w H){W:World}(hb:RowKit.Below w.heap.size w.toWorld W):aL (w.to W) H/\Ext w H (w.to W) H:=by have ex:Ext w H (w.to W) H:={ size:=hb.size,free:=fun b VJ hO=>⟨hb.block b VJ,hO⟩,names:=fun _ _ _ _ h=>h,os:=hb.os,tape:=hb.tape,output:=hb.output,rest:=fun b VJ hO Vj=>⟨hb.block b VJ,hO,Vj⟩,base:=rfl };refine⟨{ rows:=fun i row hi=>?_,dn:=r.dn,inj:=r.inj,own:=r.own,bS:=r.bS.aW ex.toKeep,fin:=fun b VJ=>Nat.lt_of_lt_of_le (r.fin b VJ) hb.size },ex⟩;obtain⟨h1,z,h2,h3⟩:=r.rows i row hi;exact⟨h1,z,h2,h3.ext ex fun b t s e=>by subst e;exact hb.block b (r.lt h2)⟩
def p4(l:List U0)(sep:U0):U0:=⟨(Lib.join (l.map (·.data.toList)) sep.data.toList).toArray⟩
def QZ{a b:U0}(h:a.data.toList=b.data.toList):a=b:=by cases a;cases b;simp only[ByteArray.mk.injEq];exact Array.ext' h
def xY(a b:U0):(a++b).data.toList=a.data.toList++b.data.toList:=jE
def GH(x:U0)(l:List U0)(sep:U0):(p4 (x::l) sep).data.toList=x.data.toList++Lib.joinTail sep.data.toList (l.map (·.data.toList)):=by show Lib.join (List.map _ (x::l)) _=_;rw[List.map_cons,Lib.join_cons]
theorem Hr:∀(l:UY) (T:U0),(tN l true T).data.toList=T.data.toList++Lib.joinTail [44] ((l.map ld).map (·.data.toList))
 |[],T=>by simp[tN,Lib.joinTail]
 |x::l,T=>by rw[EY,Hr l,if_pos rfl,xY,xY];simp[Lib.joinTail,List.append_assoc]
def KG(l:UY)(T:U0):tN l false T=T++p4 (l.map ld) (⟨#[44]⟩:U0):=by
 apply QZ;cases l with
 |nil=>rw[xY];simp[tN,p4,Lib.join_nil]
 |cons x l=> rw[EY,Hr,if_neg jC,xY,xY,List.map_cons,GH,List.append_assoc]
theorem I3(sep:List UInt8)(M:Nat):∀(l:List U0),(∀x∈l,x.size<=M)->(Lib.joinTail sep (l.map (·.data.toList))).length<=l.length*(sep.length+M)
 |[],_=>by simp[Lib.joinTail]
 |x::l,h=>by
  have h1:=I3 sep M l fun y hy=>h y (by simp[hy])
  have h2:x.data.toList.length<=M:=by have:=h x jE;simpa using this
  simp only[Lib.joinTail,List.map_cons,List.flatten_cons,List.length_append,List.length_cons]at h1 ⊢;have:(l.length+1)*(sep.length+M)=l.length*(sep.length+M)+(sep.length+M):=by rw[Nat.add_mul,Nat.one_mul]
  omega
def Kk(l:List U0)(sep:U0)(M:Nat)(h:∀x∈l,x.size<=M):(p4 l sep).size<=l.length*(sep.size+M):=by
 cases l with
 |nil=>show(Lib.join _ _).toArray.size<=_;simp[Lib.join_nil]
 |cons x l=>
  have e:(p4 (x::l) sep).size=(p4 (x::l) sep).data.toList.length:=jE;rw[e,GH];have h1:=I3 sep.data.toList M l fun y hy=>h y (by simp[hy])
  have h2:x.data.toList.length<=M:=by have:=h x jE;simpa using this
  have h3:sep.data.toList.length=sep.size:=jE;simp only[List.length_append,List.length_cons];have:(l.length+1)*(sep.size+M)=l.length*(sep.size+M)+(sep.size+M):=by rw[Nat.add_mul,Nat.one_mul]
  rw[h3]at h1;omega
def IY(heap:UW)(slots:List aj)(l:List bB)(x:bB)(s:UY):ma heap slots (l++[x]) s=An heap slots (ma heap slots l s) x:=by unfold ma;rw[List.foldl_append];rfl
def HZ(p:ab)(heap:UW)(l:List gr)(x:gr):oV p heap (l++[x])=yb p heap (oV p heap l) x:=by unfold oV;rw[List.foldl_append];rfl
def RI(l:UY)(n:Int):(tT l n).length<=l.length+1:=by unfold tT;split<;>simp
def O2(heap:UW)(s:UY)(v:aj):(pe heap s v).2.length<=s.length+1:=by
 have:=RI s v.n;unfold pe
 (repeat' split)<;>first|(show s.length<=_;omega)|exact this
def Bb(heap:UW)(slots:List aj):∀(n:Nat) (l:List bB) (s:UY),l.length=n->(ma heap slots l s).1.length=n/\(ma heap slots l s).2.length<=s.length+n:=fun n=>by
 induction n with
 |zero=>intro l s h;rw[List.length_eq_zero_iff.1 h];exact⟨rfl,Nat.le_refl _⟩
 |succ n ih=>
  intro l s h;have e:l=l.take n++[l[n]' jB]:=by rw[List.take_append_getElem,List.take_of_length_le jB]
  rw[e,IY];obtain⟨a,b⟩:=ih (l.take n) s jF;unfold An;have:=O2 heap (ma heap slots (l.take n) s).2 (dU slots (l[n]' jB).slot (l[n]' jB).ty);exact⟨by simp[a],by simp only;omega⟩
def AQ(p:ab)(heap:UW):∀(n:Nat) (l:List gr),l.length=n->(oV p heap l).1.length=n:=fun n=>by
 induction n with
 |zero=>intro l h;rw[List.length_eq_zero_iff.1 h];rfl
 |succ n ih=>
  intro l h;have e:l=l.take n++[l[n]' jB]:=by rw[List.take_append_getElem,List.take_of_length_le jB]
  rw[e,HZ];have a:=ih (l.take n) jF;unfold yb;simp[a]
@[go_sem] def jyn{P:U6}{ev:U2}{H:Hp}{ty:U1}{K:UR}(t:U1)(m k x:Operand):fK P ev H ty K (.mapUpdate t m k x)=jo P (.mapUpdate t m k x) ty ev H K:=(AT (by simp[nS]) (by simp[qd])).trans (Nv t m k x)
@[go_sem] def j8a:jm.contains 229=true:=(rfl)
def l6:Nat->Int->UU
 |0,_=>[]
 |n+1,k=>.raw (.int .i64 (k+1))::l6 n (k+1)
theorem H9:∀(n:Nat) (k:Int),(l6 n k).length=n
 |0,_=>rfl
 |n+1,k=>by simp[l6,H9 n (k+1)]
@[go_sem] theorem RB(q:U5):∀(n:Nat) (k:Int),aY q (l6 n k)=true
 |0,_=>rfl
 |n+1,k=>by have:=RB q n (k+1);simp only[l6,aY,AV.all,this,Bool.and_self]
theorem GV:∀(n:Nat) (k:Int),l6 (n+1) k=l6 n k++[.raw (.int .i64 (k+n+1))]
 |0,k=>by simp[l6]
 |n+1,k=>by rw[l6,GV n (k+1)];simp only[l6,List.cons_append,List.cons.injEq,true_and,List.append_cancel_left_eq,AV.raw.injEq,Value.int.injEq,and_true];omega
end Go.Gd
namespace Go.Proofs.YtjpcgmjaipfgdaaGreatDoor
open Go Go.Gd Tryz Go.Gd.MV
section
variable {p:ab}{C:aI}{inp:UY}
def UL(M:MV)(c:MC)(k:Nat)(hM:fh p C M)(hN:M.calls.length<=1)(hc:mc p c)(P':c.stack=[])(VL:c.at_=(k:Int))(hk:dX p C c.fn.toNat k):∃m1,bg p C inp (M.aU c) m1/\m1.dG C/\m1.status≠1:=by
 generalize hj:c.fn.toNat=j at hk;have h1:=hM.one;have ht:=MV.bs (M:=M) h1;have hst0:=hM.st;induction hk generalizing c with
 |@mark k n a h0 hn hl hi hkd hC h _=>
  have hm:lz p C j k n a:=⟨h0,hn,hl,hi,hkd,hC,h⟩;refine⟨_,bg.refl _,.inr ?_,?_⟩
  ·unfold MV.bh;rw[ht,VL,Int.toNat_natCast,hm.head.2];rfl
  ·show M.status≠1;omega
 |@jump k k' hk hx h ih=> obtain⟨m1,g,d⟩:=ih { c with at_:=(k':Int) } ⟨hc.f0,hc.f1,hc.sl,hc.rg⟩ P' rfl hj;refine⟨m1,bg.ins h1 hM.dY hM.st VL hk hx (fun h=>by cases h) (oC h1 hM.dY VL hk hx (fun u hu=>by rw[P']at hu;cases hu) (by rw[P'];simp) ⟨by show(1:Int)<=16;decide,by show(16:Int)<=23;decide⟩ 0 (Nat.zero_le _) (fun _=>.inr (.inr (.inr (.inr (.inr (.inl rfl)))))) (fun h=>by cases h) (fun h=>by rcases h with h|h|h|h<;>cases h) (fun h=>by cases h)) ?_,d⟩;rw[MV.mw,ht,MV.dx];exact g
 |@fin k r hk hx=>
  have go:∀m',bg p C inp ((M.aU { c with at_:=(k:Int)+1 }).ends (vZ r)) m'->bg p C inp (M.aU c) m':=fun m' g=> bg.ins h1 hM.dY hM.st VL hk hx (fun h=>by cases h) (oC h1 hM.dY VL hk hx (fun u hu=>by rw[P']at hu;cases hu) (by rw[P'];simp) ⟨by show(1:Int)<=22;decide,by show(22:Int)<=23;decide⟩ 0 (Nat.zero_le _) (fun _=>.inr (.inr (.inr (.inr (.inr (.inr (.inr rfl))))))) (fun h=>by cases h) (fun h=>by rcases h with h|h|h|h<;>cases h) (fun h=>by cases h)) g
  refine⟨_,go _ (bg.refl _),?_⟩;unfold MV.ends;rw[MV.bL,if_pos hN];exact⟨.inl (by show(2:Int)≠0;decide),by show(2:Int)≠1;decide⟩
def SH(hs:fO p)(hE:vL p C):∃m1,bg p C inp (mh p C) m1/\m1.dG C/\m1.status≠1:=by
 obtain⟨j,hj,Xk,_,ha4⟩:=BW hs;obtain⟨ek,e1,e2⟩:=hE j hj;have hf:=hs.ao j hj;have p1:=hf.vy;have hM:fh p C (mh p C):=⟨by show 1<=1;decide,by show 1<=8;decide,rfl,by show(0:Int)<=0/\(0:Int)<=9;decide,fun k hk=>by have hk:k+1<1:=hk;omega,by show gq []<=40;decide,fun l hl=>by cases hl⟩
 have VD:(MV.iJ p C (iu p) []).fn.toNat=j:=by show(iu p).toNat=j;rw[Xk,Int.toNat_natCast]
 have Vi:nth p.size (iu p).toNat=nth p.size j:=by rw[Xk,Int.toNat_natCast]
 obtain⟨m1,g,d⟩:=UL (inp:=inp) (mh p C) (MV.iJ p C (iu p) []) ek hM (Nat.le_refl 1) ⟨by show 0<=iu p;omega,by show iu p<_;omega,by
  show(([]++List.replicate _ v0:List aj).length:Int)=nth p.size (iu p).toNat;rw[List.nil_append,List.length_replicate,Vi];simp only[List.length_nil];omega,fun v hv=>by
  have hv:v∈([]++List.replicate _ v0:List aj):=hv;rw[List.nil_append]at hv;rw[(List.mem_replicate.1 hv).2];exact sF⟩ rfl (by show nth C.entry (iu p).toNat=_;rw[Xk,Int.toNat_natCast];exact e1) (by rw[VD];exact e2)
 exact⟨m1,g,d⟩
end
open Classical in
noncomputable def m0V(p:ab):MV:=if h:∃m1,bg p (bQ p) [] (mh p (bQ p)) m1/\m1.dG (bQ p)then Classical.choose h else mh p (bQ p)
def zv{p:ab}{m:MV}(hg:bg p (bQ p) [] (mh p (bQ p)) m)(P':m.dG (bQ p)):m0V p=m:=by have h:∃m1,bg p (bQ p) [] (mh p (bQ p)) m1/\m1.dG (bQ p):=⟨m,hg,P'⟩;unfold m0V;rw[dif_pos h];obtain⟨⟨n,g⟩,s⟩:=Classical.choose_spec h;obtain⟨k,g2⟩:=hg;exact E7 g g2 s P'
def xd{p:ab}(hs:fO p)(inp:UY):IM p inp (m0V p)/\(m0V p).time=0/\(m0V p).status≠1:=by obtain⟨m1,hg,P',h1,XR⟩:=BM hs (wY hs) [];obtain⟨m2,WB,hbP,h2⟩:=SH (inp:=[]) hs (wY hs);have e1:=zv hg P';have e2:=zv WB hbP;have XR:m1.time=0:=XR;obtain⟨n,g⟩:=hg;have i0:=yO g;have i1:=Bm g (Int.le_refl 0);have i0:0<=m1.in_:=i0;have i1:m1.in_<=0:=i1;rw[e1]at e2;rw[e1];exact⟨⟨h1,jB,i0,jB⟩,XR,e2 ▸ h2⟩
noncomputable def runM(p:ab)(F:UY->MV->MV)(inp:UY)(E:List aw)(t:Int):MV×Nat×Bool:=eN MV.time (F inp) (fj p (bQ p)) E (eQ t) ((eQ t-(m0V p).time).toNat+1) (m0V p) 0 false
noncomputable def badM(p:ab)(F:UY->MV->MV)(inp:UY)(E:List aw)(t:Int):Int:=nt E (eQ t) (runM p F inp E t)
noncomputable def shotM(p:ab)(F:UY->MV->MV)(inp:UY)(E:List aw)(t:Int):iq:=(runM p F inp E t).1.da (bQ p)
section
variable {p:ab}(hp:po p){F:UY->MV->MV}(hF:cU p (bQ p) F){inp:UY}(V8:inp.length<=1000)(hi:∀x∈inp,bz x){k:Nat}{E:List aw}(hE:∀k,k<E.length->bz (nth E k).v.n)
include hp hF V8 hi hE
theorem Ee:∀(n:Nat) (x:ES) (j:Nat) (b:Bool),EI p inp k x->(cL j4 (seE p inp k) E n x j b).1.m=(cL MV.time (fj p (bQ p)) E n x.m j b).1/\(cL j4 (seE p inp k) E n x j b).2=(cL MV.time (fj p (bQ p)) E n x.m j b).2
 |0,x,j,b,_=>⟨rfl,rfl⟩
 |n+1,x,j,b,h=>by
  unfold cL;have et:j4 x=x.m.time:=rfl;rw[et];by_cases c:b=false/\j<E.length/\(nth E j).at_=x.m.time
  ·rw[if_pos c,if_pos c];cases e:seE p inp k x (nth E j).name (nth E j).v with
   |none=>rw[KD hp h _ _ e];exact⟨rfl,rfl⟩
   |some x'=> obtain⟨m',e1,_,e3⟩:=CW hp h _ _ (hE j c.2.1) e;rw[e1];have:=Ee n x' (j+1) false e3.2.1;rw[e3.1]at this;exact this
  ·rw[if_neg c,if_neg c];exact⟨rfl,rfl⟩
theorem I6{T:Int}(hT:T<=200):∀(n:Nat) (x:ES) (j:Nat) (b:Bool),EI p inp k x->x.m.time<=T->(eN j4 (stE p inp k F) (seE p inp k) E T n x j b).1.m=(eN MV.time (F inp) (fj p (bQ p)) E T n x.m j b).1/\(eN j4 (stE p inp k F) (seE p inp k) E T n x j b).2=(eN MV.time (F inp) (fj p (bQ p)) E T n x.m j b).2
 |0,x,j,b,_,_=>⟨rfl,rfl⟩
 |n+1,x,j,b,h,ht=>by
  obtain⟨a1,a2,_⟩:=qU (wN hp hF V8 hi hE) (E.length+1) x j b h;obtain⟨b1,b2⟩:=Ee hp hF V8 hi hE (E.length+1) x j b h;unfold eN;generalize cL MV.time (fj p (bQ p)) E (E.length+1) x.m j b=Q at*;generalize cL j4 (seE p inp k) E (E.length+1) x j b=R at*;obtain⟨R1,R2⟩:=R;obtain⟨Q1,Q2⟩:=Q;have b1:R1.m=Q1:=b1;have b2:R2=Q2:=b2;subst b1 b2;have a1:EI p inp k R1:=a1;have a2:R1.m.time=x.m.time:=a2;simp only;have et:j4 R1=R1.m.time:=rfl;rw[et];by_cases c:R1.m.time=T
  ·rw[if_pos c,if_pos c];exact⟨rfl,rfl⟩
  rw[if_neg c,if_neg c];have P':=Bv hp hF V8 hi a1 jB;have e2:j4 (stE p inp k F R1)=(F inp R1.m).time:=by show(stE p inp k F R1).m.time=_;rw[P'.1]
  have e3:=((wN hp hF V8 hi (k:=k) hE).st R1 a1 (by show R1.m.time<200;omega)).2;rw[e2];by_cases d:(F inp R1.m).time=R1.m.time
  ·rw[if_pos d,if_pos d];exact⟨P'.1,rfl⟩
  ·rw[if_neg d,if_neg d];have:=I6 hT n (stE p inp k F R1) R2.1 R2.2 P'.2.1 (by
    show(stE p inp k F R1).m.time<=T;have e3:(stE p inp k F R1).m.time=R1.m.time\/(stE p inp k F R1).m.time=R1.m.time+1:=e3;omega)
   rw[P'.1]at this;exact this
theorem DQ(Vy:gG p)(hl:E.length<=1000)(t:Int)(ht:bz t):∃k EE,de prog 127 [.agg (cY p),aM eI 1 inp,aM bj 5 E,rI t] [] (.ba [.pt (hn 3 k) 0 0 0,rI (badM p F inp E t)]) EE/\de prog 63 [.pt (hn 3 k) 0 0 0] EE (.agg (jS (shotM p F inp E t))) EE/\MI p (bQ p) (runM p F inp E t).1/\Bd inp.length (runM p F inp E t).1:=by
 obtain⟨x0,hEI,XR,hg,P',hc⟩:=Uo hp Vy hF V8 hi hE hl t ht;have e0:=zv hg P';have h0:x0.m.time<=eQ t:=by unfold eQ;omega
 have hT:eQ t<=200:=by unfold eQ;omega
 obtain⟨p1,p2⟩:=I6 hp hF V8 hi (k:=x0.N.k) hE hT ((eQ t-j4 x0).toNat+1) x0 0 false hEI h0;have Wv:=(xN (wN hp hF V8 hi (k:=x0.N.k) hE) hT ((eQ t-j4 x0).toNat+1) x0 0 false hEI h0 (Nat.zero_le _)).1;have er:runM p F inp E t=eN MV.time (F inp) (fj p (bQ p)) E (eQ t) ((eQ t-j4 x0).toNat+1) x0.m 0 false:=by unfold runM;rw[e0];rfl
 have eb:nt E (eQ t) (eN j4 (stE p inp x0.N.k F) (seE p inp x0.N.k) E (eQ t) ((eQ t-j4 x0).toNat+1) x0 0 false)=badM p F inp E t:=by unfold badM nt;rw[er,p2]
 rw[eb]at hc;rw[<-er]at p1;generalize eN j4 (stE p inp x0.N.k F) (seE p inp x0.N.k) E (eQ t) ((eQ t-j4 x0).toNat+1) x0 0 false=G at*;have hC:=rq hp.ok;have:=hC.len;have:=hC.pK;have:=hp.ok.ok.aa.ao;have:=hp.ok.ok.size;have WH:=wO (Wv.R.vg Wv.ok Wv.sub) (zZ Wv.mi Wv.bd jB);have YA:=Wv.key;rw[show mP G.1.N=.pt (hn 3 x0.N.k) 0 0 0 by unfold mP;rw[YA]]at WH;refine⟨x0.N.k,G.1.E,⟨hc,⟨fun _ _ _=>rfl,List.nodup_nil,fun i r h=>by cases h⟩,Wv.ok,fun i h=>(h rfl).elim,rfl⟩,?_,p1 ▸ Wv.mi,p1 ▸ Wv.bd⟩;unfold shotM;rw[<-p1];exact WH
end
section
variable (p:ab)(F:UY->MV->MV)
noncomputable def atB(b:aE)(t:Int):iq:=shotM p F b.ax (gb b) t
noncomputable def badB(b:aE):Int:=badM p F b.ax (gb b) 200
noncomputable def fineB(b:aE):aE×Int:=if badB p F b≠0 then(bZ,65)else(b,0)
noncomputable def forkB(ok:Bool)(b:aE)(nm:U0)(x:aw):aE×Int:=
 if ok=false\/oi x=false then(bZ,1)else if(atB p F b x.at_).time<x.at_ then(bZ,63)
 else if 8<=(dh (gb b) x.at_).length then(bZ,62)else fineB p F ⟨nm,b.ax,dh (gb b) x.at_,[x]⟩
noncomputable def inputB(ok:Bool)(b:aE)(nm:U0)(t n:Int):aE×Int:=
 if ok=false\/t<0\/200<t then(bZ,1)else if(atB p F b t).time<t then(bZ,63)
 else if 16<=(atB p F b t).in_ then(bZ,62)else(⟨nm,b.ax.take (atB p F b t).in_.toNat++[n],dh (gb b) t,[]⟩,0)
noncomputable def addB(b:aE)(x:aw):aE×Int:=
 if oi x=false then(bZ,1)else if 8<=b.base.length+b.own.length then(bZ,62)else fineB p F { b with own:=hZ x b.own }
noncomputable def rebaseB(a lO:aE):aE×Int×Int:=
 if 8<(gb lO).length+a.own.length then(bZ,0,62)else if badB p F ⟨a.name,lO.ax,gb lO,a.own⟩≠0 then(bZ,badB p F ⟨a.name,lO.ax,gb lO,a.own⟩,65)else(⟨a.name,lO.ax,gb lO,a.own⟩,0,0)
end
def uq(b:aE)(n:Int):aE×Int:=if 16<=b.ax.length then(bZ,62)else({ b with ax:=b.ax++[n] },0)
section
variable {p:ab}(hs:fO p){F:UY->MV->MV}(hF:cU p (bQ p) F){inp:UY}(hi:∀x∈inp,bz x){E:List aw}(hE:∀x∈E,bz x.v.n)
variable{t:Int}
def Cn(h0:0<=t)(h1:t<=200):eQ t=t:=by unfold eQ;omega
def Bq(t:Int):0<=eQ t/\eQ t<=200:=by unfold eQ;omega
def rZ(h:∀x∈E,bz x.v.n):∀k,k<E.length->bz (nth E k).v.n:=fun k hk=>h _ (fc hk)
include hF hi hE
theorem IA{T T':Int}(hT:T<=200)(hT':T'<=T):∀(n n':Nat) (s:MV) (k:Nat) (b:Bool),IM p inp s->s.time<=T'->T-s.time<n->T'-s.time<n'->(eN MV.time (F inp) (fj p (bQ p)) E T n s k b).1.time=T->(eN MV.time (F inp) (fj p (bQ p)) E T' n' s k b).1.time=T'/\(eN MV.time (F inp) (fj p (bQ p)) E T' n' s k b).1.in_<=(eN MV.time (F inp) (fj p (bQ p)) E T n s k b).1.in_
 |0,_,s,k,b,_,_,h,_,_=>by omega
 |_,0,s,k,b,_,_,_,h,_=>jB
 |n+1,n'+1,s,k,b,h,ht,h1,h2,h3=>by
  have hE':=rZ hE;obtain⟨a1,a2,_⟩:=qU (uo hF hi hE') (E.length+1) s k b h;unfold eN at h3 ⊢;generalize cL MV.time (fj p (bQ p)) E (E.length+1) s k b=Q at*;obtain⟨c1,c2⟩:=sP hF hi a1;by_cases c:Q.1.time=T'
  ·rw[if_pos c];refine⟨c,?_⟩;split
   ·exact Int.le_refl _
   have hf:=(BO hF hi a1.mi).1;split
   ·exact hf
   ·have:=yZ hF hi hE' hT n _ Q.2.1 Q.2.2 c1 (by rcases c2 with e|⟨e,_⟩<;>omega);omega
  ·have c':¬Q.1.time=T:=jB;rw[if_neg c']at h3;rw[if_neg c,if_neg c'];by_cases d:(F inp Q.1).time=Q.1.time
   ·rw[if_pos d]at h3;have h3:(F inp Q.1).time=T:=h3;omega
   ·rw[if_neg d]at h3;rw[if_neg d,if_neg d];have h4:(F inp Q.1).time=Q.1.time+1:=c2.elim (fun e=>(d e).elim) fun e=>e.1
    exact IA hT hT' n n' _ Q.2.1 Q.2.2 c1 jB jB jB h3
include hs
theorem AH{E':List aw}(hE':∀x∈E',bz x.v.n)(hS:mb E)(hS':mb E')(h0:0<=t)(h1:t<=200)(e:dh E t=dh E' t):(runM p F inp E t).1=(runM p F inp E' t).1:=by
 have key:∀{E:List aw},(∀x∈E,bz x.v.n)->mb E->(runM p F inp E t).1=(runM p F inp (dh E t) t).1:=fun{E} hE hS=>by obtain⟨K,h2,h3,h4⟩:=Gp (t:=t) E hS;obtain⟨a,b,_⟩:=xd hs inp;have ec:=Cn h0 h1;have Vd:=HX (uo hF hi (rZ hE)) h1 h4 ((t-(m0V p).time).toNat+1) (m0V p) 0 false a jB (Nat.zero_le _);have:=I0 (tm:=MV.time) (st:=F inp) (se:=fj p (bQ p)) (E:=E) h2 (t:=t) ((t-(m0V p).time).toNat+1) (m0V p) 0 false false (Nat.zero_le _) (fun _=>rfl) Vd;unfold runM;rw[ec,h3];exact this.1.symm
 rw[key hE hS,key hE' hS',e]
theorem zP(t:Int):IM p inp (runM p F inp E t).1/\(runM p F inp E t).1.time<=eQ t:=by obtain⟨a,b,_⟩:=xd hs inp;obtain⟨c0,c1⟩:=Bq t;have:=xN (uo hF hi (rZ hE)) c1 ((eQ t-(m0V p).time).toNat+1) (m0V p) 0 false a jB (Nat.zero_le _);exact⟨this.1,this.2.2.1⟩
theorem QE{t':Int}(h0:0<=t')(h1:t'<=t)(h2:t<=200)(ht:¬(runM p F inp E t).1.time<t){inp':UY}(V4:∀x∈inp',bz x)(ha:fJ (runM p F inp E t).1.in_ inp inp'):(runM p F inp' E t').1=(runM p F inp E t').1/\(runM p F inp E t').1.time=t':=by obtain⟨a,b,_⟩:=xd hs inp;have e1:=Cn (t:=t) jB h2;have e2:=Cn (t:=t') h0 jB;have hf:=(zP hs hF hi hE t).2;have hg:=IA hF hi hE h2 h1 ((t-(m0V p).time).toNat+1) ((t'-(m0V p).time).toNat+1) (m0V p) 0 false a jB jB jB (by unfold runM at hf ht;rw[e1]at hf ht;omega);unfold runM at ha ⊢;rw[e1]at ha;rw[e2];refine⟨?_,hg.1⟩;rw[C9 hF hi (rZ hE) jB V4 _ _ 0 false a jB (.inl hg.1) (ha.le hg.2)]
theorem LV{y:Int}(hy:bz y)(t:Int):((runM p F inp E t).1.status≠1->(runM p F (inp++[y]) E t).1=(runM p F inp E t).1)/\((runM p F inp E t).1.status=1->(runM p F inp E t).1.in_<(runM p F (inp++[y]) E t).1.in_):=by
 obtain⟨a,b,st⟩:=xd hs inp;obtain⟨c0,c1⟩:=Bq t;have V4:∀x∈inp++[y],bz x:=fun x hx=>(List.mem_append.1 hx).elim (hi x) (fun hx=>by rw[List.mem_singleton.1 hx];exact hy)
 have hf:=(zP hs hF hi hE t).1;refine⟨fun h=>?_,fun h=>?_⟩
 ·unfold runM at h hf ⊢;rw[C9 hF hi (rZ hE) c1 V4 _ _ 0 false a jB (.inr h) (IV hf.i1)]
 ·unfold runM at h ⊢;exact Fh hF hi (rZ hE) c1 hy _ _ 0 false a st jB jB h
end
section
variable {p:ab}(hs:fO p){F:UY->MV->MV}(hF:cU p (bQ p) F){b:aE}(hi:∀x∈b.ax,bz x)(hB:∀x∈b.base,bz x.v.n)(ho:b.own=[])(hS:mb b.base)
include hs hF hi hB ho hS
variable{nm:U0}
theorem Uc{ok:Bool}{x:aw}(hx:bz x.v.n)(e:(forkB p F ok b nm x).2=0):0<=x.at_/\x.at_<=200/\(forkB p F ok b nm x).1=⟨nm,b.ax,dh b.base x.at_,[x]⟩/\gb (forkB p F ok b nm x).1=dh b.base x.at_++[x]/\∀t,0<=t->t<x.at_->atB p F (forkB p F ok b nm x).1 t=atB p F b t:=by
 have Ve:gb b=b.base:=by unfold gb;rw[ho];rfl
 unfold forkB at e ⊢;split at e
 ·cases e
 rename_i c1;split at e
 ·cases e
 split at e
 ·cases e
 unfold fineB at e ⊢;split at e
 ·cases e
 rename_i c2 c3 c4;rw[if_neg c1,if_neg c2,if_neg c3,if_neg c4];have hm:oi x=true:=by
  cases h:oi x
  ·exact(c1 (.inr h)).elim
  ·rfl
 unfold oi at hm;simp only[Bool.and_eq_true,decide_eq_true_eq]at hm;rw[Ve];have Vd:∀y∈dh b.base x.at_,y.at_<=x.at_:=fun y hy=>(vm hy).2
 have ha:gb ⟨nm,b.ax,dh b.base x.at_,[x]⟩=dh b.base x.at_++[x]:=GO Vd;have Zo:∀y∈hZ x (dh b.base x.at_),bz y.v.n:=fun y hy=>by
  rcases yg.1 hy with rfl|hy
  ·exact hx
  ·exact hB y (vm hy).1
 refine⟨jB,jB,rfl,ha,fun t h0 h1=>?_⟩;unfold atB shotM;rw[Ve];show(runM p F b.ax (hZ x (dh b.base x.at_)) t).1.da _=_;rw[AH hs hF hi Zo hB (zd x (BN hS)) hS h0 jB (by rw[Br h1,KP jB])]
theorem RW{ok:Bool}{t n:Int}(hn:bz n)(e:(inputB p F ok b nm t n).2=0):0<=t/\t<=200/\(∃q:Nat,(inputB p F ok b nm t n).1=⟨nm,b.ax.take q++[n],dh b.base t,[]⟩)/\∀t',0<=t'->t'<=t->atB p F (inputB p F ok b nm t n).1 t'=atB p F b t':=by
 have Ve:gb b=b.base:=by unfold gb;rw[ho];rfl
 unfold inputB at e ⊢;split at e
 ·cases e
 rename_i c1;split at e
 ·cases e
 split at e
 ·cases e
 rename_i c2 c3;rw[if_neg c1,if_neg c2,if_neg c3];rw[Ve];refine⟨jB,jB,⟨_,rfl⟩,fun t' h0 h1=>?_⟩;have hbQ:t<=200:=jB;have hf:=(zP hs hF hi hB t).1;have VO:(atB p F b t).in_=(runM p F b.ax b.base t).1.in_:=by unfold atB shotM;rw[Ve];rfl
 have XR:(atB p F b t).time=(runM p F b.ax b.base t).1.time:=by unfold atB shotM;rw[Ve];rfl
 rw[XR]at c2;rw[VO];have V4:∀x∈b.ax.take (runM p F b.ax b.base t).1.in_.toNat++[n],bz x:=fun x hx=>(List.mem_append.1 hx).elim (fun hx=>hi x (List.mem_of_mem_take hx)) (fun hx=>by rw[List.mem_singleton.1 hx];exact hn)
 have hr:=(QE hs hF hi hB h0 h1 hbQ c2 V4 (Od hf.i1)).1;unfold atB shotM;rw[Ve];show(runM p F (b.ax.take (runM p F b.ax b.base t).1.in_.toNat++[n]) (dh b.base t) t').1.da _=_;rw[AH hs hF V4 (fun y hy=>hB y (vm hy).1) hB (BN hS) hS h0 jB (KP h1 _),hr]
theorem Sm{x:aw}(hx:bz x.v.n)(e:(addB p F b x).2=0):0<=x.at_/\x.at_<=200/\(addB p F b x).1=⟨b.name,b.ax,b.base,[x]⟩/\∀t,0<=t->t<x.at_->atB p F (addB p F b x).1 t=atB p F b t:=by
 have Ve:gb b=b.base:=by unfold gb;rw[ho];rfl
 unfold addB at e ⊢;split at e
 ·cases e
 rename_i c1;split at e
 ·cases e
 unfold fineB at e ⊢;split at e
 ·cases e
 rename_i c2 c3;rw[if_neg c1,if_neg c2,if_neg c3];have hm:oi x=true:=by
  cases h:oi x
  ·exact(c1 h).elim
  ·rfl
 unfold oi at hm;simp only[Bool.and_eq_true,decide_eq_true_eq]at hm;have Zo:∀y∈hZ x b.base,bz y.v.n:=fun y hy=>by
  rcases yg.1 hy with rfl|hy
  ·exact hx
  ·exact hB y hy
 refine⟨jB,jB,by rw[ho];rfl,fun t h0 h1=>?_⟩;unfold atB shotM;rw[Ve,ho];show(runM p F b.ax (hZ x b.base) t).1.da _=_;rw[AH hs hF hi Zo hB (zd x hS) hS h0 jB (Br h1 _)]
omit hi hB ho hS hF hs in
theorem QC{x:aw}(e:(addB p F b x).2≠0):(addB p F b x).1=bZ/\((addB p F b x).2=1\/((addB p F b x).2=62/\8<=b.base.length+b.own.length)\/(addB p F b x).2=65):=by
 unfold addB at e ⊢;split
 ·exact⟨rfl,.inl rfl⟩
 rename_i c1;rw[if_neg c1]at e;split
 ·rename_i c2;exact⟨rfl,.inr (.inl ⟨rfl,c2⟩)⟩
 rename_i c2;rw[if_neg c2]at e;unfold fineB at e ⊢;split
 ·exact⟨rfl,.inr (.inr rfl)⟩
 ·rename_i c3;rw[if_neg c3]at e;exact(e rfl).elim
end
end Go.Proofs.YtjpcgmjaipfgdaaGreatDoor
namespace Go.Proofs.YtjpcgmjaipfgdaaGreatDoor
open Go Go.Gd Tryz
def OC(v:aj)(h:bz v.n)(hz:v.s.size<=1000000):aD prog 225 [rV v] (rS (Ag v)):=by
 have hw:=Kn v h;refine cB func225 ntmps225 ?_
 (repeat' (first|refine ar fun K hK=>?_|refine av ?_|(refine hK _ _ ?_;clear hK K)|(refine au ?_ ?_<;>intro hc<;>try exact jz)|refine cp (hw) ?_|refine aq ?_|exact jI|(clear hK K)))
 all_goals(refine bq [.tmp 2] ?_;try simp only[go_sem])
 all_goals(unfold Ag;(repeat' split)<;>first|rfl|omega|contradiction|skip)
def Ue{H:Hp}{e:U1}{i n:Nat}(l:List U0)(sep:U0)(hi:H.get i=some (.aJ e 1 (l.map eS)))(hn:n=l.length)(O':(p4 l sep).size<=140737488355328)(hl:l.length<=140737488355328) :
  dm prog 247 [.rs i n 1 n,rS sep] H (fun r H'=>r=rS (p4 l sep)/\H'=H):=by
 intro w vs hw hv;obtain⟨Vi,hv⟩:=hv;have Vi:vs.size=2:=Vi.symm;obtain⟨v0,v1,rfl⟩:∃v0 v1,vs=#[v0,v1]:=by
  rcases vs with⟨vs⟩
  match vs,Vi with
  |[a,b],_=>exact⟨a,b,rfl⟩
 have h0:=hv 0 _ v0 rfl rfl;have h1:=di (hv 1 _ v1 rfl rfl);subst h1;cases h0 with
 |iO _ _ _ A Vm=> have WE:l=[]:=List.length_eq_zero_iff.1 hn.symm;subst WE;refine(Tryz.strings_Join_none A 0 sep w.toWorld).mono ?_;rintro e W ⟨rfl,rfl⟩;exact⟨_,_,H,w,rfl,rfl,⟨rfl,rfl⟩,hw,.raw _,Ext.refl w H⟩
 |rs _ _ _ _ b t c Vm hc Vd Wy=>
  subst hn;have Vu:(Lib.join (l.map (·.data.toList)) sep.data.toList).length<=140737488355328:=by
   have:(p4 l sep).size=(Lib.join (l.map (·.data.toList)) sep.data.toList).length:=by show(Lib.join _ _).toArray.size=_;simp
   omega
  refine(Tryz.strings_Join b 0 c l sep w.toWorld (fun j x hx=>?_) (hw.lt Vm) hl Vd Vu).mono ?_
  ·have hj:j<(l.map eS).length:=by simpa using(List.getElem?_eq_some_iff.1 hx).1
   obtain⟨_,_,_,v,g1,g2⟩:=rP hw hi (by simpa using Vm) hj (j:=0) jB;have Vw:((l.map eS).getD j [])[0]?=some (.raw (.string x)):=by rw[List.getD_eq_getElem?_getD,List.getElem?_map,hx];rfl
   have:=di (g2 _ Vw);subst this;rw[show 0+j=j*1+0 from jB];exact g1
  ·rintro e W ⟨rfl,hb⟩;obtain⟨k1,k2⟩:=hw.below hb;exact⟨_,_,H,w.to W,rfl,rfl,⟨rfl,rfl⟩,k1,.raw _,k2⟩
def cJ{H:Hp}{K:UR}{e:U1}{i n:Nat}(l:List U0)(sep:U0)(hi:H.get i=some (.aJ e 1 (l.map eS)))(hn:n=l.length)(O':(p4 l sep).size<=140737488355328)(hl:l.length<=140737488355328)(h0:aX prog 247=true)(k:K (rS (p4 l sep)) H):fi prog (.raw (.func (.func 247) #[] #[])) [.rs i n 1 n,rS sep] H K:=
 nw h0 ((Ue l sep hi hn O' hl).mono fun r H' ⟨e1,e2⟩=>by subst e1 e2;exact k)
def As(n y:Int)(l:UY)(i:Int):jg n (y::l) i=if y=n then i else jg n l (i+1):=rfl
theorem FW(n:Int):∀(l:UY) (i:Int) (x:Int),0<=i->jg n (l++[x]) i=if jg n l i<0 then(if x=n then i+l.length else -1)else jg n l i
 |[],i,x,hi=>by simp[jg]
 |y::l,i,x,hi=>by
  rw[List.cons_append,As,As];by_cases h:y=n
  ·simp only[if_pos h];rw[jN]
  ·simp only[if_neg h];rw[FW n l (i+1) x jB];simp only[List.length_cons];have:i+1+(l.length:Int)=i+((l.length+1:Nat):Int):=jB;rw[this]
theorem Dy(n:Int):∀(l:UY) (i:Int),0<=i->(jg n l i<0<->∀j,j<l.length->nth l j≠n)/\(jg n l i=-1\/(i<=jg n l i/\jg n l i<i+l.length))
 |[],i,hi=>⟨by simp[jg],.inl rfl⟩
 |y::l,i,hi=>by
  obtain⟨a,b⟩:=Dy n l (i+1) jB;simp only[jg];by_cases h:y=n
  ·rw[if_pos h];refine⟨⟨fun h'=>jB,fun h'=>(h' 0 jE h).elim⟩,.inr ⟨jB,by simp;omega⟩⟩
  ·rw[if_neg h];refine⟨⟨fun h' j hj=>?_,fun h'=>a.2 fun j hj=>h' (j+1) (by simpa using hj)⟩,?_⟩
   ·cases j with
    |zero=>exact h
    |succ j=>exact a.1 h' j (by simpa using hj)
   ·rcases b with b|b
    ·exact .inl b
    ·right;simp only[List.length_cons];omega
def Lb(slots:List aj)(k t:Int):(dU slots k t).s.size<=40:=by
 unfold dU;split
 ·exact Nat.zero_le _
 split
 ·rename_i h;exact En h.1
 ·exact Nat.zero_le _
structure nM(p:ab)(s:iq):Prop where
 calls:s.calls.length<=8
 fn:∀k,k<s.calls.length->0<=(nth s.calls k).fn/\(nth s.calls k).fn<p.aa.ao.length
 node:∀k,k<s.calls.length->0<=(nth s.calls k).node/\(nth s.calls k).node.toNat<p.aa.nodes.length
 sl:∀k,k<s.calls.length->pH (nth s.calls k).slots/\(nth s.calls k).slots.length<=1000
 hp:p8 s.heap
 hl:s.heap.length<=1000
 qL:∀k,k<s.heap.length->(nth s.heap k).length<=1000
theorem DL(n:Int):∀(l:UY) (k:Int),0<=k->oM n l (l6 l.length k)=if jg n l k<0 then none else some (.raw (.int .i64 (jg n l k+1)))
 |[],k,_=>rfl
 |v::l,k,hk=>by
  have ih:=DL n l (k+1) jB;rw[As];show(if n=v then some _ else oM n l (l6 l.length (k+1)))=_;by_cases h:v=n
  ·rw[if_pos h.symm,if_pos h,jN]
  ·rw[if_neg (fun e=>h e.symm),if_neg h];exact ih
theorem HS(n:Int):∀(l:UY) (k:Int),0<=k->jg n l k<0->mD n l=l++[n]/\∀(x:AV) (vs:UU),vs.length=l.length->l4 n x l vs=vs++[x]
 |[],k,_,_=>⟨rfl,fun x vs h=>by rw[List.length_eq_zero_iff.1 h];rfl⟩
 |v::l,k,hk,h=>by
  rw[As]at h;split at h
  ·omega
  ·rename_i Wg;obtain⟨a,b⟩:=HS n l (k+1) jB h;have hn:¬n=v:=fun e=>Wg e.symm
   refine⟨by show(if n=v then _ else v::mD n l)=_;rw[if_neg hn,a];rfl,fun x vs hl=>?_⟩;cases vs with
   |nil=>simp at hl
   |cons u vs=> show(if n=v then _ else u::l4 n x l vs)=_;rw[if_neg hn,b x vs (by simpa using hl)];rfl
def qf(heap:UW)(seen:UY):UT:=[(0,.var 231 [zn heap,.mr 1]),(1,.mp (seen.map (Value.int .i64)) (l6 seen.length 0))]
attribute [go_sem] qf
def TY(heap:UW)(seen:UY)(n:Int)(hh:heap.length<=1000)(hl:∀k,k<heap.length->(nth heap k).length<=1000)(hr:p8 heap)(hs:seen.length<=1000000)(v:aj)(hv:v.ty=4)(hn:v.n=n) :
  af prog 224 [.pt 0 0 0 0,rI n] (qf heap seen) (fun r l'=>r=rS (pe heap seen v).1/\l'=qf heap (pe heap seen v).2):=by
 unfold pe;rw[if_pos hv,hn];by_cases VO:1<=n/\n<=heap.length
 rotate_left
 ·rw[if_neg VO];refine aQ func224 ntmps224 ?_;refine S ?_
  (repeat' (first|refine ar fun K hK=>?_|refine av ?_|(refine hK _ _ ?_;clear hK K)|(refine au ?_ ?_<;>intro hc<;>try exact jz)|refine aq ?_|exact jI|(clear hK K)))
  (refine cd [.tmp 4] ?_ ?_<;>(try simp only[go_sem]))
 rw[if_pos VO];have hL1:=hl (n-1).toNat jB;have hLr:∀y∈nth heap (n-1).toNat,bz y:=fun y hy=>hr _ (fc jB) y hy
 have hps:=Dy n seen 0 jB;have hmg:=DL n seen 0 jB;generalize hL:nth heap (n-1).toNat=L at*;by_cases VV:jg n seen 0<0
 ·have hS':tT seen n=seen++[n]:=by unfold tT;rw[if_pos VV]
  obtain⟨Yq,hmp⟩:=HS n seen 0 jB VV;rw[if_pos VV]at hmg;have ZV:=DL n (seen++[n]) 0 jB;have hps2:=Dy n (seen++[n]) 0 jB;have hbS:=FW n seen 0 n jB;rw[if_pos VV,if_pos rfl]at hbS;rw[jN]at ZV;rw[hS'];have V5:(seen++[n]).length=seen.length+1:=jE;have hbT:l4 n (rI (seen.length+1)) seen (l6 seen.length 0)=l6 (seen++[n]).length 0:=by rw[hmp _ _ (H9 _ _),V5,GV];simp
  generalize seen++[n]=S' at*;have hjs:=Kk (L.map ld) (⟨#[44]⟩:U0) 21 fun x hx=>by obtain⟨y,hy,rfl⟩:=List.mem_map.1 hx;exact yy (hLr y hy)
  have hjm:(L.map ld).length*(((⟨#[44]⟩:U0):U0).size+21)<=100000:=by rw[List.length_map];have:((⟨#[44]⟩:U0):U0).size=1:=rfl;rw[this];omega
  have haF:=yf (jg n S' 0+1) (by unfold bz;omega);have hbU:=yy (n:=jg n S' 0+1) (by unfold bz;omega);refine aQ func224 ntmps224 ?_;refine S ?_
  (have W:=jA Yq (jA hbT (hL));repeat' (first|refine ar fun K hK=>?_|refine av ?_|(with_reducible refine gR 4 ?_);refine dE 4 (bf 0 12) mixed ?_|(refine hK _ _ ?_;clear hK K)|(refine au ?_ ?_<;>intro hc<;>try exact jz)|refine sX seen (.int .i64 0) (rI 0) iG jG (by unfold mG;rw[if_neg jC,hmg];rfl) ?_|refine k9 seen iG ?_|refine aq ?_|exact jI|(clear hK K)))
  refine iW (dI.nil 5 5 9 (sz:=1) rfl jC (Or.inl rfl)) ?_
  (refine S ?_;try exact jI)
  have Vc:=hK;clear hK;refine dJ (S:=Nat) [(5,1),(7,1),(46,10)] (fun j=>j<=L.length) (fun j=>[(46,rI j),(5,.rs 5 j 1 j)]) (fun j=>⟨[0,1],[(0,.var 231 [zn heap,.mr 1]),(1,.mp (S'.map (Value.int .i64)) (l6 S'.length 0)),(5,.aJ 9 1 (((L.take j).map ld).map eS))]⟩) (fun j=>L.length-j) 0 jB (dK rfl bU) ?_;rintro j hj Kr Vb;have X0:((L.take j).map ld).length=j:=by simp;omega
  by_cases D':j<L.length
  ·have hit:=yf (nth L j) (hLr _ (fc D'));refine S ?_
   (have W:=hL;repeat' (first|refine ar fun K hK=>?_|refine av ?_|(refine hK _ _ ?_;clear hK K)|(refine au ?_ ?_<;>intro hc<;>try exact jz)|refine cp (hit) ?_|refine aq ?_|exact jI|(clear hK K)))
   refine Vb _ _ (dT (j+1) jB (by show L.length-(j+1)<L.length-j;omega) ?_ bU);show Hp.mk _ [_,_,(5,_)]=Hp.mk _ [_,_,(5,.aJ _ _ (((L.take (j+1)).map ld).map eS))];rw[pj D'];simp only[List.map_append];rfl
  ·have hje:j=L.length:=jB;subst hje;rw[List.take_length]at X0 ⊢;refine S ?_
   (repeat' (first|refine ar fun K hK=>?_|refine av ?_|(refine hK _ _ ?_;clear hK K)|(refine au ?_ ?_<;>intro hc<;>try exact jz)|refine sX S' (.int .i64 0) (rI (jg n S' 0+1)) iG jG (by unfold mG;rw[if_neg jC,ZV];rfl) ?_|refine cp (haF) ?_|(refine cJ (L.map ld) (⟨#[44]⟩:U0) rfl X0.symm jB jB jD ?_;refine S ?_)|refine Vc _ _ ?_|refine aq ?_|exact jI|(clear hK K)))
   unfold Dq;rw[KG]
   (refine bq [.tmp 4] ?_;try simp only[go_sem])
 ·have hS':tT seen n=seen:=by unfold tT;rw[if_neg VV]
  rw[hS'];rw[if_neg VV]at hmg;have ZV:=hmg;have hjs:=Kk (L.map ld) (⟨#[44]⟩:U0) 21 fun x hx=>by obtain⟨y,hy,rfl⟩:=List.mem_map.1 hx;exact yy (hLr y hy)
  have hjm:(L.map ld).length*(((⟨#[44]⟩:U0):U0).size+21)<=100000:=by rw[List.length_map];have:((⟨#[44]⟩:U0):U0).size=1:=rfl;rw[this];omega
  have haF:=yf (jg n seen 0+1) (by unfold bz;omega);have hbU:=yy (n:=jg n seen 0+1) (by unfold bz;omega);refine aQ func224 ntmps224 ?_;refine S ?_
  (have W:=hL;repeat' (first|refine ar fun K hK=>?_|refine av ?_|(refine hK _ _ ?_;clear hK K)|(refine au ?_ ?_<;>intro hc<;>try exact jz)|refine sX seen (.int .i64 0) (rI (jg n seen 0+1)) iG jG (by unfold mG;rw[if_neg jC,hmg];rfl) ?_|refine aq ?_|exact jI|(clear hK K)))
  refine iW (dI.nil 5 5 9 (sz:=1) rfl jC (Or.inl rfl)) ?_
  (refine S ?_;try exact jI)
  have Vc:=hK;clear hK;refine dJ (S:=Nat) [(5,1),(7,1),(46,10)] (fun j=>j<=L.length) (fun j=>[(46,rI j),(5,.rs 5 j 1 j)]) (fun j=>⟨[0,1],[(0,.var 231 [zn heap,.mr 1]),(1,.mp (seen.map (Value.int .i64)) (l6 seen.length 0)),(5,.aJ 9 1 (((L.take j).map ld).map eS))]⟩) (fun j=>L.length-j) 0 jB (dK rfl bU) ?_;rintro j hj Kr Vb;have X0:((L.take j).map ld).length=j:=by simp;omega
  by_cases D':j<L.length
  ·have hit:=yf (nth L j) (hLr _ (fc D'));refine S ?_
   (have W:=hL;repeat' (first|refine ar fun K hK=>?_|refine av ?_|(refine hK _ _ ?_;clear hK K)|(refine au ?_ ?_<;>intro hc<;>try exact jz)|refine cp (hit) ?_|refine aq ?_|exact jI|(clear hK K)))
   refine Vb _ _ (dT (j+1) jB (by show L.length-(j+1)<L.length-j;omega) ?_ bU);show Hp.mk _ [_,_,(5,_)]=Hp.mk _ [_,_,(5,.aJ _ _ (((L.take (j+1)).map ld).map eS))];rw[pj D'];simp only[List.map_append];rfl
  ·have hje:j=L.length:=jB;subst hje;rw[List.take_length]at X0 ⊢;refine S ?_
   (repeat' (first|refine ar fun K hK=>?_|refine av ?_|(refine hK _ _ ?_;clear hK K)|(refine au ?_ ?_<;>intro hc<;>try exact jz)|refine sX seen (.int .i64 0) (rI (jg n seen 0+1)) iG jG (by unfold mG;rw[if_neg jC,ZV];rfl) ?_|refine cp (haF) ?_|(refine cJ (L.map ld) (⟨#[44]⟩:U0) rfl X0.symm jB jB jD ?_;refine S ?_)|refine Vc _ _ ?_|refine aq ?_|exact jI|(clear hK K)))
   unfold Dq;rw[KG]
   (refine bq [.tmp 4] ?_;try simp only[go_sem])
@[go_sem] def jwV(v:aj):(bY v).drop 3=[]:=(rfl)
attribute [go_sem] List.append_nil
def Ta(heap:UW)(seen:UY)(slots:List aj)(x:bB)(hx:0<=x.slot)(hxs:x.slot<=1000000)(hh:heap.length<=1000)(hl:∀k,k<heap.length->(nth heap k).length<=1000)(hr:p8 heap)(hs:seen.length<=1000000)(Yd:pH slots)(V5:slots.length<=1000) :
  af prog 178 [.pt 0 0 0 0,OJ slots,.agg (k7 x)] (qf heap seen) (fun r l'=>r=rS (pe heap seen (dU slots x.slot x.ty)).1/\l'=qf heap (pe heap seen (dU slots x.slot x.ty)).2):=by
 have hz:=zG x.ty;have XW:=FX Yd x.slot x.ty;have hgs:=Lb slots x.slot x.ty;have Vs:dU slots x.slot x.ty=if x.slot<slots.length then(if lc (nth slots x.slot.toNat)=true/\(nth slots x.slot.toNat).ty=x.ty then nth slots x.slot.toNat else vZ x.ty)else vZ x.ty:=by
  unfold dU;by_cases e:x.slot<slots.length
  ·rw[jN,if_pos e]
  ·rw[jP,if_neg e]
 generalize dU slots x.slot x.ty=X at*;have hq:=OC X XW jB;have hli:X.ty=4->_:=fun h4=>TY heap seen X.n hh hl hr hs X h4 rfl
 have htq:X.ty≠4->pe heap seen X=(Ag X,seen):=fun h=>by unfold pe;rw[if_neg h]
 generalize pe heap seen X=T at*;have Ws:=uI (nth slots x.slot.toNat);by_cases e1:x.slot<slots.length
 ·rw[if_pos e1]at Vs;by_cases e2:(nth slots x.slot.toNat).ty=x.ty
  ·by_cases e3:lc (nth slots x.slot.toNat)=true
   ·rw[if_pos ⟨e3,e2⟩]at Vs;rw[<-Vs]at e2 e3 Ws;by_cases h4:X.ty=4
    ·have Yb:=hli h4;refine aQ func178 ntmps178 ?_;refine S ?_
     (have W:=jA e3 (jA e2 (Vs.symm));repeat' (first|refine ar fun K hK=>?_|refine av ?_|(with_reducible refine gR 2 ?_);refine dE 2 (bf 0 24) mixed ?_|(refine hK _ _ ?_;clear hK K)|(refine au ?_ ?_<;>intro hc<;>try exact jz)|refine bv 5 ?_|refine cC 6 ?_|refine cp (hz) ?_|(first|refine cg (Ws) ?_|refine oH (Ws) ?_)|refine cm (Yb) ?_|refine aq ?_|exact jI|(clear hK K)))
     all_goals(refine bq [.tmp 6] ?_;try simp only[go_sem])
    ·rw[htq h4];refine aQ func178 ntmps178 ?_;refine S ?_
     (have W:=jA e3 (jA e2 (Vs.symm));repeat' (first|refine ar fun K hK=>?_|refine av ?_|(with_reducible refine gR 2 ?_);refine dE 2 (bf 0 24) mixed ?_|(refine hK _ _ ?_;clear hK K)|(refine au ?_ ?_<;>intro hc<;>try exact jz)|refine bv 5 ?_|refine cC 6 ?_|refine cp (hz) ?_|refine cp (hq) ?_|(first|refine cg (Ws) ?_|refine oH (Ws) ?_)|refine aq ?_|exact jI|(clear hK K)))
     all_goals(refine bq [.tmp 6] ?_;try simp only[go_sem])
   ·rw[if_neg (fun h=>e3 h.1)]at Vs;have e3:lc (nth slots x.slot.toNat)=false:=by simpa using e3
    have e4:X.ty=x.ty:=by rw[Vs];rfl
    rw[<-Vs]at hz;by_cases h4:X.ty=4
    ·have Yb:=hli h4;refine aQ func178 ntmps178 ?_;refine S ?_
     (have W:=jA e3 (jA e2 (e4));repeat' (first|refine ar fun K hK=>?_|refine av ?_|(with_reducible refine gR 2 ?_);refine dE 2 (bf 0 24) mixed ?_|(refine hK _ _ ?_;clear hK K)|(refine au ?_ ?_<;>intro hc<;>try exact jz)|refine bv 5 ?_|refine cC 6 ?_|refine cp (hz) ?_|(first|refine cg (Ws) ?_|refine oH (Ws) ?_)|refine cm (Yb) ?_|refine aq ?_|exact jI|(clear hK K)))
     all_goals(refine bq [.tmp 6] ?_;try simp only[go_sem])
    ·rw[htq h4];refine aQ func178 ntmps178 ?_;refine S ?_
     (have W:=jA e3 (jA e2 (e4));repeat' (first|refine ar fun K hK=>?_|refine av ?_|(with_reducible refine gR 2 ?_);refine dE 2 (bf 0 24) mixed ?_|(refine hK _ _ ?_;clear hK K)|(refine au ?_ ?_<;>intro hc<;>try exact jz)|refine bv 5 ?_|refine cC 6 ?_|refine cp (hz) ?_|refine cp (hq) ?_|(first|refine cg (Ws) ?_|refine oH (Ws) ?_)|refine aq ?_|exact jI|(clear hK K)))
     all_goals(refine bq [.tmp 6] ?_;try simp only[go_sem])
  ·rw[if_neg (fun h=>e2 h.2)]at Vs;have e4:X.ty=x.ty:=by rw[Vs];rfl
   rw[<-Vs]at hz;have e2':=eq_false e2;by_cases h4:X.ty=4
   ·have Yb:=hli h4;refine aQ func178 ntmps178 ?_;refine S ?_
    (have W:=jA e2' e4;repeat' (first|refine ar fun K hK=>?_|refine av ?_|(with_reducible refine gR 2 ?_);refine dE 2 (bf 0 24) mixed ?_|(refine hK _ _ ?_;clear hK K)|(refine au ?_ ?_<;>intro hc<;>try exact jz)|refine bv 5 ?_|refine cC 6 ?_|refine cp (hz) ?_|(first|refine cg (Ws) ?_|refine oH (Ws) ?_)|refine cm (Yb) ?_|refine aq ?_|exact jI|(clear hK K)))
    all_goals(refine bq [.tmp 6] ?_;try simp only[go_sem])
   ·rw[htq h4];refine aQ func178 ntmps178 ?_;refine S ?_
    (have W:=jA e2' e4;repeat' (first|refine ar fun K hK=>?_|refine av ?_|(with_reducible refine gR 2 ?_);refine dE 2 (bf 0 24) mixed ?_|(refine hK _ _ ?_;clear hK K)|(refine au ?_ ?_<;>intro hc<;>try exact jz)|refine bv 5 ?_|refine cC 6 ?_|refine cp (hz) ?_|refine cp (hq) ?_|(first|refine cg (Ws) ?_|refine oH (Ws) ?_)|refine aq ?_|exact jI|(clear hK K)))
    all_goals(refine bq [.tmp 6] ?_;try simp only[go_sem])
 ·rw[if_neg e1]at Vs;have e4:X.ty=x.ty:=by rw[Vs];rfl
  rw[<-Vs]at hz;by_cases h4:X.ty=4
  ·have Yb:=hli h4;refine aQ func178 ntmps178 ?_;refine S ?_
   (have W:=e4;repeat' (first|refine ar fun K hK=>?_|refine av ?_|(with_reducible refine gR 2 ?_);refine dE 2 (bf 0 24) mixed ?_|(refine hK _ _ ?_;clear hK K)|(refine au ?_ ?_<;>intro hc<;>try exact jz)|refine bv 5 ?_|refine cC 6 ?_|refine cp (hz) ?_|(first|refine cg (Ws) ?_|refine oH (Ws) ?_)|refine cm (Yb) ?_|refine aq ?_|exact jI|(clear hK K)))
   all_goals(refine bq [.tmp 6] ?_;try simp only[go_sem])
  ·rw[htq h4];refine aQ func178 ntmps178 ?_;refine S ?_
   (have W:=e4;repeat' (first|refine ar fun K hK=>?_|refine av ?_|(with_reducible refine gR 2 ?_);refine dE 2 (bf 0 24) mixed ?_|(refine hK _ _ ?_;clear hK K)|(refine au ?_ ?_<;>intro hc<;>try exact jz)|refine bv 5 ?_|refine cC 6 ?_|refine cp (hz) ?_|refine cp (hq) ?_|(first|refine cg (Ws) ?_|refine oH (Ws) ?_)|refine aq ?_|exact jI|(clear hK K)))
   all_goals(refine bq [.tmp 6] ?_;try simp only[go_sem])
def rb(v:bB):Prop:=0<=v.slot/\v.slot<24
def SK{p:ab}(h:nU p){x:Int}(hx:x.toNat<p.aa.nodes.length)(kb:(nth p.aa.nodes x.toNat).kind=15\/(nth p.aa.nodes x.toNat).kind=16):∀y∈(nth p.aa.nodes x.toNat).l.drop 1,bX p.aa.nodes y=18:=fun y hy=>by
 have shx:=h.aa.shape x.toNat hx;rcases kb with kb|kb
 ·obtain⟨a,c,_,hb,hl|⟨d,hl,hd⟩⟩:=shx.1.lg kb
  ·rw[hl]at hy;simp at hy;subst hy;exact hb
  ·rw[hl]at hy;simp at hy;rcases hy with rfl|rfl
   ·exact hb
   ·exact hd
 ·obtain⟨a,c,hl,_,hb⟩:=shx.1.ee kb;rw[hl]at hy;simp at hy;subst hy;exact hb
theorem Hg{p:ab}(h:fO p){j:Nat}(hj:j<p.aa.ao.length)(node:Int):∀(n:Nat) (b:Int) (vars R:List bB),lU p j ⟨b,0⟩->(∀v∈vars,rb v)->jK p node n b vars=some R->∀v∈R,rb v
 |0,b,vars,R,_,_,e=>by cases e
 |n+1,b,vars,R,hb,hv,e=>by
  have ih:=Hg h hj node n;have hf:=h.ao j hj;have aH:∀(l:UY) (vs R:List bB),(∀y∈l,lU p j ⟨y,0⟩)->(∀v∈vs,rb v)->nF (jK p node n) vs l=some R->∀v∈R,rb v:=fun l=>by
   induction l with
   |nil=>intro vs R _ _ e;cases e
   |cons y l ihl=>
    intro vs R hl WI e;unfold nF at e;cases e1:jK p node n y vs with
    |none=>rw[e1]at e;exact ihl vs R (fun z hz=>hl z (by simp[hz])) WI e
    |some R'=>rw[e1]at e;cases e;exact ih y vs _ (hl y jE) WI e1
  have sc:∀(l:UY) (vs R:List bB),(∀x∈l,x∈rG p b)->(∀v∈vs,rb v)->oT (jK p node n) p node l vs=some R->∀v∈R,rb v:=fun l=>by
   induction l with
   |nil=>intro vs R _ _ e;cases e
   |cons x l ihl=>
    intro vs R hx WI e;obtain⟨x0,x1,x2,x3⟩:=hb.aH h (by omega:(0:Int)<=j) jB (hx x jE);have x1:x.toNat<b.toNat:=x1;have x2:kW p.aa j<=x.toNat:=by rw[Int.toNat_natCast]at x2;exact x2
    have XX:b.toNat<=(nth p.aa.ao j).body.toNat:=by have:=hb.hi;rw[Int.toNat_natCast]at this;exact this
    have Wf:=n7 h.ok.aa hj;have Yv:x.toNat<p.aa.nodes.length:=by have:=Wf.1;have:=Wf.2;omega
    have YI:∀v∈k8 p x vs,rb v:=fun v Vp=>by
     unfold k8 at Vp;split at Vp
     ·rename_i k10;rcases List.mem_append.1 Vp with Vp|Vp
      ·exact WI v Vp
      ·rw[List.mem_singleton]at Vp;subst Vp;have k10:(nth p.aa.nodes x.toNat).kind=10:=k10;have:=hf.all x.toNat x2 jB (by unfold jM;omega);have hz:=hf.hi;exact⟨this.1,by show nth p.slots x.toNat<24;omega⟩
     ·exact WI v Vp
    unfold oT at e;split at e
    ·cases e;exact WI
    ·cases e1:(if(ak p x).kind=15\/(ak p x).kind=16 then nF (jK p node n) (k8 p x vs) ((ak p x).l.drop 1)else none)with
     |none=>rw[e1]at e;exact ihl _ R (fun y hy=>hx y (by simp[hy])) YI e
     |some R'=>
      rw[e1]at e;cases e;split at e1
      ·rename_i kb;refine aH _ _ _ (fun y hy=>?_) YI e1;have YQ:y∈(nth p.aa.nodes x.toNat).l:=List.mem_of_mem_drop hy;have ZR:=(h.ok.aa.shape x.toNat Yv).2.1 y YQ;have U9:=hf.chain.closed x.toNat x2 jB y YQ;exact⟨ZR.1,by rw[Int.toNat_natCast];exact U9,by rw[Int.toNat_natCast];show y.toNat<=_;omega,SK h.ok Yv kb y hy,Int.le_refl _,by show(0:Int)<=_;omega⟩
      ·cases e1
  exact sc (ak p b).l vars R (fun x hx=>hx) hv e
theorem KB:∀(l:List bI) (i:Int),0<=i->i+l.length<=24->∀v∈jQ l i,rb v
 |[],i,_,_,v,hv=>by cases hv
 |x::l,i,h0,h1,v,hv=>by
  simp only[List.length_cons]at h1;simp only[jQ,List.mem_cons]at hv;rcases hv with rfl|hv
  ·exact⟨h0,by show i<24;omega⟩
  ·exact KB l (i+1) jB jB v hv
def MB{p:ab}(h:fO p)(VD:∀k,k<p.aa.nodes.length->0<=nth p.fn k/\nth p.fn k<p.aa.ao.length){node:Int}(h1:node.toNat<p.aa.nodes.length):∀v∈fL p node,rb v:=by
 obtain⟨f0,f1⟩:=VD _ h1;have XO:(nth p.fn node.toNat).toNat<p.aa.ao.length:=jB;have hps:=(h.ok.aa.fn _ (fc XO)).2;have Wf:=n7 h.ok.aa XO;have hf:=h.ao _ XO;unfold fL;cases e:jK p node p.aa.nodes.length (nth p.aa.ao (nth p.fn node.toNat).toNat).body (jQ (nth p.aa.ao (nth p.fn node.toNat).toNat).params 0)with
 |none=>intro v hv;cases hv
 |some R=> exact Hg h XO node _ _ _ R ⟨Wf.1,by rw[Int.toNat_natCast];exact hf.chain.le,by rw[Int.toNat_natCast];exact Nat.le_refl _,h.ok.aa.body _ (fc XO),Int.le_refl _,by show(0:Int)<=_;omega⟩ (KB _ _ (Int.le_refl _) jB) e
end Go.Proofs.YtjpcgmjaipfgdaaGreatDoor