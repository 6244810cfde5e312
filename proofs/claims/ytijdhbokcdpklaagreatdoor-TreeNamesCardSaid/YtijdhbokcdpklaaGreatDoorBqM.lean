/- Lemmas. No conditions. -/
import Derived.Test.YtijdhbokcdpklaaGreatDoorBqA
import Derived.Laws.RangeAny
import Derived.Laws.RangeString
set_option linter.all false
set_option maxHeartbeats 4000000
set_option maxRecDepth 10000
namespace Go.Gd
open Go
def dr(b:ar):List az:=ie b.base b.own
def bZ:ar:=⟨sE,[],[],[]⟩
def TP{P:UY}{f:FuncId}{args:UM}{r:AV}(cO:UU)(v:Value)(ha:∀(w:NW) vs,bs w args vs->vs=cO)(hr:∀w:NW,ax w r v)(h:∀w:NW,j6 w->Calls P f cO w.toWorld fun e w'=>e=.returned v/\RowKit.Below w.heap.size w.toWorld w'):aB P f args r:=by intro w vs h1 h2;have Xp:=ha w vs h2;subst Xp;refine(h w h1.cd).mono ?_;rintro e W ⟨rfl,hb⟩;have ex:Ext w (entry []) (w.to W) (entry []):={ size:=hb.size,free:=fun b VQ hO=>⟨hb.block b VQ,hO⟩,names:=fun _ _ _ _ h=>h,os:=hb.os,tape:=hb.tape,output:=hb.output,rest:=fun b VQ hO U8=>⟨hb.block b VQ,hO,U8⟩,base:=rfl };refine⟨v,r,entry [],w.to W,rfl,rfl,⟨rfl,rfl⟩,{ rows:=fun i row hi=>(by cases hi),di:=h1.di,inj:=h1.inj,own:=h1.own,cd:=h1.cd.aY ex.toKeep,fin:=fun b VQ=>Nat.lt_of_lt_of_le (h1.fin b VQ) hb.size },hr _,ex.pU⟩
def SJ{w:NW}{a b:AV}{vs:UU}(h:bs w [a,b] vs):∃x y,vs=#[x,y]/\ax w a x/\ax w b y:=by
 obtain⟨hl,hg⟩:=h;obtain⟨l⟩:=vs;match l,hl with
 |[x,y],_=>exact⟨x,y,rfl,hg 0 a x rfl rfl,hg 1 b y rfl rfl⟩
def PM{P:UY}{f:FuncId}{avs:UM}{v:Value}{args:UU}{W:World}(hg:j6 (n0 W))(h:aB P f avs (.raw v))(ha:ci (n0 W) avs args.toList):Calls P f args W fun e W'=>e=.returned v/\RowKit.Below W.heap.size W W':=by refine(h (n0 W) args (JC W hg) ⟨by rw[ha.1];simp,fun i a v h1 h2=>ha.2 i a v h1 (by rw[Array.getElem?_toList];exact h2)⟩).mono ?_;rintro e w' ⟨v,r,H',w2,rfl,rfl,⟨rfl,_⟩,_,g2,g3⟩;have:=df g2;subst this;exact⟨rfl,⟨g3.os,g3.tape,g3.output,g3.size,fun k hk=>(g3.free k hk (fun h=>h)).1⟩⟩
def ou(r:Nat):Bool:=(decide (97<=r) && decide (r<=122)) || (decide (48<=r) && decide (r<=57))
def qb(r:Nat):Bool:=!(ou r)
def fl(s:UR):Bool:=decide (1<=s.size) && decide (s.size<=8) && s.data.toList.all fun b=>ou b.toNat
theorem GP(s:UR):∀f pos,s.size<=pos+f->(Lib.idxFuncFrom qb true s f pos<0<->∀k (h:k<s.size),pos<=k->ou (s[k]'h).toNat=true)
 |0,pos,h=>by unfold Lib.idxFuncFrom;exact⟨fun _ k hk hp=>jB,fun _=>jB⟩
 |f+1,pos,h=>by
  unfold Lib.idxFuncFrom;by_cases hp:pos<s.size
  ·rw[if_pos hp];by_cases ha:(s[pos]'hp).toNat<128
   ·rw[decode_ascii s pos hp ha];by_cases hn:ou (s[pos]'hp).toNat=true
    ·rw[if_neg (by unfold qb;rw[hn];decide),GP s f (pos+1) jB];constructor
     ·intro h1 k hk hpk;by_cases e:k=pos
      ·subst e;exact hn
      ·exact h1 k hk jB
     ·intro h1 k hk hpk;exact h1 k hk jB
    ·rw[if_pos (by unfold qb;simpa using hn)];exact⟨fun h1=>jB,fun h1=>(hn (h1 pos hp jl)).elim⟩
   ·obtain⟨h1,h2⟩:=decode_high s pos hp jB;have hb:qb (Utf8.decode s pos).1=true:=by unfold qb ou;simp;omega
    rw[if_pos hb];refine⟨fun h1=>jB,fun h3=>?_⟩;have:=h3 pos hp jl;unfold ou at this;simp at this;omega
  ·rw[if_neg hp];exact⟨fun _ k hk hp'=>jB,fun _=>jB⟩
def Of(s:UR):decide (0<=Lib.idxFunc qb true s)=!(s.data.toList.all fun b=>ou b.toNat):=by
 have h:=GP s s.size 0 jB;unfold Lib.idxFunc;have e:(s.data.toList.all fun b=>ou b.toNat)=true<->∀k (h:k<s.size),0<=k->ou (s[k]'h).toNat=true:=by
  rw[List.all_eq_true];constructor
  ·intro h k hk _;exact h _ (by
    have:s[k]=s.data.toList[k]'(by simpa using hk):=by simp[ByteArray.getElem_eq_getElem_data]
    rw[this];exact List.getElem_mem _)
  ·intro h b hb;obtain⟨k,hk,rfl⟩:=List.getElem_of_mem hb;have:=h k (by simpa using hk) (Nat.zero_le _);simpa[ByteArray.getElem_eq_getElem_data]using this
 by_cases hA:(s.data.toList.all fun b=>ou b.toNat)=true
 ·rw[hA];have:=h.2 (e.1 hA);simp;omega
 ·have hn:¬Lib.idxFuncFrom qb true s s.size 0<0:=fun h1=>hA (e.2 (h.1 h1))
  rw[Bool.eq_false_iff.2 hA];simp;omega
def Ic{cs ds:UM}(h:nn cs ds):Sub (.agg cs) (.agg ds):=fun w v hv=>by
 obtain⟨O',hg⟩:=h.get;cases hv with
 |agg _ vs hl hr=>
  refine .agg ds vs (O'.symm.trans hl) fun i a v ha hv=>?_
  have hi:i<cs.length:=by rw[O'];exact(List.getElem?_eq_some_iff.1 ha).1
  exact hg i cs[i] a (List.getElem?_eq_getElem hi) ha w v (hr i _ v (List.getElem?_eq_getElem hi) hv)
structure wG where
 name:ByteArray
 x:az
 t:Int
 n:Int
 deriving Inhabited,DecidableEq
def Cm(x:wG):UM:=[.raw (.string x.name),.raw (.int .i64 x.x.at_),.raw (.string x.x.name),.raw (.int .i64 x.x.v.ty),.raw (.int .i64 x.x.v.n),.raw (.string x.x.v.s),.raw (.int .i64 x.t),.raw (.int .i64 x.n)]
section
variable (x y:wG)
@[go_sem] def S9(q:UX):aZ q (Cm x)=true:=by simp[Cm,aZ,AV.all]
instance:bK Cm 8:=⟨fun _=>rfl,fun _=>rfl,fun x=>S9 x _⟩
end
def o5(s:UR):UR:=if 700<s.size then s.extract 0 700 else s
def JM(s:UR):(o5 s).size<=1000000:=by
 unfold o5;split
 ·rw[ByteArray.size_extract];omega
 ·omega
def Gx(s:UR):UR:=if 20<s.size then s.extract 0 20 else s
end Go.Gd
namespace Go.Proofs.YtijdhbokcdpklaaGreatDoor
open Go Go.Gd Tryz Go.Gd.MV
section
variable {p:af}{C:aI}{inp:UP}
def S2(M:MV)(c:MC)(k:Nat)(hM:eW p C M)(hN:M.calls.length<=1)(hc:ma p c)(P':c.stack=[])(VF:c.at_=(k:Int))(hk:dU p C c.fn.toNat k):∃m1,bf p C inp (M.aX c) m1/\m1.dF C/\m1.status≠1:=by
 generalize hj:c.fn.toNat=j at hk;have h1:=hM.one;have ht:=MV.bp (M:=M) h1;have hst0:=hM.st;induction hk generalizing c with
 |@mark k n a h0 hn hl hi hkd hC h _=>
  have hm:lr p C j k n a:=⟨h0,hn,hl,hi,hkd,hC,h⟩;refine⟨_,bf.refl _,.inr ?_,?_⟩
  ·unfold MV.bh;rw[ht,VF,Int.toNat_natCast,hm.head.2];rfl
  ·show M.status≠1;omega
 |@jump k k' hk hx h ih=> obtain⟨m1,g,d⟩:=ih { c with at_:=(k':Int) } ⟨hc.f0,hc.f1,hc.sl,hc.rg⟩ P' rfl hj;refine⟨m1,bf.ins h1 hM.dX hM.st VF hk hx (fun h=>by cases h) (oW h1 hM.dX VF hk hx (fun u hu=>by rw[P']at hu;cases hu) (by rw[P'];simp) ⟨by show(1:Int)<=16;decide,by show(16:Int)<=23;decide⟩ 0 (Nat.zero_le _) (fun _=>.inr (.inr (.inr (.inr (.inr (.inl rfl)))))) (fun h=>by cases h) (fun h=>by rcases h with h|h|h|h<;>cases h) (fun h=>by cases h)) ?_,d⟩;rw[MV.mj,ht,MV.dx];exact g
 |@fin k r hk hx=>
  have go:∀m',bf p C inp ((M.aX { c with at_:=(k:Int)+1 }).ends (vZ r)) m'->bf p C inp (M.aX c) m':=fun m' g=> bf.ins h1 hM.dX hM.st VF hk hx (fun h=>by cases h) (oW h1 hM.dX VF hk hx (fun u hu=>by rw[P']at hu;cases hu) (by rw[P'];simp) ⟨by show(1:Int)<=22;decide,by show(22:Int)<=23;decide⟩ 0 (Nat.zero_le _) (fun _=>.inr (.inr (.inr (.inr (.inr (.inr (.inr rfl))))))) (fun h=>by cases h) (fun h=>by rcases h with h|h|h|h<;>cases h) (fun h=>by cases h)) g
  refine⟨_,go _ (bf.refl _),?_⟩;unfold MV.ends;rw[MV.bP,if_pos hN];exact⟨.inl (by show(2:Int)≠0;decide),by show(2:Int)≠1;decide⟩
def Ru(hs:gi p)(hE:uV p C):∃m1,bf p C inp (l4 p C) m1/\m1.dF C/\m1.status≠1:=by
 obtain⟨j,hj,Xj,_,haP⟩:=BZ hs;obtain⟨ek,e1,e2⟩:=hE j hj;have hf:=hs.aw j hj;have p1:=hf.vm;have hM:eW p C (l4 p C):=⟨by show 1<=1;decide,by show 1<=8;decide,rfl,by show(0:Int)<=0/\(0:Int)<=9;decide,fun k hk=>by have hk:k+1<1:=hk;omega,by show gw []<=40;decide,fun l hl=>by cases hl⟩
 have VY:(MV.iF p C (ik p) []).fn.toNat=j:=by show(ik p).toNat=j;rw[Xj,Int.toNat_natCast]
 have U':nth p.size (ik p).toNat=nth p.size j:=by rw[Xj,Int.toNat_natCast]
 obtain⟨m1,g,d⟩:=S2 (inp:=inp) (l4 p C) (MV.iF p C (ik p) []) ek hM (Nat.le_refl 1) ⟨by show 0<=ik p;omega,by show ik p<_;omega,by
  show(([]++List.replicate _ v0:List aj).length:Int)=nth p.size (ik p).toNat;rw[List.nil_append,List.length_replicate,U'];simp only[List.length_nil];omega,fun v hv=>by
  have hv:v∈([]++List.replicate _ v0:List aj):=hv;rw[List.nil_append]at hv;rw[(List.mem_replicate.1 hv).2];exact ru⟩ rfl (by show nth C.entry (ik p).toNat=_;rw[Xj,Int.toNat_natCast];exact e1) (by rw[VY];exact e2)
 exact⟨m1,g,d⟩
end
open Classical in
noncomputable def m0V(p:af):MV:=if h:∃m1,bf p (bA p) [] (l4 p (bA p)) m1/\m1.dF (bA p)then Classical.choose h else l4 p (bA p)
def yE{p:af}{m:MV}(hg:bf p (bA p) [] (l4 p (bA p)) m)(P':m.dF (bA p)):m0V p=m:=by have h:∃m1,bf p (bA p) [] (l4 p (bA p)) m1/\m1.dF (bA p):=⟨m,hg,P'⟩;unfold m0V;rw[dif_pos h];obtain⟨⟨n,g⟩,s⟩:=Classical.choose_spec h;obtain⟨k,g2⟩:=hg;exact IN g g2 s P'
def pX{p:af}(hs:gi p)(inp:UP):IM p inp (m0V p)/\(m0V p).time=0/\(m0V p).status≠1:=by obtain⟨m1,hg,P',h1,XL⟩:=BF hs (yd hs) [];obtain⟨m2,Ww,hbC,h2⟩:=Ru (inp:=[]) hs (yd hs);have e1:=yE hg P';have e2:=yE Ww hbC;have XL:m1.time=0:=XL;obtain⟨n,g⟩:=hg;have i0:=Br g;have i1:=JA g (Int.le_refl 0);have i0:0<=m1.in_:=i0;have i1:m1.in_<=0:=i1;rw[e1]at e2;rw[e1];exact⟨⟨h1,jB,i0,jB⟩,XL,e2 ▸ h2⟩
noncomputable def runM(p:af)(F:UP->MV->MV)(inp:UP)(E:List az)(t:Int):MV×Nat×Bool:=da MV.time (F inp) (dw p (bA p)) E (dM t) ((dM t-(m0V p).time).toNat+1) (m0V p) 0 false
noncomputable def badM(p:af)(F:UP->MV->MV)(inp:UP)(E:List az)(t:Int):Int:=l5 E (dM t) (runM p F inp E t)
noncomputable def shotM(p:af)(F:UP->MV->MV)(inp:UP)(E:List az)(t:Int):k6:=(runM p F inp E t).1.dJ (bA p)
section
variable {p:af}(hp:mf p){F:UP->MV->MV}(hF:bH p (bA p) F){inp:UP}(VU:inp.length<=1000)(hi:∀x∈inp,bE x){k:Nat}{E:List az}(hE:∀k,k<E.length->bE (nth E k).v.n)
include hp hF VU hi hE
theorem GX:∀(n:Nat) (x:ES) (j:Nat) (b:Bool),EI p inp k x->(cz jL (seE p inp k) E n x j b).1.m=(cz MV.time (dw p (bA p)) E n x.m j b).1/\(cz jL (seE p inp k) E n x j b).2=(cz MV.time (dw p (bA p)) E n x.m j b).2
 |0,x,j,b,_=>⟨rfl,rfl⟩
 |n+1,x,j,b,h=>by
  unfold cz;have et:jL x=x.m.time:=rfl;rw[et];by_cases c:b=false/\j<E.length/\(nth E j).at_=x.m.time
  ·rw[if_pos c,if_pos c];cases e:seE p inp k x (nth E j).name (nth E j).v with
   |none=>rw[G9 hp h _ _ e];exact⟨rfl,rfl⟩
   |some x'=> obtain⟨m',e1,_,e3⟩:=DD hp h _ _ (hE j c.2.1) e;rw[e1];have:=GX n x' (j+1) false e3.2.1;rw[e3.1]at this;exact this
  ·rw[if_neg c,if_neg c];exact⟨rfl,rfl⟩
theorem Gi{T:Int}(hT:T<=200):∀(n:Nat) (x:ES) (j:Nat) (b:Bool),EI p inp k x->x.m.time<=T->(da jL (stE p inp k F) (seE p inp k) E T n x j b).1.m=(da MV.time (F inp) (dw p (bA p)) E T n x.m j b).1/\(da jL (stE p inp k F) (seE p inp k) E T n x j b).2=(da MV.time (F inp) (dw p (bA p)) E T n x.m j b).2
 |0,x,j,b,_,_=>⟨rfl,rfl⟩
 |n+1,x,j,b,h,ht=>by
  obtain⟨a1,a2,_⟩:=nw (wY hp hF VU hi hE) (E.length+1) x j b h;obtain⟨b1,b2⟩:=GX hp hF VU hi hE (E.length+1) x j b h;unfold da;generalize cz MV.time (dw p (bA p)) E (E.length+1) x.m j b=Q at*;generalize cz jL (seE p inp k) E (E.length+1) x j b=R at*;obtain⟨R1,R2⟩:=R;obtain⟨Q1,Q2⟩:=Q;have b1:R1.m=Q1:=b1;have b2:R2=Q2:=b2;subst b1 b2;have a1:EI p inp k R1:=a1;have a2:R1.m.time=x.m.time:=a2;simp only;have et:jL R1=R1.m.time:=rfl;rw[et];by_cases c:R1.m.time=T
  ·rw[if_pos c,if_pos c];exact⟨rfl,rfl⟩
  rw[if_neg c,if_neg c];have P':=AX hp hF VU hi a1 jB;have e2:jL (stE p inp k F R1)=(F inp R1.m).time:=by show(stE p inp k F R1).m.time=_;rw[P'.1]
  have e3:=((wY hp hF VU hi (k:=k) hE).st R1 a1 (by show R1.m.time<200;omega)).2;rw[e2];by_cases d:(F inp R1.m).time=R1.m.time
  ·rw[if_pos d,if_pos d];exact⟨P'.1,rfl⟩
  ·rw[if_neg d,if_neg d];have:=Gi hT n (stE p inp k F R1) R2.1 R2.2 P'.2.1 (by
    show(stE p inp k F R1).m.time<=T;have e3:(stE p inp k F R1).m.time=R1.m.time\/(stE p inp k F R1).m.time=R1.m.time+1:=e3;omega)
   rw[P'.1]at this;exact this
theorem DP(U7:fg p)(hl:E.length<=1000)(t:Int)(ht:bE t):∃k EE,cW prog 61 [.agg (cf p),aM eI 1 inp,aM bv 5 E,rI t] [] (.aQ [.pt (hn 3 k) 0 0 0,rI (badM p F inp E t)]) EE/\cW prog 63 [.pt (hn 3 k) 0 0 0] EE (.agg (lQ (shotM p F inp E t))) EE/\MI p (bA p) (runM p F inp E t).1/\Bd inp.length (runM p F inp E t).1:=by
 obtain⟨x0,hEI,XL,hg,P',hc⟩:=ND hp U7 hF VU hi hE hl t ht;have e0:=yE hg P';have h0:x0.m.time<=dM t:=by unfold dM;omega
 have hT:dM t<=200:=by unfold dM;omega
 obtain⟨p1,p2⟩:=Gi hp hF VU hi (k:=x0.N.k) hE hT ((dM t-jL x0).toNat+1) x0 0 false hEI h0;have Wn:=(sP (wY hp hF VU hi (k:=x0.N.k) hE) hT ((dM t-jL x0).toNat+1) x0 0 false hEI h0 (Nat.zero_le _)).1;have er:runM p F inp E t=da MV.time (F inp) (dw p (bA p)) E (dM t) ((dM t-jL x0).toNat+1) x0.m 0 false:=by unfold runM;rw[e0];rfl
 have eb:l5 E (dM t) (da jL (stE p inp x0.N.k F) (seE p inp x0.N.k) E (dM t) ((dM t-jL x0).toNat+1) x0 0 false)=badM p F inp E t:=by unfold badM l5;rw[er,p2]
 rw[eb]at hc;rw[<-er]at p1;generalize da jL (stE p inp x0.N.k F) (seE p inp x0.N.k) E (dM t) ((dM t-jL x0).toNat+1) x0 0 false=G at*;have hC:=rl hp.ok;have:=hC.len;have:=hC.px;have:=hp.ok.ok.aa.aw;have:=hp.ok.ok.size;have Wz:=xh (Wn.R.wb Wn.ok Wn.sub) (Ay Wn.mi Wn.bd jB);have XY:=Wn.key;rw[show mP G.1.N=.pt (hn 3 x0.N.k) 0 0 0 by unfold mP;rw[XY]]at Wz;refine⟨x0.N.k,G.1.E,⟨hc,⟨fun _ _ _=>rfl,List.nodup_nil,fun i r h=>by cases h⟩,Wn.ok,fun i h=>(h rfl).elim,rfl⟩,?_,p1 ▸ Wn.mi,p1 ▸ Wn.bd⟩;unfold shotM;rw[<-p1];exact Wz
end
section
variable (p:af)(F:UP->MV->MV)
noncomputable def atB(b:ar)(t:Int):k6:=shotM p F b.aD (dr b) t
noncomputable def badB(b:ar):Int:=badM p F b.aD (dr b) 200
noncomputable def fineB(b:ar):ar×Int:=if badB p F b≠0 then(bZ,65)else(b,0)
noncomputable def forkB(ok:Bool)(b:ar)(nm:UR)(x:az):ar×Int:=
 if ok=false\/jS x=false then(bZ,1)else if(atB p F b x.at_).time<x.at_ then(bZ,63)
 else if 8<=(cv (dr b) x.at_).length then(bZ,62)else fineB p F ⟨nm,b.aD,cv (dr b) x.at_,[x]⟩
noncomputable def inputB(ok:Bool)(b:ar)(nm:UR)(t n:Int):ar×Int:=
 if ok=false\/t<0\/200<t then(bZ,1)else if(atB p F b t).time<t then(bZ,63)
 else if 16<=(atB p F b t).in_ then(bZ,62)else(⟨nm,b.aD.take (atB p F b t).in_.toNat++[n],cv (dr b) t,[]⟩,0)
noncomputable def addB(b:ar)(x:az):ar×Int:=
 if jS x=false then(bZ,1)else if 8<=b.base.length+b.own.length then(bZ,62)else fineB p F { b with own:=gX x b.own }
noncomputable def rebaseB(a kv:ar):ar×Int×Int:=
 if 8<(dr kv).length+a.own.length then(bZ,0,62)else if badB p F ⟨a.name,kv.aD,dr kv,a.own⟩≠0 then(bZ,badB p F ⟨a.name,kv.aD,dr kv,a.own⟩,65)else(⟨a.name,kv.aD,dr kv,a.own⟩,0,0)
end
def ov(b:ar)(n:Int):ar×Int:=if 16<=b.aD.length then(bZ,62)else({ b with aD:=b.aD++[n] },0)
section
variable {p:af}(hs:gi p){F:UP->MV->MV}(hF:bH p (bA p) F){inp:UP}(hi:∀x∈inp,bE x){E:List az}(hE:∀x∈E,bE x.v.n)
variable{t:Int}
def tI(h0:0<=t)(h1:t<=200):dM t=t:=by unfold dM;omega
def yJ(t:Int):0<=dM t/\dM t<=200:=by unfold dM;omega
def mH(h:∀x∈E,bE x.v.n):∀k,k<E.length->bE (nth E k).v.n:=fun k hk=>h _ (fa hk)
include hF hi hE
theorem E1{T T':Int}(hT:T<=200)(hT':T'<=T):∀(n n':Nat) (s:MV) (k:Nat) (b:Bool),IM p inp s->s.time<=T'->T-s.time<n->T'-s.time<n'->(da MV.time (F inp) (dw p (bA p)) E T n s k b).1.time=T->(da MV.time (F inp) (dw p (bA p)) E T' n' s k b).1.time=T'/\(da MV.time (F inp) (dw p (bA p)) E T' n' s k b).1.in_<=(da MV.time (F inp) (dw p (bA p)) E T n s k b).1.in_
 |0,_,s,k,b,_,_,h,_,_=>by omega
 |_,0,s,k,b,_,_,_,h,_=>jB
 |n+1,n'+1,s,k,b,h,ht,h1,h2,h3=>by
  have Xw:=mH hE;obtain⟨a1,a2,_⟩:=nw (mS hF hi Xw) (E.length+1) s k b h;unfold da at h3 ⊢;generalize cz MV.time (dw p (bA p)) E (E.length+1) s k b=Q at*;obtain⟨c1,c2⟩:=pq hF hi a1;by_cases c:Q.1.time=T'
  ·rw[if_pos c];refine⟨c,?_⟩;split
   ·exact Int.le_refl _
   have hf:=(Cb hF hi a1.mi).1;split
   ·exact hf
   ·have:=Cr hF hi Xw hT n _ Q.2.1 Q.2.2 c1 (by rcases c2 with e|⟨e,_⟩<;>omega);omega
  ·have c':¬Q.1.time=T:=jB;rw[if_neg c']at h3;rw[if_neg c,if_neg c'];by_cases d:(F inp Q.1).time=Q.1.time
   ·rw[if_pos d]at h3;have h3:(F inp Q.1).time=T:=h3;omega
   ·rw[if_neg d]at h3;rw[if_neg d,if_neg d];have h4:(F inp Q.1).time=Q.1.time+1:=c2.elim (fun e=>(d e).elim) fun e=>e.1
    exact E1 hT hT' n n' _ Q.2.1 Q.2.2 c1 jB jB jB h3
include hs
theorem IT{E':List az}(Xw:∀x∈E',bE x.v.n)(hS:ji E)(hS':ji E')(h0:0<=t)(h1:t<=200)(e:cv E t=cv E' t):(runM p F inp E t).1=(runM p F inp E' t).1:=by
 have key:∀{E:List az},(∀x∈E,bE x.v.n)->ji E->(runM p F inp E t).1=(runM p F inp (cv E t) t).1:=fun{E} hE hS=>by obtain⟨K,h2,h3,h4⟩:=DF (t:=t) E hS;obtain⟨a,b,_⟩:=pX hs inp;have ec:=tI h0 h1;have U6:=B9 (mS hF hi (mH hE)) h1 h4 ((t-(m0V p).time).toNat+1) (m0V p) 0 false a jB (Nat.zero_le _);have:=CU (tm:=MV.time) (st:=F inp) (se:=dw p (bA p)) (E:=E) h2 (t:=t) ((t-(m0V p).time).toNat+1) (m0V p) 0 false false (Nat.zero_le _) (fun _=>rfl) U6;unfold runM;rw[ec,h3];exact this.1.symm
 rw[key hE hS,key Xw hS',e]
theorem rA(t:Int):IM p inp (runM p F inp E t).1/\(runM p F inp E t).1.time<=dM t:=by obtain⟨a,b,_⟩:=pX hs inp;obtain⟨c0,c1⟩:=yJ t;have:=sP (mS hF hi (mH hE)) c1 ((dM t-(m0V p).time).toNat+1) (m0V p) 0 false a jB (Nat.zero_le _);exact⟨this.1,this.2.2.1⟩
theorem GK{t':Int}(h0:0<=t')(h1:t'<=t)(h2:t<=200)(ht:¬(runM p F inp E t).1.time<t){inp':UP}(VE:∀x∈inp',bE x)(ha:fv (runM p F inp E t).1.in_ inp inp'):(runM p F inp' E t').1=(runM p F inp E t').1/\(runM p F inp E t').1.time=t':=by obtain⟨a,b,_⟩:=pX hs inp;have e1:=tI (t:=t) jB h2;have e2:=tI (t:=t') h0 jB;have hf:=(rA hs hF hi hE t).2;have hg:=E1 hF hi hE h2 h1 ((t-(m0V p).time).toNat+1) ((t'-(m0V p).time).toNat+1) (m0V p) 0 false a jB jB jB (by unfold runM at hf ht;rw[e1]at hf ht;omega);unfold runM at ha ⊢;rw[e1]at ha;rw[e2];refine⟨?_,hg.1⟩;rw[DO hF hi (mH hE) jB VE _ _ 0 false a jB (.inl hg.1) (ha.le hg.2)]
end
def AY:fO 0 []:=⟨fun _ _ _=>rfl,List.nodup_nil,fun i r h=>by cases h⟩
structure ij(b:ar):Prop where
 inl:b.aD.length<=100
 rR:b.base.length<=100
 pz:b.own.length<=100
 inr:∀x∈b.aD,bE x
 xV:∀x∈b.base,bE x.v.n
 vS:∀x∈b.own,bE x.v.n
def ij.oU{b:ar}(h:ij b):(dr b).length<=200:=by have:=h.rR;have:=h.pz;unfold dr;rw[zO];omega
def ij.fq{b:ar}(h:ij b):∀x∈dr b,bE x.v.n:=fun x hx=>by
 unfold dr at hx;rcases Ah.1 hx with hx|hx
 ·exact h.xV x hx
 ·exact h.vS x hx
def tP{b:ar}(h:ij b):aB prog 38 [.agg (bu b)] (aM bv 5 (dr b)):=by
 have hm:=Rx b.base b.own (by have:=h.rR;omega) (by have:=h.pz;omega);refine bF func38 ntmps38 ?_
 (repeat' (first|refine aq fun K hK=>?_|refine ak ?_|(refine hK _ _ ?_;clear hK K)|(refine ao ?_ ?_<;>intro hc<;>try exact jz)|refine bx 3 ?_|refine cp (hm) ?_|refine ap ?_|exact jI|(clear hK K)))
 (refine aW [.tmp 2] ?_;try simp only[go_sem])
 rfl
section
variable {p:af}(hp:mf p)(U7:fg p){F:UP->MV->MV}(hF:bH p (bA p) F)
include hp U7 hF
theorem EL{b:ar}(h:ij b)(t:Int)(ht:bE t):aB prog 51 [.agg (cf p),.agg (bu b),rI t] (.agg (lQ (atB p F b t))):=by
 have Za:=tP h;obtain⟨k,EE,Zd,WR,_,_⟩:=DP hp hF (by have:=h.inl;omega) h.inr (mH h.fq) U7 (by have:=h.oU;omega) t ht;have key:ab prog 51 [.agg (cf p),.agg (bu b),rI t] [] fun r l=>r=.agg (lQ (atB p F b t))/\l=EE:=by
  unfold atB;generalize shotM p F b.aD (dr b) t=Sh at*;generalize badM p F b.aD (dr b) t=z at*;generalize dr b=A at*;have U1:=Zd.e2.low;refine aO func51 ntmps51 ?_
  (have W:=U1;repeat' (first|refine aq fun K hK=>?_|refine ak ?_|(with_reducible refine gR 1 ?_);refine dC 1 ([],[14],[16]) [] (ba 0 12) mixed ?_|(refine hK _ _ ?_;clear hK K)|(refine ao ?_ ?_<;>intro hc<;>try exact jz)|refine aV 3 ?_|refine aV 4 ?_|refine cC 6 ?_|refine cq (Za) ?_|(refine oc (e:=[]) Zd (fun j _ h=>(h rfl).elim) ?_)|refine cT WR ?_|refine ap ?_|exact jI|(clear hK K)))
  have h6:=U1 6 jC;exact eG (e:=[]) (B:=[]) rfl AY Zd.e2 (tl:=[(3,.var 30 (cf p)),(4,.var 49 (bu b)),(6,.var 114 (lQ Sh))]) (fun _=>rfl) (dq jC (dq jC (dq jC dK))) [.cell 6 114] (ho:=by simp(disch:=first|omega|assumption|fail) only[go_sem,↓reduceIte,h6];rfl) (hok:=by simp(disch:=first|omega|assumption|fail) only[go_sem,↓reduceIte,h6];first|done|decide|(repeat' (first|exact trivial|decide|(simp;done)|exact Nat.le_of_ble_eq_true rfl|refine jA ?_ ?_)))
 exact aB.yk key (.same _ rfl)
theorem H6{inp:UP}(VU:inp.length<=1000)(hi:∀x∈inp,bE x){E:List az}(hE:∀x∈E,bE x.v.n)(hl:E.length<=1000):aB prog 37 [.agg (cf p),aM eI 1 inp,aM bv 5 E] (rI (badM p F inp E 200)):=by
 obtain⟨k,EE,Zd,WR,_,_⟩:=DP hp hF VU hi (mH hE) U7 hl 200 ⟨jC,jC⟩;have key:ab prog 37 [.agg (cf p),aM eI 1 inp,aM bv 5 E] [] fun r l=>r=rI (badM p F inp E 200)/\l=EE:=by
  generalize badM p F inp E 200=z at*;have U1:=Zd.e2.low;refine aO func37 ntmps37 ?_
  (have W:=U1;repeat' (first|refine aq fun K hK=>?_|refine ak ?_|(refine hK _ _ ?_;clear hK K)|(refine ao ?_ ?_<;>intro hc<;>try exact jz)|refine aV 3 ?_|(refine cT (e:=[]) Zd ?_)|refine ap ?_|exact jI|(clear hK K)))
  exact eG (e:=[]) (B:=[]) rfl AY Zd.e2 (tl:=[(3,.var 30 (cf p))]) (fun _=>rfl) (dq jC dK) [.tmp 6]
 exact aB.yk key (.same _ rfl)
end
end Go.Proofs.YtijdhbokcdpklaaGreatDoor
namespace Go.Proofs.YtijdhbokcdpklaaGreatDoor
open Go Go.Gd Tryz
abbrev qS(s:UR):AV:=.raw (.string s)
abbrev qB(b:Bool):AV:=.raw (.bool b)
def Oh(r:Nat)(hr:r<=1114111):aB prog 55 [.raw (.int .i32 (r:Int))] (qB (qb r)):=by
 have e:qb r=((decide ((r:Int)<97) || decide (122<(r:Int))) && (decide ((r:Int)<48) || decide (57<(r:Int)))):=by unfold qb ou;by_cases h1:(r:Int)<97<;>by_cases h2:122<(r:Int)<;>by_cases h3:(r:Int)<48<;>by_cases h4:57<(r:Int)<;>simp[h1,h2,h3,h4]<;>omega
 rw[e];by_cases h1:(r:Int)<97<;>by_cases h2:122<(r:Int)<;>by_cases h3:(r:Int)<48<;>by_cases h4:57<(r:Int)<;>(try omega)
 all_goals
  refine bF func55 ntmps55 ?_
  (have W:=jA h1 (jA h2 (jA h3 (h4)));repeat' (first|refine aq fun K hK=>?_|refine ak ?_|(refine hK _ _ ?_;clear hK K)|(refine ao ?_ ?_<;>intro hc<;>try exact jz)|refine ap ?_|exact jI|(clear hK K)))
  (refine aW [.tmp 2] ?_;try simp only[go_sem])
  simp[h1,h2,h3,h4]
def TK(s:UR):aB prog 56 [qS s,.raw (.func (.func 55) #[] #[])] (qB (!(s.data.toList.all fun b=>ou b.toNat))):=by
 rw[<-Of];refine TP #[.string s,.func (.func 55) #[] #[]] _ ?_ (fun w=>.raw _) fun w hgl=>?_
 ·intro w vs h;obtain⟨x,y,rfl,h1,h2⟩:=SJ h;rw[df h1,df h2]
 ·refine Tryz.strings_ContainsFunc_grows _ #[] (fun args w=>jG) qb s w fun W x hx hb=>?_
  exact PM (fun g vs hm=>by obtain⟨⟨cur,el,fr,h1,h2⟩,_⟩:=hgl g vs hm;have I':=(Array.getElem?_eq_some_iff.1 h1).1;exact⟨⟨cur,el,fr,(hb.block g I').trans h1,h2⟩,fun h=>h⟩) (Oh x hx) (wj (.raw _))
def yY(s:UR):aB prog 34 [qS s] (qB (fl s)):=by
 have hcf:=TK s;generalize hA:(s.data.toList.all fun b=>ou b.toNat)=A at hcf;have e:fl s=(decide (1<=(s.size:Int)) && decide ((s.size:Int)<=8) && A):=by
  unfold fl;rw[hA];congr 2
  ·simp;omega
  ·simp;omega
 rw[e];clear hA e;cases A<;>by_cases h1:1<=(s.size:Int)<;>by_cases h2:(s.size:Int)<=8<;>(try omega);all_goals
  refine bF func34 ntmps34 ?_
  (have W:=jA h1 h2;repeat' (first|refine aq fun K hK=>?_|refine ak ?_|(refine hK _ _ ?_;clear hK K)|(refine ao ?_ ?_<;>intro hc<;>try exact jz)|refine cq (hcf) ?_|refine⟨qB true,?_⟩|refine ap ?_|exact jI|(clear hK K)))
  (refine aW [.tmp 2] ?_;try simp only[go_sem])
  try simp[h1,h2]
end Go.Proofs.YtijdhbokcdpklaaGreatDoor
namespace Go.Proofs.YtijdhbokcdpklaaGreatDoor
open Go Go.Gd Tryz Go.Gd.MV
@[go_sem] def qdI:(∀(b:ar) (v:UP),List.take 1 (bu b)++[aM eI 1 v]++List.drop 2 (bu b)=bu { b with aD:=v })/\(∀(b:ar) (v:List az),List.take 2 (bu b)++[aM bv 5 v]++List.drop 3 (bu b)=bu { b with base:=v })/\(∀(b:ar) (v:List az),List.take 3 (bu b)++[aM bv 5 v]++List.drop 4 (bu b)=bu { b with own:=v })/\(∀(b:ar),(List.take 1 (bu b)).length=1)/\(∀(b:ar),(List.take 2 (bu b)).length=2)/\(∀(b c:ar),bu b++List.drop 4 (bu c)=bu b):=by and_intros<;>(intros;rfl)
def BP(l:UP)(hl:l.length<=1000):aB prog 52 [aM eI 1 l] (aM eI 1 l):=aB.yk (yu l hl 1) (cY.row l rfl rfl rfl)
def xQ(l:List az)(hl:l.length<=1000):aB prog 78 [aM bv 5 l] (aM bv 5 l):=aB.yk (Bz l hl 1) (cY.row l rfl rfl rfl)
def nO{D:UX}{H:Hp}:cY D H (.agg [.raw (.string ⟨#[]⟩),.raw (.slice none 0 0),.raw (.slice none 0 0),.raw (.slice none 0 0)]) (.agg (bu bZ)):=bt.agg (ds:=bu bZ) ⟨.same _ rfl,cY.nil _ _,cY.nil _ _,cY.nil _ _,trivial⟩
def Rf{b:ar}(h:ij b):aB prog 76 [.agg (bu b)] (.agg (bu b)):=by
 have h1:=BP b.aD (by have:=h.inl;omega);have h2:=xQ b.base (by have:=h.rR;omega);have h3:=xQ b.own (by have:=h.pz;omega);refine bF func76 ntmps76 ?_
 (repeat' (first|refine aq fun K hK=>?_|refine ak ?_|(with_reducible refine gR 1 ?_);refine dC 1 ([],[5,8,11],[]) [] (ba 0 15) mixed ?_|(refine hK _ _ ?_;clear hK K)|(refine ao ?_ ?_<;>intro hc<;>try exact jz)|refine aV 3 ?_|refine cC 4 ?_|refine cq (h1) ?_|refine cq (h2) ?_|refine cq (h3) ?_|refine ap ?_|exact jI|(clear hK K)))
 (refine aW [.cell 2 49] ?_;try simp only[go_sem])
section
variable {p:af}(hp:mf p)(U7:fg p){F:UP->MV->MV}(hF:bH p (bA p) F)
include hp U7 hF
theorem Hz{b:ar}(h:ij b):aB prog 79 [.agg (cf p),.agg (bu b)] (rI (badB p F b)):=by
 have h1:=tP h;have h2:=H6 hp U7 hF (inp:=b.aD) (by have:=h.inl;omega) h.inr h.fq (by have:=h.oU;omega);change aB _ _ _ (rI (badB p F b))at h2
 generalize badB p F b=z at*;refine bF func79 ntmps79 ?_
 (repeat' (first|refine aq fun K hK=>?_|refine ak ?_|(with_reducible refine gR 1 ?_);refine dC 1 ([],[9,10],[]) [] (ba 0 7) mixed ?_|(refine hK _ _ ?_;clear hK K)|(refine ao ?_ ?_<;>intro hc<;>try exact jz)|refine aV 2 ?_|refine aV 3 ?_|refine cq (h1) ?_|refine cq (h2) ?_|refine ap ?_|exact jI|(clear hK K)))
 (refine aW [.tmp 4] ?_;try simp only[go_sem])
theorem FZ{b:ar}(h:ij b):aB prog 64 [.agg (cf p),.agg (bu b)] (.aQ [.agg (bu (fineB p F b).1),rI (fineB p F b).2]):=by
 have h1:=Hz hp U7 hF h;unfold fineB;generalize badB p F b=z at*;by_cases hz:z=0
 ·rw[if_neg (fun h=>h hz)];refine bF func64 ntmps64 ?_
  (have W:=hz;repeat' (first|refine aq fun K hK=>?_|refine ak ?_|(refine hK _ _ ?_;clear hK K)|(refine ao ?_ ?_<;>intro hc<;>try exact jz)|refine aV 2 ?_|refine aV 3 ?_|refine cC 4 ?_|refine cp (h1) ?_|refine ap ?_|exact jI|(clear hK K)))
  (refine aW [.cell 4 49,.tmp 5] ?_;try simp only[go_sem])
 ·rw[if_pos hz];refine bF func64 ntmps64 ?_
  (have W:=hz;repeat' (first|refine aq fun K hK=>?_|refine ak ?_|(refine hK _ _ ?_;clear hK K)|(refine ao ?_ ?_<;>intro hc<;>try exact jz)|refine aV 2 ?_|refine aV 3 ?_|refine cC 4 ?_|refine cp (h1) ?_|refine ap ?_|exact jI|(clear hK K)))
  refine fH [.cell 4 49,.tmp 5] ?_;exact bt.aQ (ds:=[.agg (bu bZ),rI 65]) ⟨nO,.same _ rfl,trivial⟩
end
def SB{b:ar}(h:ij b):ab prog 76 [.agg (bu b)] [] (fun r l=>r=.agg [rS b.name,.rs 2 b.aD.length 1 b.aD.length,aM bv 5 b.base,aM bv 5 b.own]/\l=[(2,.aG 3 1 (b.aD.map eI))]):=by
 have h1:=yu b.aD (by have:=h.inl;omega) 2;have h2:=xQ b.base (by have:=h.rR;omega);have h3:=xQ b.own (by have:=h.pz;omega);obtain⟨nm,inp,base,own⟩:=b;simp only[bu];refine aO func76 ntmps76 ?_
 (repeat' (first|refine aq fun K hK=>?_|refine ak ?_|(with_reducible refine gR 1 ?_);refine dC 1 ([],[8,11],[5]) [] [0,1,3,4,6,7,2,5,8,9,10,11,12,13,14] mixed ?_|(refine hK _ _ ?_;clear hK K)|(refine ao ?_ ?_<;>intro hc<;>try exact jz)|refine aV 4 ?_|refine cC 5 ?_|refine cN h1 ?_|refine cq (h2) ?_|refine cq (h3) ?_|refine ap ?_|exact jI|(clear hK K)))
 refine O1 [.cell 2 49] ?_ ?_ ?_ ?_
 ·rfl
 ·simp only[iO,go_sem];decide
 ·rfl
 ·rfl
section
variable {p:af}(hp:mf p)(U7:fg p){F:UP->MV->MV}(hF:bH p (bA p) F)
variable{b:ar}{x:az}
def ij.early(h:ij b)(t:Int)(ht:(cv (dr b) t).length<=100)(nm:UR)(hx:bE x.v.n):ij ⟨nm,b.aD,cv (dr b) t,[x]⟩:=
 ⟨h.inl,ht,by show 1<=100;decide,h.inr,fun y hy=>h.fq y (rL hy).1,fun y hy=>by rw[List.mem_singleton.1 hy];exact hx⟩
def ij.ins(h:ij b)(hl:b.own.length<100)(hx:bE x.v.n):ij { b with own:=gX x b.own }:=
 ⟨h.inl,h.rR,by show(gX x b.own).length<=100;rw[Go.Gd.iH];omega,h.inr,h.xV,fun y hy=>by
  rcases uS.1 hy with rfl|hy
  ·exact hx
  ·exact h.vS y hy⟩
def PF(l:List az)(x:az)(h1:l.length<=500):aB prog 77 [aM bv 5 l,.sl true 5 [bv x] []] (aM bv 5 (gX x l)):=D5 (Gf l [x] h1 jE) ⟨.refl _,.lit 5 [bv x] _ _,trivial⟩
include hp U7 hF
theorem RI{nm:UR}{inp:UP}{base:List az}(h:ij ⟨nm,inp,base,[x]⟩):aB prog 64 [.agg (cf p),.agg [rS nm,aM eI 1 inp,aM bv 5 base,.sl true 5 [bv x] []]] (.aQ [.agg (bu (fineB p F ⟨nm,inp,base,[x]⟩).1),rI (fineB p F ⟨nm,inp,base,[x]⟩).2]):=D5 (FZ hp U7 hF h) ⟨.refl _,Ic ⟨.refl _,.refl _,.refl _,.lit 5 [bv x] _ _,trivial⟩,trivial⟩
theorem KY(h:ij b)(nm:UR)(hx:bE x.v.n)(hxa:bE x.at_):aB prog 41 [.agg (cf p),.agg (bu b),rS nm,.agg (bv x)] (.aQ [.agg (bu (forkB p F (fl nm) b nm x).1),rI (forkB p F (fl nm) b nm x).2]):=by
 have h0:=yY nm;have h1:=Dh x;have h2:=tP h;have h3:=Jx (dr b) x.at_ (by have:=h.oU;omega);have h4:=EL hp U7 hF h x.at_ hxa;have h5:=BP b.aD (by have:=h.inl;omega);have O':=AQ (dr b) x.at_;have Vj:=h.oU;have h6:=fun hl=>RI hp U7 hF (h.early x.at_ hl nm hx)
 unfold forkB;generalize fl nm=ok at*;generalize jS x=my at*;generalize atB p F b x.at_=Sh at*;generalize dr b=A at*;generalize cv A x.at_=U at*;generalize Zv:fineB p F ⟨nm,b.aD,U,[x]⟩=fb at*;have hq:(ok=false/\True)\/(ok=true/\my=false)\/(ok=true/\my=true):=by cases ok<;>cases my<;>simp
 rcases hq with⟨q1,q2⟩|⟨q1,q2⟩|⟨q1,q2⟩
 ·rw[if_pos (.inl q1)];rw[q1]at h0;refine bF func41 ntmps41 ?_
  (repeat' (first|refine aq fun K hK=>?_|refine ak ?_|(refine hK _ _ ?_;clear hK K)|(refine ao ?_ ?_<;>intro hc<;>try exact jz)|refine aV 4 ?_|refine aV 5 ?_|refine aV 7 ?_|refine cC 8 ?_|refine cp (h0) ?_|refine⟨rB true,?_⟩|refine ap ?_|exact jI|(clear hK K)))
  refine fH [.cell 8 49,.tmp 9] ?_;exact bt.aQ (ds:=[.agg (bu bZ),rI 1]) ⟨nO,.same _ rfl,trivial⟩
 ·rw[if_pos (.inr q2)];rw[q1]at h0;rw[q2]at h1;refine bF func41 ntmps41 ?_
  (repeat' (first|refine aq fun K hK=>?_|refine ak ?_|(refine hK _ _ ?_;clear hK K)|(refine ao ?_ ?_<;>intro hc<;>try exact jz)|refine aV 4 ?_|refine aV 5 ?_|refine aV 7 ?_|refine cC 8 ?_|refine cp (h0) ?_|refine cq (h1) ?_|refine ap ?_|exact jI|(clear hK K)))
  refine fH [.cell 8 49,.tmp 9] ?_;exact bt.aQ (ds:=[.agg (bu bZ),rI 1]) ⟨nO,.same _ rfl,trivial⟩
 rw[if_neg (by rw[q1,q2];simp)];rw[q1]at h0;rw[q2]at h1;by_cases ht:Sh.time<x.at_
 ·rw[if_pos ht];refine bF func41 ntmps41 ?_
  (have W:=ht;repeat' (first|refine aq fun K hK=>?_|refine ak ?_|(with_reducible refine gR 3 ?_);refine dC 3 ([],[21,24],[]) [] (ba 0 6) mixed ?_|(with_reducible refine gR 4 ?_);refine dC 4 ([],[30],[]) [] (ba 0 10) mixed ?_|(refine hK _ _ ?_;clear hK K)|(refine ao ?_ ?_<;>intro hc<;>try exact jz)|refine aV 4 ?_|refine aV 5 ?_|refine aV 7 ?_|refine cC 8 ?_|refine cp (h0) ?_|refine cq (h1) ?_|refine cq (h2) ?_|refine cq (h3) ?_|refine cq (h4) ?_|refine ap ?_|exact jI|(clear hK K)))
  refine fH [.cell 8 49,.tmp 9] ?_;exact bt.aQ (ds:=[.agg (bu bZ),rI 63]) ⟨nO,.same _ rfl,trivial⟩
 rw[if_neg ht];by_cases hu:8<=U.length
 ·rw[if_pos hu];have huI:(U.length:Int) >= 8:=jB;refine bF func41 ntmps41 ?_
  (have W:=jA ht huI;repeat' (first|refine aq fun K hK=>?_|refine ak ?_|(with_reducible refine gR 3 ?_);refine dC 3 ([],[21,24],[]) [] (ba 0 6) mixed ?_|(with_reducible refine gR 4 ?_);refine dC 4 ([],[30],[]) [] (ba 0 10) mixed ?_|(refine hK _ _ ?_;clear hK K)|(refine ao ?_ ?_<;>intro hc<;>try exact jz)|refine aV 4 ?_|refine aV 5 ?_|refine aV 7 ?_|refine cC 8 ?_|refine cp (h0) ?_|refine cq (h1) ?_|refine cq (h2) ?_|refine cq (h3) ?_|refine cq (h4) ?_|refine ap ?_|exact jI|(clear hK K)))
  refine fH [.cell 8 49,.tmp 9] ?_;exact bt.aQ (ds:=[.agg (bu bZ),rI 62]) ⟨nO,.same _ rfl,trivial⟩
 ·rw[if_neg hu];have huI:¬(U.length:Int) >= 8:=jB;have h6:=h6 jB;refine bF func41 ntmps41 ?_
  (have W:=jA ht huI;repeat' (first|refine aq fun K hK=>?_|refine ak ?_|(with_reducible refine gR 3 ?_);refine dC 3 ([],[21,24],[]) [] (ba 0 6) mixed ?_|(with_reducible refine gR 4 ?_);refine dC 4 ([],[30],[]) [] (ba 0 10) mixed ?_|(with_reducible refine gR 8 ?_);refine dC 8 ([],[45,50],[]) [] (ba 0 14) mixed ?_|(refine hK _ _ ?_;clear hK K)|(refine ao ?_ ?_<;>intro hc<;>try exact jz)|refine aV 4 ?_|refine aV 5 ?_|refine aV 7 ?_|refine cC 8 ?_|refine cp (h0) ?_|refine cq (h1) ?_|refine cq (h2) ?_|refine cq (h3) ?_|refine cq (h4) ?_|refine cq (h5) ?_|refine cq (h6) ?_|refine ap ?_|exact jI|(clear hK K)))
  (refine aW [.cell 8 49,.tmp 9] ?_;try simp only[go_sem])
theorem O5(h:ij b)(nm:UR)(t n:Int)(ht:bE t):aB prog 29 [.agg (cf p),.agg (bu b),rS nm,rI t,rI n] (.aQ [.agg (bu (inputB p F (fl nm) b nm t n).1),rI (inputB p F (fl nm) b nm t n).2]):=by
 have h0:=yY nm;have h2:=tP h;have h3:=Jx (dr b) t (by have:=h.oU;omega);have h4:=EL hp U7 hF h t ht;have hfi:=(rA hp.ok hF h.inr h.fq t).1;have Xg:0<=(atB p F b t).in_:=hfi.i0;have Xx:(atB p F b t).in_<=b.aD.length:=hfi.i1;have WA:=h.inl;unfold inputB;generalize fl nm=ok at*;generalize atB p F b t=Sh at*;generalize dr b=A at*;generalize cv A t=U at*;obtain⟨q,hq⟩:∃q:Nat,Sh.in_=(q:Int):=⟨Sh.in_.toNat,jB⟩;have h5:=yu (b.aD.take q) (by rw[List.length_take];omega) 2;have Zg:(b.aD.take q).length=q:=by rw[List.length_take];omega
 rw[Zg]at h5;have hqb:q<=b.aD.length:=jB;have hqI:(q:Int)<=(b.aD.length:Int):=jB;have Vn:(ok=false/\True/\True)\/(ok=true/\t<0/\True)\/(ok=true/\¬t<0/\200<t)\/(ok=true/\¬t<0/\¬200<t):=by
  cases ok
  ·exact .inl ⟨rfl,trivial,trivial⟩
  ·by_cases a:t<0
   ·exact .inr (.inl ⟨rfl,a,trivial⟩)
   ·by_cases c:200<t
    ·exact .inr (.inr (.inl ⟨rfl,a,c⟩))
    ·exact .inr (.inr (.inr ⟨rfl,a,c⟩))
 rcases Vn with⟨q1,q2,q3⟩|⟨q1,q2,q3⟩|⟨q1,q2,q3⟩|⟨q1,q2,q3⟩
 ·rw[if_pos (.inl q1)];rw[q1]at h0;refine bF func29 ntmps29 ?_
  (repeat' (first|refine aq fun K hK=>?_|refine ak ?_|(refine hK _ _ ?_;clear hK K)|(refine ao ?_ ?_<;>intro hc<;>try exact jz)|refine aV 5 ?_|refine aV 6 ?_|refine cC 10 ?_|refine cp (h0) ?_|refine ap ?_|exact jI|(clear hK K)))
  refine fH [.cell 10 49,.tmp 11] ?_;exact bt.aQ (ds:=[.agg (bu bZ),rI 1]) ⟨nO,.same _ rfl,trivial⟩
 ·rw[if_pos (.inr (.inl q2))];rw[q1]at h0;refine bF func29 ntmps29 ?_
  (have W:=q2;repeat' (first|refine aq fun K hK=>?_|refine ak ?_|(refine hK _ _ ?_;clear hK K)|(refine ao ?_ ?_<;>intro hc<;>try exact jz)|refine aV 5 ?_|refine aV 6 ?_|refine cC 10 ?_|refine cp (h0) ?_|refine ap ?_|exact jI|(clear hK K)))
  refine fH [.cell 10 49,.tmp 11] ?_;exact bt.aQ (ds:=[.agg (bu bZ),rI 1]) ⟨nO,.same _ rfl,trivial⟩
 ·rw[if_pos (.inr (.inr q3))];rw[q1]at h0;refine bF func29 ntmps29 ?_
  (have W:=jA q2 q3;repeat' (first|refine aq fun K hK=>?_|refine ak ?_|(refine hK _ _ ?_;clear hK K)|(refine ao ?_ ?_<;>intro hc<;>try exact jz)|refine aV 5 ?_|refine aV 6 ?_|refine cC 10 ?_|refine cp (h0) ?_|refine ap ?_|exact jI|(clear hK K)))
  refine fH [.cell 10 49,.tmp 11] ?_;exact bt.aQ (ds:=[.agg (bu bZ),rI 1]) ⟨nO,.same _ rfl,trivial⟩
 rw[if_neg (by rw[q1];simp;omega)];rw[q1]at h0;by_cases c1:Sh.time<t
 ·rw[if_pos c1];refine bF func29 ntmps29 ?_
  (have W:=jA q2 (jA q3 (c1));repeat' (first|refine aq fun K hK=>?_|refine ak ?_|(refine hK _ _ ?_;clear hK K)|(refine ao ?_ ?_<;>intro hc<;>try exact jz)|refine aV 5 ?_|refine aV 6 ?_|refine cC 10 ?_|refine cC 12 ?_|refine cp (h0) ?_|refine cp (h4) ?_|refine ap ?_|exact jI|(clear hK K)))
  refine fH [.cell 10 49,.tmp 11] ?_;exact bt.aQ (ds:=[.agg (bu bZ),rI 63]) ⟨nO,.same _ rfl,trivial⟩
 rw[if_neg c1];by_cases c2:16<=Sh.in_
 ·rw[if_pos c2];have c2':Sh.in_ >= 16:=c2;refine bF func29 ntmps29 ?_
  (have W:=jA q2 (jA q3 (jA c1 (c2')));repeat' (first|refine aq fun K hK=>?_|refine ak ?_|(refine hK _ _ ?_;clear hK K)|(refine ao ?_ ?_<;>intro hc<;>try exact jz)|refine aV 5 ?_|refine aV 6 ?_|refine cC 10 ?_|refine cC 12 ?_|refine cp (h0) ?_|refine cp (h4) ?_|refine ap ?_|exact jI|(clear hK K)))
  refine fH [.cell 10 49,.tmp 11] ?_;exact bt.aQ (ds:=[.agg (bu bZ),rI 62]) ⟨nO,.same _ rfl,trivial⟩
 ·rw[if_neg c2];have c2':¬(q:Int) >= 16:=jB;rw[hq,Int.toNat_natCast];refine bF func29 ntmps29 ?_
  (have W:=jA q2 (jA q3 (jA c1 (jA hq (jA c2' (hqI)))));repeat' (first|refine aq fun K hK=>?_|refine ak ?_|(refine hK _ _ ?_;clear hK K)|(refine ao ?_ ?_<;>intro hc<;>try exact jz)|refine aV 5 ?_|refine aV 6 ?_|refine cC 10 ?_|refine cC 12 ?_|refine cp (h0) ?_|refine cp (h2) ?_|refine cp (h3) ?_|refine cm (h5) ?_|refine cp (h4) ?_|refine ap ?_|exact jI|(clear hK K)))
  refine fH [.cell 10 49,.tmp 11] ?_;exact bt.aQ (ds:=[.agg (bu ⟨nm,b.aD.take q++[n],U,[]⟩),rI 0]) ⟨bt.agg (ds:=bu ⟨nm,b.aD.take q++[n],U,[]⟩) ⟨.same _ rfl,cY.row (b.aD.take q++[n]) rfl (by rw[List.map_append];rfl) (by rw[List.length_append,Zg];rfl),.same _ rfl,cY.nil _ _,trivial⟩,.same _ rfl,trivial⟩
theorem Uo(h:ij b)(hx:bE x.v.n):aB prog 47 [.agg (cf p),.agg (bu b),.agg (bv x)] (.aQ [.agg (bu (addB p F b x).1),rI (addB p F b x).2]):=by
 have h1:=Dh x;have h2:=Rf h;have hba:=h.rR;have how:=h.pz;have h3:=PF b.own x (by have:=h.pz;omega);have h4:=fun hl=>FZ hp U7 hF (h.ins hl hx)
 unfold addB;generalize jS x=my at*;generalize Zv:fineB p F { b with own:=gX x b.own }=fb at*;cases my
 ·rw[if_pos rfl];refine bF func47 ntmps47 ?_
  (repeat' (first|refine aq fun K hK=>?_|refine ak ?_|(refine hK _ _ ?_;clear hK K)|(refine ao ?_ ?_<;>intro hc<;>try exact jz)|refine aV 4 ?_|refine aV 5 ?_|refine aV 7 ?_|refine cC 8 ?_|refine cp (h1) ?_|refine ap ?_|exact jI|(clear hK K)))
  refine fH [.cell 6 49,.tmp 7] ?_;exact bt.aQ (ds:=[.agg (bu bZ),rI 1]) ⟨nO,.same _ rfl,trivial⟩
 rw[if_neg jE];by_cases c:8<=b.base.length+b.own.length
 ·rw[if_pos c];have c':(b.base.length:Int)+b.own.length >= 8:=jB;refine bF func47 ntmps47 ?_
  (have W:=c';repeat' (first|refine aq fun K hK=>?_|refine ak ?_|(refine hK _ _ ?_;clear hK K)|(refine ao ?_ ?_<;>intro hc<;>try exact jz)|refine aV 4 ?_|refine aV 5 ?_|refine aV 7 ?_|refine cC 8 ?_|refine cp (h1) ?_|refine ap ?_|exact jI|(clear hK K)))
  refine fH [.cell 6 49,.tmp 7] ?_;exact bt.aQ (ds:=[.agg (bu bZ),rI 62]) ⟨nO,.same _ rfl,trivial⟩
 ·rw[if_neg c];have c':¬(b.base.length:Int)+b.own.length >= 8:=jB;have h4:=h4 jB;refine bF func47 ntmps47 ?_
  (have W:=c';repeat' (first|refine aq fun K hK=>?_|refine ak ?_|(refine hK _ _ ?_;clear hK K)|(refine ao ?_ ?_<;>intro hc<;>try exact jz)|refine aV 4 ?_|refine aV 5 ?_|refine aV 7 ?_|refine cC 8 ?_|refine cp (h1) ?_|refine cp (h2) ?_|refine cp (h3) ?_|refine cp (h4) ?_|refine ap ?_|exact jI|(clear hK K)))
  (refine aW [.cell 6 49,.tmp 7] ?_;try simp only[go_sem])
omit hp U7 hF in
theorem Nn(h:ij b)(n:Int):aB prog 49 [.agg (bu b),rI n] (.aQ [.agg (bu (ov b n).1),rI (ov b n).2]):=by
 have h2:=SB h;have WA:=h.inl;unfold ov;by_cases c:16<=b.aD.length
 ·rw[if_pos c];have c':(b.aD.length:Int) >= 16:=jB;refine bF func49 ntmps49 ?_
  (have W:=c';repeat' (first|refine aq fun K hK=>?_|refine ak ?_|(refine hK _ _ ?_;clear hK K)|(refine ao ?_ ?_<;>intro hc<;>try exact jz)|refine aV 4 ?_|refine cC 5 ?_|refine ap ?_|exact jI|(clear hK K)))
  refine fH [.cell 4 49,.tmp 5] ?_;exact bt.aQ (ds:=[.agg (bu bZ),rI 62]) ⟨nO,.same _ rfl,trivial⟩
 ·rw[if_neg c];have c':¬(b.aD.length:Int) >= 16:=jB;obtain⟨nm,inp,base,own⟩:=b;have c':¬(inp.length:Int) >= 16:=c';have WA:inp.length<=100:=WA;simp only[bu]at h2 ⊢;refine bF func49 ntmps49 ?_
  (have W:=c';repeat' (first|refine aq fun K hK=>?_|refine ak ?_|(refine hK _ _ ?_;clear hK K)|(refine ao ?_ ?_<;>intro hc<;>try exact jz)|refine aV 4 ?_|refine cC 5 ?_|refine cm (h2) ?_|refine ap ?_|exact jI|(clear hK K)))
  refine fH [.cell 4 49,.tmp 5] ?_;exact bt.aQ (ds:=[.agg (bu ⟨nm,inp++[n],base,own⟩),rI 0]) ⟨bt.agg (ds:=bu ⟨nm,inp++[n],base,own⟩) ⟨.same _ rfl,cY.row (inp++[n]) rfl (by rw[List.map_append];rfl) (by rw[List.length_append];rfl),.same _ rfl,.same _ rfl,trivial⟩,.same _ rfl,trivial⟩
omit hp U7 hF in
theorem ij.kv{a o:ar}(ha:ij a)(ho:ij o)(hl:(dr o).length<=100):ij ⟨a.name,o.aD,dr o,a.own⟩:=⟨ho.inl,hl,ha.pz,ho.inr,ho.fq,ha.vS⟩
theorem Sx{a o:ar}(ha:ij a)(ho:ij o)(hl:(dr o).length<=100):aB prog 50 [.agg (cf p),.agg (bu a),.agg (bu o)] (.aQ [.agg (bu (rebaseB p F a o).1),rI (rebaseB p F a o).2.1,rI (rebaseB p F a o).2.2]):=by
 have h1:=BP o.aD (by have:=ho.inl;omega);have h2:=tP ho;have h3:=xQ a.own (by have:=ha.pz;omega);have h4:=Hz hp U7 hF (ha.kv ho hl);have how:=ha.pz;unfold rebaseB;generalize hz:badB p F ⟨a.name,o.aD,dr o,a.own⟩=z at*;clear hz;generalize dr o=A at*;by_cases c:8<A.length+a.own.length
 ·rw[if_pos c];have c':(A.length:Int)+a.own.length>8:=jB;refine bF func50 ntmps50 ?_
  (have W:=c';repeat' (first|refine aq fun K hK=>?_|refine ak ?_|(with_reducible refine gR 1 ?_);refine dC 1 ([],[],[15,17,20]) [11] [0,1,2,3,5,7,8,4,6,9,10,11,12] mixed ?_|(refine hK _ _ ?_;clear hK K)|(refine ao ?_ ?_<;>intro hc<;>try exact jz)|refine aV 4 ?_|refine aV 5 ?_|refine aV 6 ?_|refine cC 7 ?_|refine cC 8 ?_|refine cN h1 ?_|refine cN h2 ?_|refine cN h3 ?_|refine ap ?_|exact jI|(clear hK K)))
  refine fH [.cell 6 49,.tmp 7,.tmp 8] ?_;exact bt.aQ (ds:=[.agg (bu bZ),rI 0,rI 62]) ⟨nO,.same _ rfl,.same _ rfl,trivial⟩
 rw[if_neg c];have c':¬(A.length:Int)+a.own.length>8:=jB;by_cases d:z=0
 ·rw[if_neg (fun h=>h d)];refine bF func50 ntmps50 ?_
  (have W:=jA c' d;repeat' (first|refine aq fun K hK=>?_|refine ak ?_|(with_reducible refine gR 1 ?_);refine dC 1 ([],[],[15,17,20]) [11] [0,1,2,3,5,7,8,4,6,9,10,11,12] mixed ?_|(refine hK _ _ ?_;clear hK K)|(refine ao ?_ ?_<;>intro hc<;>try exact jz)|refine aV 4 ?_|refine aV 5 ?_|refine aV 6 ?_|refine cC 7 ?_|refine cC 8 ?_|refine cp (h4) ?_|refine cN h1 ?_|refine cN h2 ?_|refine cN h3 ?_|refine ap ?_|exact jI|(clear hK K)))
  (refine aW [.cell 6 49,.tmp 7,.tmp 8] ?_;try simp only[go_sem])
  rfl
 ·rw[if_pos d];refine bF func50 ntmps50 ?_
  (have W:=jA c' d;repeat' (first|refine aq fun K hK=>?_|refine ak ?_|(with_reducible refine gR 1 ?_);refine dC 1 ([],[],[15,17,20]) [11] [0,1,2,3,5,7,8,4,6,9,10,11,12] mixed ?_|(refine hK _ _ ?_;clear hK K)|(refine ao ?_ ?_<;>intro hc<;>try exact jz)|refine aV 4 ?_|refine aV 5 ?_|refine aV 6 ?_|refine cC 7 ?_|refine cC 8 ?_|refine cp (h4) ?_|refine cN h1 ?_|refine cN h2 ?_|refine cN h3 ?_|refine ap ?_|exact jI|(clear hK K)))
  refine fH [.cell 6 49,.tmp 7,.tmp 8] ?_;exact bt.aQ (ds:=[.agg (bu bZ),rI z,rI 65]) ⟨nO,.same _ rfl,.same _ rfl,trivial⟩
end
end Go.Proofs.YtijdhbokcdpklaaGreatDoor
namespace Go.Proofs.YtijdhbokcdpklaaGreatDoor
open Go Go.Gd Tryz
def Cd{s:UR}(he:(fZ s).2.2=0):mf (fZ s).1:=⟨yI he,OE he⟩
end Go.Proofs.YtijdhbokcdpklaaGreatDoor