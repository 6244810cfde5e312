/- Lemmas. No conditions. -/
import Derived.Test.YtijdhbokcdpklaaGreatDoorTwG
import Derived.Test.YtijdhbokcdpklaaGreatDoorBqM
set_option linter.all false
set_option maxHeartbeats 4000000
set_option maxRecDepth 10000
namespace Go.Gd
open Go
structure nj where
 kind:Int
 n:Int
 name:ByteArray
 more:ByteArray
 v:aj
 deriving Inhabited,DecidableEq
def iq(x:nj):UE:=[.raw (.int .u8 x.kind),.raw (.int .i64 x.n),.raw (.string x.name),.raw (.string x.more),.raw (.int .i64 x.v.ty),.raw (.int .i64 x.v.n),.raw (.string x.v.s)]
section
variable (x y:nj)
@[go_sem] def j5N:((iq x).length=7)/\((iq x).all AV.one=true):=by and_intros<;>(intros;rfl)
@[go_sem] def Q4(q:UO):aY q (iq x)=true:=by simp[iq,aY,AV.all]
instance:bH iq 7:=⟨fun _=>rfl,fun _=>rfl,fun x=>Q4 x _⟩
@[go_sem] def j3q:((iq x).take 7=iq x)/\((iq x).getD 0 .any=.raw (.int .u8 x.kind))/\((iq x).getD 1 .any=.raw (.int .i64 x.n))/\((iq x).getD 2 .any=.raw (.string x.name))/\(∀(v:UI),List.take 2 (iq x)++[.raw (.string v)]++List.drop 3 (iq x)=iq { x with name:=v })/\((iq x).getD 3 .any=.raw (.string x.more))/\(∀(v:UI),List.take 3 (iq x)++[.raw (.string v)]++List.drop 4 (iq x)=iq { x with more:=v })/\((iq x).getD 6 .any=.raw (.string x.v.s))/\(∀(v:UI),List.take 6 (iq x)++[.raw (.string v)]++List.drop 7 (iq x)=iq { x with v.s:=v })/\(((iq x).drop 4).take 3=bV x.v):=by and_intros<;>(intros;rfl)
end
def rM(o:nj):nj:=⟨o.kind,o.n,F4 o.name,F4 o.more,{ o.v with s:=if 60<o.v.s.size then o.v.s.extract 0 60 else o.v.s }⟩
variable{nm:UI}
def xB{l:List ak}(h:¬dw nm l 0<0):∃n:Nat,n<l.length/\dw nm l 0=n/\(nth l n).name=nm:=by
 rcases rC nm l 0 with⟨e,_⟩|⟨j,h1,h2,h3,_⟩
 ·omega
 ·exact⟨j,h1,jB,h3⟩
def Cc{l:List ak}(h:dw nm l 0<0):∀j,j<l.length->(nth l j).name≠nm:=by
 rcases rC nm l 0 with⟨_,h⟩|⟨j,h1,h2,h3,_⟩
 ·exact h
 ·omega
end Go.Gd
namespace Go.Proofs.YtijdhbokcdpklaaGreatDoor
open Go Go.Gd Tryz Go.Gd.MV
section
variable (p:af)(F:UG->MV->MV)
noncomputable def doesW(w:aU)(o:nj):aU×Int×Int:=
 if o.kind % 9=0 then((goW p F w o.n).1,0,(goW p F w o.n).2)
 else if o.kind % 9=1 then((switchW p F w o.name).1,0,(switchW p F w o.name).2)
 else if o.kind % 9=2 then((forkW p F w o.name o.more o.v).1,0,(forkW p F w o.name o.more o.v).2)
 else if o.kind % 9=3 then((inputW p F w o.name o.n).1,0,(inputW p F w o.name o.n).2)
 else if o.kind % 9=4 then((addW p F w o.more o.v).1,0,(addW p F w o.more o.v).2)
 else if o.kind % 9=5 then((appendW w o.n).1,0,(appendW w o.n).2)
 else if o.kind % 9=6 then((sM (fW o.more) w o.name o.more).1,0,(sM (fW o.more) w o.name o.more).2)
 else if o.kind % 9=7 then((pruneW p F w (dw o.name w.l 0)).1,0,(pruneW p F w (dw o.name w.l 0)).2)
 else rebaseW p F w (dw o.name w.l 0) (dw o.more w.l 0)
noncomputable def woodsW(l:List nj):Nat->aU
 |0=>sA
 |k+1=>(doesW p F (woodsW l k) (rM (nth l k))).1
end
structure WJ(p:af)(F:List Int->MV->MV)(w:aU):Prop where
 l8:w.l.length<=8
 c0:0<=w.cur
 c1:w.cur<w.l.length
 b:∀k,k<w.l.length->BI p F (nth w.l k)
 t0:0<=w.time
 t1:w.time<=200
 un:UN w.l
structure WI(p:af)(F:List Int->MV->MV)(w:aU):Prop where
 j:WJ p F w
 co:comesB p F (curB w) w.time=w.time
section
variable {p:af}{F:UG->MV->MV}{w:aU}
def WJ.ok(h:WJ p F w):iW w:=⟨by have:=h.l8;omega,h.c0,h.c1,fun k hk=>(h.b k hk).w,⟨by have:=h.t0;omega,by have:=h.t1;omega⟩⟩
def WJ.ck(h:WJ p F w):w.cur.toNat<w.l.length:=by have:=h.c0;have:=h.c1;omega
def WJ.cb(h:WJ p F w):BI p F (curB w):=h.b _ h.ck
theorem WJ.set(h:WJ p F w){n:Nat}{b:ak}(hb:BI p F b)(hu:∀j,j<w.l.length->j≠n->(nth w.l j).name≠b.name):WJ p F { w with l:=w.l.set n b }:=
 ⟨by show(w.l.set n b).length<=8;rw[List.length_set];exact h.l8,h.c0,by show w.cur<(w.l.set n b).length;rw[List.length_set];exact h.c1,fun k hk=>by
  have hk:k<w.l.length:=by simpa using hk
  show BI p F (nth (w.l.set n b) k);rw[uK hk];split
  ·exact hb
  ·exact h.b k hk,h.t0,h.t1,h.un.set hu⟩
theorem WJ.app(h:WJ p F w)(h7:w.l.length<8){b:ak}(hb:BI p F b)(hu:∀j,j<w.l.length->(nth w.l j).name≠b.name):WJ p F { w with l:=w.l++[b],cur:=w.l.length }:=
 ⟨by show(w.l++[b]).length<=8;simp;omega,by show(0:Int)<=w.l.length;omega,by show(w.l.length:Int)<(w.l++[b]).length;simp;omega,fun k hk=>by
  have hk:k<w.l.length+1:=by simpa using hk
  show BI p F (nth (w.l++[b]) k);rw[uV hk];split
  ·rename_i c;exact h.b k c
  ·exact hb,h.t0,h.t1,h.un.app hu⟩
def WJ.Au(h:WJ p F w){n:Nat}(hn:n<w.l.length){c:Int}(h0:0<=c)(h1:c<w.l.length-1):WJ p F { w with l:=iU w.l n,cur:=c }:=
 ⟨by show(iU w.l n).length<=8;rw[qf hn];have:=h.l8;omega,h0,by show c<(iU w.l n).length;rw[qf hn];omega,fun j hj=>by
  have hj:j<(iU w.l n).length:=hj;show BI p F (nth (iU w.l n) j);rw[vu hn hj];rw[qf hn]at hj;split
  ·exact h.b j jB
  ·exact h.b (j+1) jB,h.t0,h.t1,h.un.erase hn⟩
end
section
variable {p:af}(hs:fX p){F:UG->MV->MV}(hF:bF p (bz p) F)
include hs hF
theorem WJ.held{w:aU}(h:WJ p F w):WI p F (VF p F w):=by obtain⟨a,_,c⟩:=Rp hs hF h.cb w.time;exact⟨⟨h.l8,h.c0,h.c1,h.b,a,c,h.un⟩,F7 hs hF h.cb a (Int.le_refl _)⟩
theorem NP:WI p F sA:=by
 have hb:BI p F ⟨(⟨#[109,97,105,110]⟩:UI),[],[],[]⟩:=⟨⟨⟨jC,jC,jC,fun x hx=>(by cases hx),fun x hx=>(by cases hx),fun x hx=>(by cases hx)⟩,jC,jC⟩,trivial,trivial,jC,fun x hx=>(by cases hx),fun x hx=>(by cases hx),by show l5 [] (dL 200) (runM p F [] [] 200)=0;unfold l5;exact if_neg fun h=>Nat.not_lt_zero _ h.1⟩
 refine⟨⟨jC,jC,jC,fun k hk=>?_,jC,jC,fun i j hi hj _=>?_⟩,I9 hs hF (inp:=[]) (E:=[]) (fun x hx=>by cases hx) fun x hx=>by cases hx⟩
 ·have hk:k<1:=hk;obtain rfl:k=0:=jB;exact hb
 ·have hi:i<1:=hi;have hj:j<1:=hj;omega
variable {w:aU}(h:WI p F w)
include h
theorem Sb(t:Int):WI p F (goW p F w t).1:=by
 unfold goW;split
 ·exact h
 rename_i c;exact⟨⟨h.j.l8,h.j.c0,h.j.c1,h.j.b,by show 0<=t;omega,by show t<=200;omega,h.j.un⟩,F7 hs hF h.j.cb (t:=t) (t':=t) jB jB⟩
theorem OZ(nm:UI):WI p F (switchW p F w nm).1:=by
 unfold switchW;split
 ·exact h
 rename_i c;obtain⟨n,h1,h2,_⟩:=xB c;exact WJ.held hs hF ⟨h.j.l8,by show 0<=dw nm w.l 0;omega,by show dw nm w.l 0<w.l.length;omega,h.j.b,h.j.t0,h.j.t1,h.j.un⟩
variable{nm:UI}
theorem Jg{x:ak}{e:Int}(hx:e=0->BI p F x/\x.name=nm/\comesB p F x w.time=w.time):WI p F (o9 w nm x e).1:=by
 unfold o9;split
 ·exact h
 rename_i c1;split
 ·exact h
 rename_i c2;split
 ·exact h
 rename_i c3;obtain⟨a,b,c⟩:=hx (Classical.not_not.1 c3);refine⟨h.j.app jB a (fun j hj=>b ▸ Cc jB j hj),?_⟩;show comesB p F (nth (w.l++[x]) (w.l.length:Int).toNat) w.time=w.time;rw[Int.toNat_natCast,uV jB,jN];exact c
theorem KL{va:UI}{v:aj}(hv:bD v.n):WI p F (forkW p F w nm va v).1:=by
 unfold forkW;refine Jg hs hF h fun e=>?_
 obtain⟨e1,_,_,e4,_⟩:=HT e;refine⟨R3 h.j.cb hv e,by rw[e1],?_⟩;rw[e1];exact TJ hs hF h.j.cb (x:=⟨w.time,va,v⟩) hv e4 h.co
theorem F9{n:Int}(hn:bD n):WI p F (inputW p F w nm n).1:=by
 unfold inputW;refine Jg hs hF h fun e=>?_
 obtain⟨e1,_⟩:=AB e;refine⟨Se hs hF h.j.cb hn e,by rw[e1],?_⟩;rw[e1];exact Lp hs hF h.j.cb hn h.j.t0 h.j.t1 h.co
theorem Jx{b:ak}{e:Int}(hb:e=0->BI p F b/\b.name=(curB w).name/\comesB p F b w.time=w.time):WI p F (rm w b e).1:=by
 unfold rm;split
 ·exact h
 rename_i c3;obtain⟨a,b',c⟩:=hb (Classical.not_not.1 c3);refine⟨h.j.set a fun j hj Vu e=>Vu (h.j.un j _ hj h.j.ck (e.trans b')),?_⟩;show comesB p F (nth (w.l.set w.cur.toNat b) w.cur.toNat) w.time=w.time;rw[uK h.j.ck,if_pos rfl];exact c
theorem Q8{v:aj}(hv:bD v.n):WI p F (addW p F w nm v).1:=by
 unfold addW;refine Jx hs hF h fun e=>?_
 obtain⟨e1,_,e3,_⟩:=HU e;refine⟨PH h.j.cb hv e,by rw[e1],?_⟩;rw[e1];exact N0 hs hF h.j.cb (x:=⟨w.time,nm,v⟩) hv e3 h.co
theorem QS{n:Int}(hn:bD n):WI p F (appendW w n).1:=by
 unfold appendW;refine Jx hs hF h fun e=>?_
 obtain⟨e1,_⟩:=E2 e;refine⟨QZ hs hF h.j.cb hn e,by rw[e1],?_⟩;rw[e1];exact PZ hs hF h.j.cb hn h.j.t0 h.j.t1 h.co
theorem TK(old nm:UI):WI p F (sM (fW nm) w old nm).1:=by
 unfold sM;split
 ·exact h
 rename_i c1;split
 ·exact h
 rename_i c2;split
 ·exact h
 rename_i c3;obtain⟨n,h1,h2,h3⟩:=xB c1;rw[h2,Int.toNat_natCast];have hok:fW nm=true:=by cases e:fW nm<;>simp_all
 refine⟨h.j.set ((h.j.b n h1).bS hok) fun j hj _=>Cc (nm:=nm) jB j hj,?_⟩;show comesB p F (nth (w.l.set n { nth w.l n with name:=nm }) w.cur.toNat) w.time=w.time;rw[uK h.j.ck];split
 ·rename_i c;rw[c];exact h.co
 ·exact h.co
theorem S3(nm:UI):WI p F (pruneW p F w (dw nm w.l 0)).1:=by
 unfold pruneW;split
 ·exact h
 rename_i c1;split
 ·exact h
 rename_i c2;obtain⟨n,h1,h2,h3⟩:=xB (nm:=nm) (l:=w.l) jB;rw[h2]at c2 ⊢;rw[Int.toNat_natCast];have V7:=h.j.c0;have U1:=h.j.c1;by_cases c3:(n:Int)<w.cur
 ·rw[if_pos c3];refine⟨h.j.Au h1 jB jB,?_⟩;show comesB p F (nth (iU w.l n) (w.cur-1).toNat) w.time=w.time;rw[vu h1 (by rw[qf h1];omega),jN,show(w.cur-1).toNat+1=w.cur.toNat from jB];exact h.co
 rw[if_neg c3];by_cases c4:w.cur=n
 ·rw[if_pos c4];exact WJ.held hs hF (h.j.Au h1 (c:=0) jB jB)
 ·rw[if_neg c4];refine⟨h.j.Au h1 (c:=w.cur) jB jB,?_⟩;show comesB p F (nth (iU w.l n) w.cur.toNat) w.time=w.time;rw[vu h1 (by rw[qf h1];omega),jP];exact h.co
theorem PB(a o:UI):WI p F (rebaseW p F w (dw a w.l 0) (dw o w.l 0)).1:=by
 unfold rebaseW;split
 ·exact h
 rename_i c1;split
 ·exact h
 split
 ·exact h
 split
 ·exact h
 rename_i c2 c3 c4;obtain⟨n,h1,h2,h3⟩:=xB (nm:=a) (l:=w.l) jB;obtain⟨m,g1,g2,g3⟩:=xB (nm:=o) (l:=w.l) jB;rw[h2,g2]at c4 ⊢;simp only[Int.toNat_natCast]at c4 ⊢;have e:=Classical.not_not.1 c4;have e1:=(EY e).1;have hj:=h.j.set (n:=n) (KF (h.j.b n h1) (h.j.b m g1) e) fun j hj Vu e2=>by rw[e1]at e2;exact Vu (h.j.un j n hj h1 e2)
 split
 ·exact WJ.held hs hF hj
 ·rename_i c5;refine⟨hj,?_⟩;show comesB p F (nth (w.l.set n _) w.cur.toNat) w.time=w.time;have:=h.j.c0;rw[uK h.j.ck,jN];exact h.co
theorem PY{o:nj}(hn:bD o.n)(hv:bD o.v.n):WI p F (doesW p F w o).1:=by
 unfold doesW;split
 ·exact Sb hs hF h _
 split
 ·exact OZ hs hF h _
 split
 ·exact KL hs hF h hv
 split
 ·exact F9 hs hF h hn
 split
 ·exact Q8 hs hF h hv
 split
 ·exact QS hs hF h hn
 split
 ·exact TK hs hF h _ _
 split
 ·exact S3 hs hF h _
 ·exact PB hs hF h _ _
omit h
theorem GZ{l:List nj}(hl:∀x∈l,bD x.n/\bD x.v.n):∀k,k<=l.length->WI p F (woodsW p F l k)
 |0,_=>NP hs hF
 |k+1,hk=>by have hx:=hl _ (ff (l:=l) (k:=k) jB);exact PY hs hF (GZ hl k jB) (o:=rM (nth l k)) hx.1 hx.2
end
section
variable {p:af}(hs:fX p){F:UG->MV->MV}(hF:bF p (bz p) F){w:aU}
include hs hF
variable{nm:UI}
theorem QW(h:WI p F w)(hn:fW nm=true)(hf:dw nm w.l 0<0)(n:Int):inputW p F w nm n=(w,62)\/∃x,inputW p F w nm n=({ w with l:=w.l++[x],cur:=w.l.length },0)/\x.name=nm:=by
 have XV:(atB p F (curB w) w.time).time=w.time:=h.co;have h0:=h.j.t0;have h1:=h.j.t1;unfold inputW o9;rw[jN];by_cases c:8<=w.l.length
 ·rw[if_pos c];exact .inl rfl
 rw[if_neg c];by_cases d:(inputB p F (fW nm) (curB w) nm w.time n).2=0
 ·rw[if_neg (fun h=>h d)];exact .inr ⟨_,rfl,by rw[(AB d).1]⟩
 ·rw[if_pos d];refine .inl ?_;have:(inputB p F (fW nm) (curB w) nm w.time n).2=62:=by
   unfold inputB at d ⊢;rw[hn,if_neg jF,jN]at d ⊢;by_cases e:16<=(atB p F (curB w) w.time).in_
   ·rw[if_pos e]
   ·rw[if_neg e]at d;exact(d rfl).elim
  rw[this]
theorem P1(h:WI p F w){x:ak}(hx:x.name=nm)(hf:dw nm w.l 0<0):switchW p F { w with l:=w.l++[x],cur:=w.l.length } (curB w).name=({ w with l:=w.l++[x] },0)/\pruneW p F { w with l:=w.l++[x] } (dw nm (w.l++[x]) 0)=(w,0):=by
 have V7:=h.j.c0;have U1:=h.j.c1;have Vu:∀j,j<w.l.length->(nth w.l j).name≠x.name:=fun j hj=>hx ▸ Cc hf j hj
 have hun:=h.j.un.app Vu;have I':(w.l++[x]).length=w.l.length+1:=jE;have hcb:nth (w.l++[x]) w.cur.toNat=curB w:=by rw[uV jB,if_pos h.j.ck];rfl
 have f1:=hun.find (j:=w.cur.toNat) jB;rw[hcb]at f1;have f2:=hun.find (j:=w.l.length) jB;rw[uV jB,jN,hx]at f2;refine⟨?_,?_⟩
 ·unfold switchW;simp only;rw[f1,jN];have e:((w.cur.toNat:Nat):Int)=w.cur:=jB;rw[e];unfold VF;have hcw:curB { w with l:=w.l++[x],cur:=w.cur }=curB w:=hcb;simp only;rw[hcw,h.co]
 ·rw[f2];unfold pruneW;rw[jN,jN];simp only;rw[jN,jN,Int.toNat_natCast];have:iU (w.l++[x]) w.l.length=w.l:=by
   unfold iU;rw[List.take_left,List.drop_of_length_le jB,List.append_nil]
  rw[this]
end
def HI(l:List aB)(hl:l.length<=1000):aC prog 54 [aP bA 5 l,aP bA 5 l] (rB true):=by
 refine bQ func54 ntmps54 ?_
 (repeat' (first|refine av fun K hK=>?_|refine au ?_|(with_reducible refine gR 6 ?_);refine dE 6 (bf 0 9) mixed ?_|(refine hK _ _ ?_;clear hK K)|(refine ar ?_ ?_<;>intro hc<;>try exact jz)|(refine bY ?_ ?_<;>intro hc<;>try exact jz)|refine aq ?_|exact jI|(clear hK K)))
 refine eN (S:=Nat) [(4,2),(11,15)] (fun k=>k<=l.length) (fun k=>[(5,rI k)]) (fun _=>⟨[],[]⟩) (fun k=>l.length-k) 0 (Nat.zero_le _) (eR rfl cH) ?_;rintro k hk Kr Ut;by_cases O':k<l.length
 ·(refine S ?_;try exact jI)
  (have W:=O';repeat' (first|refine av fun K hK=>?_|refine au ?_|(with_reducible refine gR 6 ?_);refine dE 6 (bf 0 9) mixed ?_|(refine hK _ _ ?_;clear hK K)|(refine ar ?_ ?_<;>intro hc<;>try exact jz)|(refine bY ?_ ?_<;>intro hc<;>try exact jz)|refine aq ?_|exact jI|(clear hK K)))
  exact Ut _ _ (eQ (k+1) jB (by show l.length-(k+1)<l.length-k;omega) rfl cH)
 ·(refine S ?_;try exact jI)
  (have W:=O';repeat' (first|refine av fun K hK=>?_|refine au ?_|(with_reducible refine gR 6 ?_);refine dE 6 (bf 0 9) mixed ?_|(refine hK _ _ ?_;clear hK K)|(refine ar ?_ ?_<;>intro hc<;>try exact jz)|(refine bY ?_ ?_<;>intro hc<;>try exact jz)|refine aq ?_|exact jI|(clear hK K)))
  (refine ba [.tmp 4] ?_;try simp only[go_sem])
def SR{b:ak}(h:ie b):aC prog 30 [.agg (bu b),.agg (bu b)] (rB true):=by
 have h1:=HI b.base (by have:=h.rN;omega);have h2:=HI b.own (by have:=h.oY;omega);have h3:=h.inl;refine bQ func30 ntmps30 ?_
 (repeat' (first|refine av fun K hK=>?_|refine au ?_|(with_reducible refine gR 8 ?_);refine dE 8 (bf 0 11) mixed ?_|(refine hK _ _ ?_;clear hK K)|(refine ar ?_ ?_<;>intro hc<;>try exact jz)|refine aV 2 ?_|refine aV 3 ?_|refine cp (h1) ?_|refine cp (h2) ?_|(refine bY ?_ ?_<;>intro hc<;>try exact jz)|refine aq ?_|exact jI|(clear hK K)))
 refine eN (S:=Nat) [(4,1),(7,1),(40,18)] (fun k=>k<=b.aD.length) (fun k=>[(7,rI k)]) (fun _=>⟨[],[(2,.var 49 (bu b)),(3,.var 49 (bu b))]⟩) (fun k=>b.aD.length-k) 0 (Nat.zero_le _) (eR rfl cH) ?_;rintro k hk Kr Ut;by_cases O':k<b.aD.length
 ·(refine S ?_;try exact jI)
  (have W:=O';repeat' (first|refine av fun K hK=>?_|refine au ?_|(with_reducible refine gR 8 ?_);refine dE 8 (bf 0 11) mixed ?_|(refine hK _ _ ?_;clear hK K)|(refine ar ?_ ?_<;>intro hc<;>try exact jz)|(refine bY ?_ ?_<;>intro hc<;>try exact jz)|refine aq ?_|exact jI|(clear hK K)))
  exact Ut _ _ (eQ (k+1) jB (by show b.aD.length-(k+1)<b.aD.length-k;omega) rfl cH)
 ·(refine S ?_;try exact jI)
  (have W:=O';repeat' (first|refine av fun K hK=>?_|refine au ?_|(with_reducible refine gR 8 ?_);refine dE 8 (bf 0 11) mixed ?_|(refine hK _ _ ?_;clear hK K)|(refine ar ?_ ?_<;>intro hc<;>try exact jz)|(refine bY ?_ ?_<;>intro hc<;>try exact jz)|refine aq ?_|exact jI|(clear hK K)))
  (refine ba [.tmp 4] ?_;try simp only[go_sem])
def IE(s:UI):aC prog 7 [rS s] (rS (qP s)):=by
 refine bQ func7 ntmps7 ?_
 (repeat' (first|refine av fun K hK=>?_|refine au ?_|(refine hK _ _ ?_;clear hK K)|(refine ar ?_ ?_<;>intro hc<;>try exact jz)|(refine bY ?_ ?_<;>intro hc<;>try exact jz)|refine aq ?_|exact jI|(clear hK K)))
 ·(refine ba [.tmp 2] ?_;try simp only[go_sem])
  unfold qP;rw[jP]
 ·(refine ba [.tmp 2] ?_;try simp only[go_sem])
  unfold qP;rw[jN]
def Rh(o:nj):aC prog 10 [.agg (iq o)] (.agg (iq (rM o))):=by
 have Wm:rM o=⟨o.kind,o.n,if 20<o.name.size then o.name.extract 0 20 else o.name,if 20<o.more.size then o.more.extract 0 20 else o.more,{ o.v with s:=if 60<o.v.s.size then o.v.s.extract 0 60 else o.v.s }⟩:=rfl;generalize rM o=O at*;by_cases c1:20<o.name.size<;>by_cases c2:20<o.more.size<;>by_cases c3:60<o.v.s.size
 all_goals
  first|rw[if_pos c1]at Wm|rw[if_neg c1]at Wm
  first|rw[if_pos c2]at Wm|rw[if_neg c2]at Wm
  first|rw[if_pos c3]at Wm|rw[if_neg c3]at Wm
  refine bQ func10 ntmps10 ?_
  (have W:=jA c1 (jA c2 (c3));repeat' (first|refine av fun K hK=>?_|refine au ?_|(refine hK _ _ ?_;clear hK K)|(refine ar ?_ ?_<;>intro hc<;>try exact jz)|refine aV 1 ?_|refine cL 2 ?_|(refine bY ?_ ?_<;>intro hc<;>try exact jz)|refine aq ?_|exact jI|(clear hK K)))
  rw[Wm]
  (refine ba [.cell 2 44] ?_;try simp only[go_sem])
section
variable {p:af}(hp:mJ p)(Uw:fw p){F:UG->MV->MV}(hF:bF p (bz p) F)
include hp Uw hF
theorem Ue{w:aU}(h:iW w)(o:nj)(hk:0<=o.kind)(hn:bD o.n)(hv:bD o.v.n):aC prog 9 [.agg (cn p),.agg (cU w),.agg (iq o)] (.aQ [.agg (cU (doesW p F w o).1),rI (doesW p F w o).2.1,rI (doesW p F w o).2.2]):=by
 have VG:o.kind.tmod 9=o.kind % 9:=Int.tmod_eq_emod_of_nonneg hk;have hq:o.kind % 9=0\/o.kind % 9=1\/o.kind % 9=2\/o.kind % 9=3\/o.kind % 9=4\/o.kind % 9=5\/o.kind % 9=6\/o.kind % 9=7\/o.kind % 9=8:=jB;unfold doesW;rcases hq with q|q|q|q|q|q|q|q|q
 ·rw[q]at VG ⊢;rw[if_pos rfl];have h1:=HJ hp Uw hF h o.n hn;generalize goW p F w o.n=X at*;obtain⟨xw,xe⟩:=X;simp only at h1 ⊢;refine bQ func9 ntmps9 ?_
  (have W:=VG;repeat' (first|refine av fun K hK=>?_|refine au ?_|(refine hK _ _ ?_;clear hK K)|(refine ar ?_ ?_<;>intro hc<;>try exact jz)|refine aV 3 ?_|refine aV 4 ?_|refine cp (h1) ?_|(refine bY ?_ ?_<;>intro hc<;>try exact jz)|refine aq ?_|exact jI|(clear hK K)))
  (refine ba [.cell 6 37,.tmp 7,.tmp 8] ?_;try simp only[go_sem])
 ·rw[q]at VG ⊢;rw[if_neg jC,if_pos rfl];have h1:=Jd hp Uw hF h o.name;generalize switchW p F w o.name=X at*;obtain⟨xw,xe⟩:=X;simp only at h1 ⊢;refine bQ func9 ntmps9 ?_
  (have W:=VG;repeat' (first|refine av fun K hK=>?_|refine au ?_|(refine hK _ _ ?_;clear hK K)|(refine ar ?_ ?_<;>intro hc<;>try exact jz)|refine aV 3 ?_|refine aV 4 ?_|refine cp (h1) ?_|(refine bY ?_ ?_<;>intro hc<;>try exact jz)|refine aq ?_|exact jI|(clear hK K)))
  (refine ba [.cell 6 37,.tmp 7,.tmp 8] ?_;try simp only[go_sem])
 ·rw[q]at VG ⊢;rw[if_neg jC,if_neg jC,if_pos rfl];have h1:=FW hp Uw hF h o.name o.more hv;generalize forkW p F w o.name o.more o.v=X at*;obtain⟨xw,xe⟩:=X;simp only at h1 ⊢;refine bQ func9 ntmps9 ?_
  (have W:=VG;repeat' (first|refine av fun K hK=>?_|refine au ?_|(refine hK _ _ ?_;clear hK K)|(refine ar ?_ ?_<;>intro hc<;>try exact jz)|refine aV 3 ?_|refine aV 4 ?_|refine cp (h1) ?_|(refine bY ?_ ?_<;>intro hc<;>try exact jz)|refine aq ?_|exact jI|(clear hK K)))
  (refine ba [.cell 6 37,.tmp 7,.tmp 8] ?_;try simp only[go_sem])
 ·rw[q]at VG ⊢;rw[if_neg jC,if_neg jC,if_neg jC,if_pos rfl];have h1:=GB hp Uw hF h o.name o.n;generalize inputW p F w o.name o.n=X at*;obtain⟨xw,xe⟩:=X;simp only at h1 ⊢;refine bQ func9 ntmps9 ?_
  (have W:=VG;repeat' (first|refine av fun K hK=>?_|refine au ?_|(refine hK _ _ ?_;clear hK K)|(refine ar ?_ ?_<;>intro hc<;>try exact jz)|refine aV 3 ?_|refine aV 4 ?_|refine cp (h1) ?_|(refine bY ?_ ?_<;>intro hc<;>try exact jz)|refine aq ?_|exact jI|(clear hK K)))
  (refine ba [.cell 6 37,.tmp 7,.tmp 8] ?_;try simp only[go_sem])
 ·rw[q]at VG ⊢;rw[if_neg jC,if_neg jC,if_neg jC,if_neg jC,if_pos rfl];have h1:=OM hp Uw hF h o.more hv;generalize addW p F w o.more o.v=X at*;obtain⟨xw,xe⟩:=X;simp only at h1 ⊢;refine bQ func9 ntmps9 ?_
  (have W:=VG;repeat' (first|refine av fun K hK=>?_|refine au ?_|(refine hK _ _ ?_;clear hK K)|(refine ar ?_ ?_<;>intro hc<;>try exact jz)|refine aV 3 ?_|refine aV 4 ?_|refine cp (h1) ?_|(refine bY ?_ ?_<;>intro hc<;>try exact jz)|refine aq ?_|exact jI|(clear hK K)))
  (refine ba [.cell 6 37,.tmp 7,.tmp 8] ?_;try simp only[go_sem])
 ·rw[q]at VG ⊢;rw[if_neg jC,if_neg jC,if_neg jC,if_neg jC,if_neg jC,if_pos rfl];have h1:=Sk h o.n;generalize appendW w o.n=X at*;obtain⟨xw,xe⟩:=X;simp only at h1 ⊢;refine bQ func9 ntmps9 ?_
  (have W:=VG;repeat' (first|refine av fun K hK=>?_|refine au ?_|(refine hK _ _ ?_;clear hK K)|(refine ar ?_ ?_<;>intro hc<;>try exact jz)|refine aV 3 ?_|refine aV 4 ?_|refine cp (h1) ?_|(refine bY ?_ ?_<;>intro hc<;>try exact jz)|refine aq ?_|exact jI|(clear hK K)))
  (refine ba [.cell 6 37,.tmp 7,.tmp 8] ?_;try simp only[go_sem])
 ·rw[q]at VG ⊢;rw[if_neg jC,if_neg jC,if_neg jC,if_neg jC,if_neg jC,if_neg jC,if_pos rfl];have h1:=ME h o.name o.more;generalize sM (fW o.more) w o.name o.more=X at*;obtain⟨xw,xe⟩:=X;simp only at h1 ⊢;refine bQ func9 ntmps9 ?_
  (have W:=VG;repeat' (first|refine av fun K hK=>?_|refine au ?_|(refine hK _ _ ?_;clear hK K)|(refine ar ?_ ?_<;>intro hc<;>try exact jz)|refine aV 3 ?_|refine aV 4 ?_|refine cp (h1) ?_|(refine bY ?_ ?_<;>intro hc<;>try exact jz)|refine aq ?_|exact jI|(clear hK K)))
  (refine ba [.cell 6 37,.tmp 7,.tmp 8] ?_;try simp only[go_sem])
 ·rw[q]at VG ⊢;rw[if_neg jC,if_neg jC,if_neg jC,if_neg jC,if_neg jC,if_neg jC,if_neg jC,if_pos rfl];have h1:=Jt hp Uw hF h o.name;generalize pruneW p F w (dw o.name w.l 0)=X at*;obtain⟨xw,xe⟩:=X;simp only at h1 ⊢;refine bQ func9 ntmps9 ?_
  (have W:=VG;repeat' (first|refine av fun K hK=>?_|refine au ?_|(refine hK _ _ ?_;clear hK K)|(refine ar ?_ ?_<;>intro hc<;>try exact jz)|refine aV 3 ?_|refine aV 4 ?_|refine cp (h1) ?_|(refine bY ?_ ?_<;>intro hc<;>try exact jz)|refine aq ?_|exact jI|(clear hK K)))
  (refine ba [.cell 6 37,.tmp 7,.tmp 8] ?_;try simp only[go_sem])
 ·rw[q]at VG ⊢;rw[if_neg jC,if_neg jC,if_neg jC,if_neg jC,if_neg jC,if_neg jC,if_neg jC,if_neg jC];have h1:=Lv hp Uw hF h o.name o.more;generalize rebaseW p F w (dw o.name w.l 0) (dw o.more w.l 0)=X at*;obtain⟨xw,xn,xe⟩:=X;simp only at h1 ⊢;refine bQ func9 ntmps9 ?_
  (have W:=VG;repeat' (first|refine av fun K hK=>?_|refine au ?_|(refine hK _ _ ?_;clear hK K)|(refine ar ?_ ?_<;>intro hc<;>try exact jz)|refine aV 3 ?_|refine aV 4 ?_|refine cp (h1) ?_|(refine bY ?_ ?_<;>intro hc<;>try exact jz)|refine aq ?_|exact jI|(clear hK K)))
  (refine ba [.cell 6 37,.tmp 7,.tmp 8] ?_;try simp only[go_sem])
end
def TF{w:aU}(h:iW w):aC prog 13 [.agg (cU w),.agg (cU w)] (rB true):=by
 have hl:=h.ln;refine bQ func13 ntmps13 ?_
 (repeat' (first|refine av fun K hK=>?_|refine au ?_|(with_reducible refine gR 6 ?_);refine dC 6 ([],[45],[]) [] (bf 0 12) mixed ?_|(refine hK _ _ ?_;clear hK K)|(refine ar ?_ ?_<;>intro hc<;>try exact jz)|refine aV 2 ?_|refine aV 3 ?_|(refine bY ?_ ?_<;>intro hc<;>try exact jz)|refine aq ?_|exact jI|(clear hK K)))
 refine eN (S:=Nat) [(4,3),(28,20)] (fun k=>k<=w.l.length) (fun k=>[(5,rI k)]) (fun _=>⟨[],[(2,.var 37 (cU w)),(3,.var 37 (cU w))]⟩) (fun k=>w.l.length-k) 0 (Nat.zero_le _) (eR rfl cH) ?_;rintro k hk Kr Ut;by_cases O':k<w.l.length
 ·have hsm:=SR (h.b k O').ok;refine S ?_
  (have W:=O';repeat' (first|refine av fun K hK=>?_|refine au ?_|(with_reducible refine gR 6 ?_);refine dC 6 ([],[45],[]) [] (bf 0 12) mixed ?_|(refine hK _ _ ?_;clear hK K)|(refine ar ?_ ?_<;>intro hc<;>try exact jz)|refine cq (hsm) ?_|(refine bY ?_ ?_<;>intro hc<;>try exact jz)|refine aq ?_|exact jI|(clear hK K)))
  exact Ut _ _ (eQ (k+1) jB (by show w.l.length-(k+1)<w.l.length-k;omega) rfl cH)
 ·(refine S ?_;try exact jI)
  (have W:=O';repeat' (first|refine av fun K hK=>?_|refine au ?_|(with_reducible refine gR 6 ?_);refine dC 6 ([],[45],[]) [] (bf 0 12) mixed ?_|(refine hK _ _ ?_;clear hK K)|(refine ar ?_ ?_<;>intro hc<;>try exact jz)|(refine bY ?_ ?_<;>intro hc<;>try exact jz)|refine aq ?_|exact jI|(clear hK K)))
  (refine ba [.tmp 4] ?_;try simp only[go_sem])
section
variable {p:af}(hs:fX p){F:UG->MV->MV}(hF:bF p (bz p) F){w:aU}(h:iW w)
include h
include hs hF
omit h hs hF in
theorem Lr:iW sA:=⟨jC,jC,jC,fun k hk=>by have hk:k<1:=hk;obtain rfl:k=0:=jB;exact⟨⟨jC,jC,jC,fun x hx=>(by cases hx),fun x hx=>(by cases hx),fun x hx=>(by cases hx)⟩,jC,jC⟩,⟨jC,jC⟩⟩
omit h in
end
def zE(p:af)(inp:UG)(m:MV):Option MV:=
 if m.status=2\/m.status=3 then some m
 else if(pk p (bz p) inp 50 m.eo).dF (bz p)then some (pk p (bz p) inp 50 m.eo).fA else none
def zx(p:af)(inp:UG)(E:List aB)(T:Int):Nat->MV->Nat->Bool->Option (MV×Nat×Bool)
 |0,m,k,b=>some (m,k,b)
 |n+1,m,k,b=>
  if(cv MV.time (dv p (bz p)) E (E.length+1) m k b).1.time=T then some (cv MV.time (dv p (bz p)) E (E.length+1) m k b)
  else match zE p inp (cv MV.time (dv p (bz p)) E (E.length+1) m k b).1 with
   |none=>none
   |some m'=>if m'.time=(cv MV.time (dv p (bz p)) E (E.length+1) m k b).1.time then some (m',(cv MV.time (dv p (bz p)) E (E.length+1) m k b).2)
    else zx p inp E T n m' (cv MV.time (dv p (bz p)) E (E.length+1) m k b).2.1 (cv MV.time (dv p (bz p)) E (E.length+1) m k b).2.2
def sW(p:af)(inp:UG)(E:List aB)(t:Int):Option (MV×Nat×Bool):=
 if(pk p (bz p) [] 50 (l4 p (bz p))).dF (bz p)then zx p inp E (dL t) ((dL t-(pk p (bz p) [] 50 (l4 p (bz p))).time).toNat+1) (pk p (bz p) [] 50 (l4 p (bz p))) 0 false else none
section
variable {p:af}{F:UG->MV->MV}(hF:bF p (bz p) F){inp:UG}(hi:∀x∈inp,bD x){E:List aB}(hE:∀k,k<E.length->bD (nth E k).v.n)
include hF hi
theorem T2{m m':MV}(h:IM p inp m)(e:zE p inp m=some m'):F inp m=m':=by
 unfold zE at e;split at e
 ·rename_i c;cases e;exact hF.still _ _ c
 rename_i c;split at e
 ·rename_i d;cases e;exact RK hF hi h.mi c 50 d
 ·cases e
include hE
theorem Hg{T:Int}(hT:T<=200):∀(n:Nat) (m:MV) (k:Nat) (b:Bool) {r:MV×Nat×Bool},IM p inp m->m.time<=T->zx p inp E T n m k b=some r->cZ MV.time (F inp) (dv p (bz p)) E T n m k b=r
 |0,m,k,b,r,_,_,e=>by cases e;rfl
 |n+1,m,k,b,r,h,ht,e=>by
  obtain⟨a1,a2,_⟩:=na (mW hF hi hE) (E.length+1) m k b h;unfold zx at e;unfold cZ;generalize cv MV.time (dv p (bz p)) E (E.length+1) m k b=Q at*;by_cases c:Q.1.time=T
  ·rw[if_pos c]at e ⊢;cases e;rfl
  rw[if_neg c]at e ⊢;cases P':zE p inp Q.1 with
  |none=>rw[P']at e;cases e
  |some m'=>
   rw[P']at e;have hs:=T2 hF hi a1 P';obtain⟨c1,c2⟩:=pi hF hi a1;rw[hs]at c1 c2 ⊢;simp only at e;by_cases d:m'.time=Q.1.time
   ·rw[if_pos d]at e ⊢;cases e;rfl
   ·rw[if_neg d]at e ⊢;exact Hg hT n m' Q.2.1 Q.2.2 c1 (by rcases c2 with e|⟨e,_⟩<;>omega) e
theorem Hk(hs:fX p){t:Int}{r:MV×Nat×Bool}(e:sW p inp E t=some r):runM p F inp E t=r:=by
 obtain⟨m1,⟨n,hg⟩,P',_⟩:=AO hs (xu hs) [];unfold sW at e;split at e
 ·rename_i c;have em:=GV hg P' 50 c;have e0:=yG ⟨n,hg⟩ P';obtain⟨a,b,_⟩:=pE hs inp;obtain⟨c0,c1⟩:=Ai t;rw[em,<-e0]at e;unfold runM;exact Hg hF hi hE c1 _ _ 0 false a jB e
 ·cases e
end
def wi:UI:=(⟨#[102,110,32,109,97,105,110,40,41,123,108,101,116,32,97,61,49,59,112,114,105,110,116,32,97,59,125]⟩:UI)
def eX:aB:=⟨1,(⟨#[97]⟩:UI),⟨1,5,⟨#[]⟩⟩⟩
def CI:(gh wi).2.2=0:=by decide +kernel
def La:(sW (gh wi).1 [] [] 1).map (fun r=>r.1.time)=some 1:=by decide +kernel
def LB:(sW (gh wi).1 [] [eX] 200).map (fun r=>l5 [eX] 200 r)=some 0:=by decide +kernel
def NV:(sW (gh wi).1 [] [eX] 2).map (fun r=>r.1.bC)=some [(⟨#[53]⟩:UI)]:=by decide +kernel
def Lk:∃p x,gh wi=(p,x,0)/\mJ p/\fw p/\∃r1 r2 r3,sW p [] [] 1=some r1/\r1.1.time=1/\sW p [] [eX] 200=some r2/\l5 [eX] 200 r2=0/\sW p [] [eX] 2=some r3/\r3.1.bC=[(⟨#[53]⟩:UI)]:=by obtain⟨r1,a1,b1⟩:=Option.map_eq_some_iff.1 La;obtain⟨r2,a2,b2⟩:=Option.map_eq_some_iff.1 LB;obtain⟨r3,a3,b3⟩:=Option.map_eq_some_iff.1 NV;exact⟨_,_,by rw[<-CI],IA CI,Fv CI,r1,r2,r3,a1,b1,a2,b2,a3,b3⟩
def Hv:aC prog 5 [] (rB true):=by
 obtain⟨p,x,e,hp,Uw,r1,r2,r3,a1,b1,a2,b2,a3,b3⟩:=Lk;have hs:=JS wi jC;rw[e]at hs;obtain⟨F,hF⟩:=Gj hp.ok;have hi:∀x∈([]:UG),bD x:=fun x hx=>by cases hx
 have he0:∀k,k<([]:List aB).length->bD (nth ([]:List aB) k).v.n:=fun k hk=>by simp at hk
 have Xm:∀k,k < [eX].length->bD (nth [eX] k).v.n:=fun k hk=>by
  have:k=0:=by simpa using hk
  subst this;exact⟨jC,jC⟩
 have q1:=Hk hF hi he0 hp.ok a1;have q2:=Hk hF hi Xm hp.ok a2;have hw0:=Lr;have U1:comesB p F (curB sA) 1=1:=by show(runM p F [] [] 1).1.time=1;rw[q1];exact b1
 have g1:goW p F sA 1=(⟨[⟨(⟨#[109,97,105,110]⟩:UI),[],[],[]⟩],0,1⟩,0):=by unfold goW;rw[U1,if_neg jC];rfl
 have hg:=HJ hp Uw hF hw0 1 ⟨jC,jC⟩;have hw1:iW ⟨[⟨(⟨#[109,97,105,110]⟩:UI),[],[],[]⟩],0,1⟩:=⟨jC,jC,jC,hw0.b,⟨jC,jC⟩⟩;rw[g1]at hg;have hfk:forkB p F (fW (⟨#[98]⟩:UI)) (curB ⟨[⟨(⟨#[109,97,105,110]⟩:UI),[],[],[]⟩],0,1⟩) (⟨#[98]⟩:UI) ⟨1,(⟨#[97]⟩:UI),⟨1,5,⟨#[]⟩⟩⟩=(⟨(⟨#[98]⟩:UI),[],[],[eX]⟩,0):=by
  have h1:fW (⟨#[98]⟩:UI)=true:=jC;have h2:lN eX=true:=jC;have h3:(atB p F ⟨(⟨#[109,97,105,110]⟩:UI),[],[],[]⟩ 1).time=1:=by show(runM p F [] [] 1).1.time=1;rw[q1];exact b1
  have h4:badB p F ⟨(⟨#[98]⟩:UI),[],[],[eX]⟩=0:=by show l5 [eX] (dL 200) (runM p F [] [eX] 200)=0;rw[q2];exact b2
  show forkB p F (fW (⟨#[98]⟩:UI)) ⟨(⟨#[109,97,105,110]⟩:UI),[],[],[]⟩ (⟨#[98]⟩:UI) eX=_;unfold forkB;rw[h1,h2,if_neg jC];show(if(atB p F ⟨(⟨#[109,97,105,110]⟩:UI),[],[],[]⟩ 1).time<1 then _ else _)=_;rw[h3,if_neg jC,if_neg jC];show fineB p F ⟨(⟨#[98]⟩:UI),[],[],[eX]⟩=_;unfold fineB;rw[h4,if_neg (fun h=>h rfl)]
 have hf:=FW hp Uw hF hw1 (⟨#[98]⟩:UI) (⟨#[97]⟩:UI) (v:=⟨1,5,⟨#[]⟩⟩) ⟨jC,jC⟩;have g2:forkW p F ⟨[⟨(⟨#[109,97,105,110]⟩:UI),[],[],[]⟩],0,1⟩ (⟨#[98]⟩:UI) (⟨#[97]⟩:UI) ⟨1,5,⟨#[]⟩⟩=(⟨[⟨(⟨#[109,97,105,110]⟩:UI),[],[],[]⟩,⟨(⟨#[98]⟩:UI),[],[],[eX]⟩],1,1⟩,0):=by have Y8:dw (⟨#[98]⟩:UI) [⟨(⟨#[109,97,105,110]⟩:UI),[],[],[]⟩] 0=-1:=jC;unfold forkW o9;simp only;rw[hfk,Y8];rfl
 rw[g2]at hf;have hnw:aC prog 8 [] (.agg (cU sA)):=Iu;refine bQ func5 ntmps5 ?_
 (repeat' (first|refine av fun K hK=>?_|refine au ?_|(with_reducible refine gR 2 ?_);refine dC 2 ([],[],[15,16]) [6] (bf 0 9) mixed ?_|(refine hK _ _ ?_;clear hK K)|(refine ar ?_ ?_<;>intro hc<;>try exact jz)|refine cL 1 ?_|refine cL 4 ?_|refine cL 6 ?_|refine cp (hs) ?_|refine cN hnw ?_|refine cN hg ?_|refine cp (hf) ?_|(refine bY ?_ ?_<;>intro hc<;>try exact jz)|refine aq ?_|exact jI|(clear hK K)))
 (refine ba [.tmp 0] ?_;try simp only[go_sem])
end Go.Proofs.YtijdhbokcdpklaaGreatDoor