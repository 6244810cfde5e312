/- Lemmas. No conditions. -/
import Derived.Test.YtjpcgmjaipfgdaaGreatDoorTwD
import Derived.Test.YtjpcgmjaipfgdaaGreatDoorBqM
set_option linter.all false
set_option maxHeartbeats 4000000
set_option maxRecDepth 10000
namespace Go.Gd
open Go
structure mO where
 kind:Int
 n:Int
 name:ByteArray
 more:ByteArray
 v:aj
 deriving Inhabited,DecidableEq
def ii(x:mO):TB:=[.raw (.int .u8 x.kind),.raw (.int .i64 x.n),.raw (.string x.name),.raw (.string x.more),.raw (.int .i64 x.v.ty),.raw (.int .i64 x.v.n),.raw (.string x.v.s)]
section
variable (x y:mO)
@[go_sem] def j4H:((ii x).length=7)/\((ii x).all AV.one=true):=by and_intros<;>(intros;rfl)
@[go_sem] def QU(q:TK):aW q (ii x)=true:=by simp[ii,aW,AV.all]
instance:bC ii 7:=⟨fun _=>rfl,fun _=>rfl,fun x=>QU x _⟩
@[go_sem] def j2p:((ii x).take 7=ii x)/\((ii x).getD 0 .any=.raw (.int .u8 x.kind))/\((ii x).getD 1 .any=.raw (.int .i64 x.n))/\((ii x).getD 2 .any=.raw (.string x.name))/\(∀(v:TF),List.take 2 (ii x)++[.raw (.string v)]++List.drop 3 (ii x)=ii { x with name:=v })/\((ii x).getD 3 .any=.raw (.string x.more))/\(∀(v:TF),List.take 3 (ii x)++[.raw (.string v)]++List.drop 4 (ii x)=ii { x with more:=v })/\((ii x).getD 6 .any=.raw (.string x.v.s))/\(∀(v:TF),List.take 6 (ii x)++[.raw (.string v)]++List.drop 7 (ii x)=ii { x with v.s:=v })/\(((ii x).drop 4).take 3=bS x.v):=by and_intros<;>(intros;rfl)
end
def ri(o:mO):mO:=⟨o.kind,o.n,Fe o.name,Fe o.more,{ o.v with s:=if 60<o.v.s.size then o.v.s.extract 0 60 else o.v.s }⟩
end Go.Gd
namespace Go.Proofs.YtjpcgmjaipfgdaaGreatDoor
open Go Go.Gd Tryz Go.Gd.MV
def pw(w:aX)(nm:TF)(x:ay)(e:Int):aX×Int:=
 if 0<=dw nm w.l 0 then(w,61)else if 8<=w.l.length then(w,62)else if e≠0 then(w,e)else({ w with l:=w.l++[x],cur:=w.l.length },0)
section
variable {p:af}(hp:mn p)(Tn:fq p){F:TD->MV->MV}(hF:bQ p (cf p) F)
include hp Tn hF
theorem Pa{b:ay}(h:gW b)(nm:TF){x:aD}(hx:cn x.v.n)(hxa:cn x.at_):ab prog 137 [.agg (bu b),.pt 5 0 0 0,.pt 7 0 0 0,.pt 12 0 0 0] [(5,.var 32 (ci p)),(7,.var 9 [rS nm]),(12,.var 56 (bA x))] (fun r l=>r=.aP [.agg (bu (forkB p F (iB nm) b nm x).1),rI (forkB p F (iB nm) b nm x).2]/\l=[(5,.var 32 (ci p)),(7,.var 9 [rS nm]),(12,.var 56 (bA x))]):=by
 have hf:=Lv hp Tn hF h nm hx hxa;generalize forkB p F (iB nm) b nm x=X at*;obtain⟨xb,xe⟩:=X;simp only at hf ⊢;refine aL func137 ntmps137 ?_;refine S ?_
 (repeat' (first|refine aq fun K hK=>?_|refine au ?_|(refine hK _ _ ?_;clear hK K)|(refine ap ?_ ?_<;>intro hc<;>try exact jz)|refine bx 20 ?_|refine al 21 ?_|refine cp (hf) ?_|(refine bU ?_ ?_<;>intro hc<;>try exact jz)|refine ar ?_|exact jI|(clear hK K)))
 (refine aZ [.cell 5 52,.tmp 6] ?_;try simp only[go_sem])
end
variable{w:aX}
def RA{p:af}(h:fy w)(nm nm2:TF)(x:aD)(xb:ay)(xe:Int)(Tc:ab prog 137 [.agg (bu (curB w)),.pt 5 0 0 0,.pt 7 0 0 0,.pt 12 0 0 0] [(5,.var 32 (ci p)),(7,.var 9 [rS nm2]),(12,.var 56 (bA x))] (fun r l=>r=.aP [.agg (bu xb),rI xe]/\l=[(5,.var 32 (ci p)),(7,.var 9 [rS nm2]),(12,.var 56 (bA x))])) :
  ab prog 92 [.agg (cS w),rS nm,.dP 137 [.pt 5 0 0 0,.pt 7 0 0 0,.pt 12 0 0 0]] [(5,.var 32 (ci p)),(7,.var 9 [rS nm2]),(12,.var 56 (bA x))] (fun r l=>r=.aP [.agg (cS (pw w nm xb xe).1),rI (pw w nm xb xe).2]/\l=[(5,.var 32 (ci p)),(7,.var 9 [rS nm2]),(12,.var 56 (bA x))]):=by
 have Uk:=h.ln;have U3:=h.c0;have TP:=h.c1;have f1:=su w nm jB;have W5:=zy w.l jB 1;change ab _ _ [.agg (bu (nth w.l w.cur.toNat)),_,_,_] _ _ at Tc
 unfold pw;generalize dw nm w.l 0=i at*;by_cases c1:0<=i
 ·rw[if_pos c1];have c1':i >= 0:=c1;refine aL func92 ntmps92 ?_;refine S ?_
  (have W:=c1';repeat' (first|refine aq fun K hK=>?_|refine au ?_|(with_reducible refine gR 8 ?_);refine dC 8 ([],[],[39]) [] [0,1,3,4,2,5,6,7] mixed ?_|(refine hK _ _ ?_;clear hK K)|(refine ap ?_ ?_<;>intro hc<;>try exact jz)|refine bx 20 ?_|refine al 21 ?_|refine cp (f1) ?_|(refine bU ?_ ?_<;>intro hc<;>try exact jz)|refine ar ?_|exact jI|(clear hK K)))
  (refine aZ [.cell 6 90,.tmp 7] ?_;try simp only[go_sem])
 rw[if_neg c1];have c1':¬i >= 0:=c1;by_cases c2:8<=w.l.length
 ·rw[if_pos c2];have c2':(w.l.length:Int) >= 8:=jB;refine aL func92 ntmps92 ?_;refine S ?_
  (have W:=jA c1' (c2');repeat' (first|refine aq fun K hK=>?_|refine au ?_|(with_reducible refine gR 8 ?_);refine dC 8 ([],[],[39]) [] [0,1,3,4,2,5,6,7] mixed ?_|(refine hK _ _ ?_;clear hK K)|(refine ap ?_ ?_<;>intro hc<;>try exact jz)|refine bx 20 ?_|refine al 21 ?_|refine cp (f1) ?_|(refine bU ?_ ?_<;>intro hc<;>try exact jz)|refine ar ?_|exact jI|(clear hK K)))
  (refine aZ [.cell 6 90,.tmp 7] ?_;try simp only[go_sem])
 rw[if_neg c2];have c2':¬(w.l.length:Int) >= 8:=jB;by_cases c3:xe=0
 rotate_left
 ·rw[if_pos c3];refine aL func92 ntmps92 ?_;refine S ?_
  (have W:=jA c1' (jA c2' (jA c3 (jA U3 (TP))));repeat' (first|refine aq fun K hK=>?_|refine au ?_|(with_reducible refine gR 8 ?_);refine dC 8 ([],[],[39]) [] [0,1,3,4,2,5,6,7] mixed ?_|(refine hK _ _ ?_;clear hK K)|(refine ap ?_ ?_<;>intro hc<;>try exact jz)|refine bx 20 ?_|refine al 21 ?_|refine al 22 ?_|(refine cl Tc ?_)|refine cp (f1) ?_|(refine bU ?_ ?_<;>intro hc<;>try exact jz)|refine ar ?_|exact jI|(clear hK K)))
  (refine aZ [.cell 6 90,.tmp 7] ?_;try simp only[go_sem])
 ·rw[if_neg (fun h=>h c3)];subst c3;obtain⟨l,c,t⟩:=w;simp only at*;simp only[cS]at f1 ⊢;refine aL func92 ntmps92 ?_;refine S ?_
  (have W:=jA c1' (jA c2' (jA U3 (TP)));repeat' (first|refine aq fun K hK=>?_|refine au ?_|(with_reducible refine gR 8 ?_);refine dC 8 ([],[],[39]) [] [0,1,3,4,2,5,6,7] mixed ?_|(refine hK _ _ ?_;clear hK K)|(refine ap ?_ ?_<;>intro hc<;>try exact jz)|refine bx 20 ?_|refine al 21 ?_|refine al 22 ?_|(refine cl Tc ?_)|refine cN W5 ?_|refine cp (f1) ?_|(refine bU ?_ ?_<;>intro hc<;>try exact jz)|refine ar ?_|exact jI|(clear hK K)))
  refine fC [.cell 6 90,.tmp 7] ?_;exact bt.aP (ds:=[.agg [aM bu 4 (l++[xb]),rI l.length,rI t],rI 0]) ⟨bt.agg (ds:=[aM bu 4 (l++[xb]),rI l.length,rI t]) ⟨cW.row (l++[xb]) rfl (by rw[List.map_append];rfl) (by rw[List.length_append];rfl),(by rw[show(((l.length+1:Nat):Int)-1)=(l.length:Int) from jB];exact .same _ rfl),.same _ rfl,trivial⟩,.same _ rfl,trivial⟩
noncomputable def forkW(p:af)(F:TD->MV->MV)(w:aX)(nm va:TF)(v:aj):aX×Int:=
 pw w nm (forkB p F (iB nm) (curB w) nm ⟨w.time,va,v⟩).1 (forkB p F (iB nm) (curB w) nm ⟨w.time,va,v⟩).2
section
variable {p:af}(hp:mn p)(Tn:fq p){F:TD->MV->MV}(hF:bQ p (cf p) F)
include hp Tn hF
theorem Ga{w:aX}(h:fy w)(nm va:TF){v:aj}(hv:cn v.n):aB prog 86 [.agg (ci p),.agg (cS w),rS nm,rS va,.agg (bS v)] (.aP [.agg (cS (forkW p F w nm va v).1),rI (forkW p F w nm va v).2]):=by
 have hk:w.cur.toNat<w.l.length:=by have:=h.c0;have:=h.c1;omega
 have h1:=RA (p:=p) h nm nm ⟨w.time,va,v⟩ _ _ (Pa hp Tn hF (h.b _ hk).ok nm (x:=⟨w.time,va,v⟩) hv h.t);have h1:ab prog 92 [.agg (cS w),rS nm,.dP 137 [.pt 5 0 0 0,.pt 7 0 0 0,.pt 12 0 0 0]] [(5,.var 32 (ci p)),(7,.var 9 [.raw (.string nm)]),(12,.var 56 (.raw (.int .i64 w.time)::.raw (.string va)::bS v))] (fun r l=>r=.aP [.agg (cS (forkW p F w nm va v).1),rI (forkW p F w nm va v).2]/\l=[(5,.var 32 (ci p)),(7,.var 9 [.raw (.string nm)]),(12,.var 56 (.raw (.int .i64 w.time)::.raw (.string va)::bS v))]):=h1;generalize forkW p F w nm va v=Y at*;obtain⟨yw,ye⟩:=Y;simp only at h1 ⊢;refine bM func86 ntmps86 ?_
 (repeat' (first|refine aq fun K hK=>?_|refine au ?_|(refine hK _ _ ?_;clear hK K)|(refine ap ?_ ?_<;>intro hc<;>try exact jz)|refine aV 5 ?_|refine aV 6 ?_|refine aV 7 ?_|refine aV 9 ?_|refine bY 10 ?_|refine bY 12 ?_|refine cm (h1) ?_|(refine bU ?_ ?_<;>intro hc<;>try exact jz)|refine ar ?_|exact jI|(clear hK K)))
 (refine aZ [.cell 10 90,.tmp 11] ?_;try simp only[go_sem])
end
def Lr{p:af}(h:fy w)(nm nm2:TF)(w2:aX)(n:Int)(xb:ay)(xe:Int)(Tc:ab prog 93 [.agg (bu (curB w)),.pt 4 0 0 0,.pt 6 0 0 0,.pt 5 0 0 0,.pt 7 0 0 0] [(4,.var 32 (ci p)),(5,.var 90 (cS w2)),(6,.var 9 [rS nm2]),(7,.var 3 [rI n])] (fun r l=>r=.aP [.agg (bu xb),rI xe]/\l=[(4,.var 32 (ci p)),(5,.var 90 (cS w2)),(6,.var 9 [rS nm2]),(7,.var 3 [rI n])])) :
  ab prog 92 [.agg (cS w),rS nm,.dP 93 [.pt 4 0 0 0,.pt 6 0 0 0,.pt 5 0 0 0,.pt 7 0 0 0]] [(4,.var 32 (ci p)),(5,.var 90 (cS w2)),(6,.var 9 [rS nm2]),(7,.var 3 [rI n])] (fun r l=>r=.aP [.agg (cS (pw w nm xb xe).1),rI (pw w nm xb xe).2]/\l=[(4,.var 32 (ci p)),(5,.var 90 (cS w2)),(6,.var 9 [rS nm2]),(7,.var 3 [rI n])]):=by
 have Uk:=h.ln;have U3:=h.c0;have TP:=h.c1;have f1:=su w nm jB;have W5:=zy w.l jB 1;change ab _ _ [.agg (bu (nth w.l w.cur.toNat)),_,_,_,_] _ _ at Tc
 unfold pw;generalize dw nm w.l 0=i at*;by_cases c1:0<=i
 ·rw[if_pos c1];have c1':i >= 0:=c1;refine aL func92 ntmps92 ?_;refine S ?_
  (have W:=c1';repeat' (first|refine aq fun K hK=>?_|refine au ?_|(with_reducible refine gR 8 ?_);refine dC 8 ([],[],[39]) [] [0,1,3,4,2,5,6,7] mixed ?_|(refine hK _ _ ?_;clear hK K)|(refine ap ?_ ?_<;>intro hc<;>try exact jz)|refine bx 20 ?_|refine al 21 ?_|refine cp (f1) ?_|(refine bU ?_ ?_<;>intro hc<;>try exact jz)|refine ar ?_|exact jI|(clear hK K)))
  (refine aZ [.cell 6 90,.tmp 7] ?_;try simp only[go_sem])
 rw[if_neg c1];have c1':¬i >= 0:=c1;by_cases c2:8<=w.l.length
 ·rw[if_pos c2];have c2':(w.l.length:Int) >= 8:=jB;refine aL func92 ntmps92 ?_;refine S ?_
  (have W:=jA c1' (c2');repeat' (first|refine aq fun K hK=>?_|refine au ?_|(with_reducible refine gR 8 ?_);refine dC 8 ([],[],[39]) [] [0,1,3,4,2,5,6,7] mixed ?_|(refine hK _ _ ?_;clear hK K)|(refine ap ?_ ?_<;>intro hc<;>try exact jz)|refine bx 20 ?_|refine al 21 ?_|refine cp (f1) ?_|(refine bU ?_ ?_<;>intro hc<;>try exact jz)|refine ar ?_|exact jI|(clear hK K)))
  (refine aZ [.cell 6 90,.tmp 7] ?_;try simp only[go_sem])
 rw[if_neg c2];have c2':¬(w.l.length:Int) >= 8:=jB;by_cases c3:xe=0
 rotate_left
 ·rw[if_pos c3];refine aL func92 ntmps92 ?_;refine S ?_
  (have W:=jA c1' (jA c2' (jA c3 (jA U3 (TP))));repeat' (first|refine aq fun K hK=>?_|refine au ?_|(with_reducible refine gR 8 ?_);refine dC 8 ([],[],[39]) [] [0,1,3,4,2,5,6,7] mixed ?_|(refine hK _ _ ?_;clear hK K)|(refine ap ?_ ?_<;>intro hc<;>try exact jz)|refine bx 20 ?_|refine al 21 ?_|refine al 22 ?_|(refine cl Tc ?_)|refine cp (f1) ?_|(refine bU ?_ ?_<;>intro hc<;>try exact jz)|refine ar ?_|exact jI|(clear hK K)))
  (refine aZ [.cell 6 90,.tmp 7] ?_;try simp only[go_sem])
 ·rw[if_neg (fun h=>h c3)];subst c3;obtain⟨l,c,t⟩:=w;simp only at*;simp only[cS]at f1 Tc ⊢;refine aL func92 ntmps92 ?_;refine S ?_
  (have W:=jA c1' (jA c2' (jA U3 (TP)));repeat' (first|refine aq fun K hK=>?_|refine au ?_|(with_reducible refine gR 8 ?_);refine dC 8 ([],[],[39]) [] [0,1,3,4,2,5,6,7] mixed ?_|(refine hK _ _ ?_;clear hK K)|(refine ap ?_ ?_<;>intro hc<;>try exact jz)|refine bx 20 ?_|refine al 21 ?_|refine al 22 ?_|(refine cl Tc ?_)|refine cN W5 ?_|refine cp (f1) ?_|(refine bU ?_ ?_<;>intro hc<;>try exact jz)|refine ar ?_|exact jI|(clear hK K)))
  refine fC [.cell 6 90,.tmp 7] ?_;exact bt.aP (ds:=[.agg [aM bu 4 (l++[xb]),rI l.length,rI t],rI 0]) ⟨bt.agg (ds:=[aM bu 4 (l++[xb]),rI l.length,rI t]) ⟨cW.row (l++[xb]) rfl (by rw[List.map_append];rfl) (by rw[List.length_append];rfl),(by rw[show(((l.length+1:Nat):Int)-1)=(l.length:Int) from jB];exact .same _ rfl),.same _ rfl,trivial⟩,.same _ rfl,trivial⟩
noncomputable def inputW(p:af)(F:TD->MV->MV)(w:aX)(nm:TF)(n:Int):aX×Int:=
 pw w nm (inputB p F (iB nm) (curB w) nm w.time n).1 (inputB p F (iB nm) (curB w) nm w.time n).2
section
variable {p:af}(hp:mn p)(Tn:fq p){F:TD->MV->MV}(hF:bQ p (cf p) F)
include hp Tn hF
theorem M3{b:ay}(h:gW b)(nm:TF)(w:aX)(n:Int)(ht:cn w.time):ab prog 93 [.agg (bu b),.pt 4 0 0 0,.pt 6 0 0 0,.pt 5 0 0 0,.pt 7 0 0 0] [(4,.var 32 (ci p)),(5,.var 90 (cS w)),(6,.var 9 [rS nm]),(7,.var 3 [rI n])] (fun r l=>r=.aP [.agg (bu (inputB p F (iB nm) b nm w.time n).1),rI (inputB p F (iB nm) b nm w.time n).2]/\l=[(4,.var 32 (ci p)),(5,.var 90 (cS w)),(6,.var 9 [rS nm]),(7,.var 3 [rI n])]):=by
 have hf:=Oy hp Tn hF h nm w.time n ht;generalize inputB p F (iB nm) b nm w.time n=X at*;obtain⟨xb,xe⟩:=X;simp only at hf ⊢;refine aL func93 ntmps93 ?_;refine S ?_
 (repeat' (first|refine aq fun K hK=>?_|refine au ?_|(refine hK _ _ ?_;clear hK K)|(refine ap ?_ ?_<;>intro hc<;>try exact jz)|refine bx 20 ?_|refine al 21 ?_|refine cp (hf) ?_|(refine bU ?_ ?_<;>intro hc<;>try exact jz)|refine ar ?_|exact jI|(clear hK K)))
 (refine aZ [.cell 6 52,.tmp 7] ?_;try simp only[go_sem])
theorem Pw{w:aX}(h:fy w)(nm:TF)(n:Int):aB prog 44 [.agg (ci p),.agg (cS w),rS nm,rI n] (.aP [.agg (cS (inputW p F w nm n).1),rI (inputW p F w nm n).2]):=by
 have hk:w.cur.toNat<w.l.length:=by have:=h.c0;have:=h.c1;omega
 have h1:ab prog 92 [.agg (cS w),rS nm,.dP 93 [.pt 4 0 0 0,.pt 6 0 0 0,.pt 5 0 0 0,.pt 7 0 0 0]] [(4,.var 32 (ci p)),(5,.var 90 (cS w)),(6,.var 9 [rS nm]),(7,.var 3 [rI n])] (fun r l=>r=.aP [.agg (cS (inputW p F w nm n).1),rI (inputW p F w nm n).2]/\l=[(4,.var 32 (ci p)),(5,.var 90 (cS w)),(6,.var 9 [rS nm]),(7,.var 3 [rI n])]):=Lr (p:=p) h nm nm w n _ _ (M3 hp Tn hF (h.b _ hk).ok nm w n h.t);generalize inputW p F w nm n=Y at*;obtain⟨yw,ye⟩:=Y;simp only at h1 ⊢;refine bM func44 ntmps44 ?_
 (repeat' (first|refine aq fun K hK=>?_|refine au ?_|(refine hK _ _ ?_;clear hK K)|(refine ap ?_ ?_<;>intro hc<;>try exact jz)|refine aV 4 ?_|refine aV 5 ?_|refine aV 6 ?_|refine aV 7 ?_|refine bY 8 ?_|refine cm (h1) ?_|(refine bU ?_ ?_<;>intro hc<;>try exact jz)|refine ar ?_|exact jI|(clear hK K)))
 (refine aZ [.cell 8 90,.tmp 9] ?_;try simp only[go_sem])
end
section
variable (p:af)(F:TD->MV->MV)
noncomputable def doesW(w:aX)(o:mO):aX×Int×Int:=
 if o.kind % 9=0 then((goW p F w o.n).1,0,(goW p F w o.n).2)
 else if o.kind % 9=1 then((switchW p F w o.name).1,0,(switchW p F w o.name).2)
 else if o.kind % 9=2 then((forkW p F w o.name o.more o.v).1,0,(forkW p F w o.name o.more o.v).2)
 else if o.kind % 9=3 then((inputW p F w o.name o.n).1,0,(inputW p F w o.name o.n).2)
 else if o.kind % 9=4 then((addW p F w o.more o.v).1,0,(addW p F w o.more o.v).2)
 else if o.kind % 9=5 then((appendW w o.n).1,0,(appendW w o.n).2)
 else if o.kind % 9=6 then((rM (iB o.more) w o.name o.more).1,0,(rM (iB o.more) w o.name o.more).2)
 else if o.kind % 9=7 then((pruneW p F w (dw o.name w.l 0)).1,0,(pruneW p F w (dw o.name w.l 0)).2)
 else rebaseW p F w (dw o.name w.l 0) (dw o.more w.l 0)
noncomputable def woodsW(l:List mO):Nat->aX
 |0=>tz
 |k+1=>(doesW p F (woodsW l k) (ri (nth l k))).1
end
section
variable {p:af}(hs:gk p){F:TD->MV->MV}(hF:bQ p (cf p) F){inp:TD}(hi:∀x∈inp,cn x){E:List aD}(hE:∀x∈E,cn x.v.n)
include hF hi hE
theorem FD{T T':Int}(hT:T<=200)(hT':T'<=T):∀(n n':Nat) (s:MV) (k:Nat) (b:Bool),IM p inp s->s.time<=T'->T-s.time<n->T'-s.time<n'->T'<=(iq MV.time (F inp) (gX p (cf p)) E T n s k b).1.time->(iq MV.time (F inp) (gX p (cf p)) E T' n' s k b).1.time=T'
 |0,_,s,k,b,_,_,h,_,_=>by omega
 |_,0,s,k,b,_,_,_,h,_=>jB
 |n+1,n'+1,s,k,b,h,ht,h1,h2,h3=>by
  have hE':=xq hE;obtain⟨a1,a2,_⟩:=vo (Bn hF hi hE') (E.length+1) s k b h;unfold iq at h3 ⊢;generalize eT MV.time (gX p (cf p)) E (E.length+1) s k b=Q at*;obtain⟨c1,c2⟩:=yO hF hi a1;by_cases c:Q.1.time=T'
  ·rw[if_pos c];exact c
  have c':¬Q.1.time=T:=jB;rw[if_neg c']at h3;rw[if_neg c];by_cases d:(F inp Q.1).time=Q.1.time
  ·rw[if_pos d]at h3;have h3:T'<=(F inp Q.1).time:=h3;omega
  ·rw[if_neg d]at h3;rw[if_neg d];have h4:(F inp Q.1).time=Q.1.time+1:=c2.elim (fun e=>(d e).elim) fun e=>e.1
   exact FD hT hT' n n' _ Q.2.1 Q.2.2 c1 jB jB jB h3
include hs
theorem QP{t t':Int}(h0:0<=t')(ht:t'<=(runM p F inp E t).1.time):(runM p F inp E t').1.time=t':=by obtain⟨a,b,_⟩:=Bm hs inp;have hf:=(xZ hs hF hi hE t).2;obtain⟨c0,c1⟩:=xX t;have e2:=S5 (t:=t') h0 jB;unfold runM at ht ⊢;rw[e2];exact FD hF hi hE c1 (by unfold runM at hf;omega) ((dV t-(m0V p).time).toNat+1) _ (m0V p) 0 false a jB jB jB ht
end
def Qy{l:List ay}{b:ay}{k:Nat}(hk:k<l.length+1):nth (l++[b]) k=if k<l.length then nth l k else b:=by
 unfold nth;rw[List.getD_eq_getElem?_getD,List.getD_eq_getElem?_getD];by_cases c:k<l.length
 ·rw[if_pos c,List.getElem?_append_left c]
 ·rw[if_neg c,List.getElem?_append_right jB,show k-l.length=0 from jB];rfl
def fy.app(h:fy w)(h7:w.l.length<8){b:ay}(hb:BW b):fy { w with l:=w.l++[b],cur:=w.l.length }:=
 ⟨by show(w.l++[b]).length<=100;simp;omega,by show(0:Int)<=w.l.length;omega,by show(w.l.length:Int)<(w.l++[b]).length;simp;omega,fun k hk=>by
  have hk:k<w.l.length+1:=by simpa using hk
  show BW (nth (w.l++[b]) k);rw[Qy hk];split
  ·rename_i c;exact h.b k c
  ·exact hb,h.t⟩
def fy.k(h:fy w):w.cur.toNat<w.l.length:=by have:=h.c0;have:=h.c1;omega
section
variable {p:af}(hs:gk p){F:TD->MV->MV}(hF:bQ p (cf p) F){w:aX}(h:fy w)
include h
theorem IT{nm:TF}{x:ay}{e:Int}(hx:e=0->BW x):fy (pw w nm x e).1:=by
 unfold pw;split
 ·exact h
 split
 ·exact h
 split
 ·exact h
 ·rename_i c2 c3;exact h.app jB (hx (Classical.not_not.1 c3))
theorem Ez{x:ay}{e:Int}(hx:e=0->BW x):fy (qV w x e).1:=by
 unfold qV;split
 ·exact h
 ·rename_i c;exact h.set _ (hx (Classical.not_not.1 c))
include hs hF
theorem A1:fy (Uv p F w):=by
 have hb:=(h.b _ h.k).ok;have h1:=(xZ hs hF hb.inr hb.kN w.time).1.t0;have h2:=(xZ hs hF hb.inr hb.kN w.time).2;have h3:=(xX w.time).2;exact⟨h.ln,h.c0,h.c1,h.b,by show cn (runM p F (nth w.l w.cur.toNat).aR (fp (nth w.l w.cur.toNat)) w.time).1.time;exact⟨jB,jB⟩⟩
theorem Ol{o:mO}(hn:cn o.n)(hv:cn o.v.n):fy (doesW p F w o).1:=by
 have hb:=h.b _ h.k;have h8:=hb.qR;have Uy:=hb.i16;have hs8:=hb.s8;have he:=fun t=>B9 (fp (nth w.l w.cur.toNat)) t
 unfold doesW;split
 ·show fy (goW p F w o.n).1;unfold goW;split
  ·exact h
  ·exact⟨h.ln,h.c0,h.c1,h.b,hn⟩
 split
 ·show fy (switchW p F w o.name).1;unfold switchW;rcases oY o.name w.l 0 with⟨e,_⟩|⟨j,h1,h2,_,_⟩
  ·rw[jP];exact h
  ·rw[jN];exact A1 hs hF ⟨h.ln,by show 0<=dw o.name w.l 0;omega,by show dw o.name w.l 0<w.l.length;omega,h.b,h.t⟩
 split
 ·show fy (forkW p F w o.name o.more o.v).1;unfold forkW;refine IT h fun e=>?_
  unfold forkB at e ⊢;split at e
  ·cases e
  rename_i c1;split at e
  ·cases e
  split at e
  ·cases e
  unfold fineB at e ⊢;split at e
  ·cases e
  rename_i c2 c3 c4;rw[if_neg c1,if_neg c2,if_neg c3,if_neg c4];exact⟨hb.ok.early _ (by have:=he w.time;show(eH (fp (nth w.l w.cur.toNat)) w.time).length<=100;omega) _ hv,Uy,by have c3:¬8<=(eH (fp (nth w.l w.cur.toNat)) w.time).length:=c3;show(eH (fp (nth w.l w.cur.toNat)) w.time).length+1<=8;omega⟩
 split
 ·show fy (inputW p F w o.name o.n).1;unfold inputW;refine IT h fun e=>?_
  unfold inputB at e ⊢;split at e
  ·cases e
  rename_i c1;split at e
  ·cases e
  split at e
  ·cases e
  rename_i c2 c3;rw[if_neg c1,if_neg c2,if_neg c3];have hl:((curB w).aR.take (atB p F (curB w) w.time).in_.toNat++[o.n]).length<=16:=by rw[List.length_append,List.length_take];simp only[List.length_cons,List.length_nil];omega
  have h9:=he w.time;exact⟨⟨Nat.le_trans hl jC,by show(eH (fp (nth w.l w.cur.toNat)) w.time).length<=100;omega,by show 0<=100;decide,fun x hx=>(List.mem_append.1 hx).elim (fun hx=>hb.ok.inr x (List.mem_of_mem_take hx)) (fun hx=>by rw[List.mem_singleton.1 hx];exact hn),fun y hy=>hb.ok.kN y (H4 hy).1,fun y hy=>(by cases hy)⟩,hl,by show(eH (fp (nth w.l w.cur.toNat)) w.time).length+0<=8;omega⟩
 split
 ·show fy (addW p F w o.more o.v).1;unfold addW;refine Ez h fun e=>?_
  unfold addB at e ⊢;split at e
  ·cases e
  rename_i c1;split at e
  ·cases e
  unfold fineB at e ⊢;split at e
  ·cases e
  rename_i c2 c3;rw[if_neg c1,if_neg c2,if_neg c3];have hl:=Go.Gd.iz (⟨w.time,o.more,o.v⟩:aD) (curB w).own;have c2:¬8<=(curB w).base.length+(curB w).own.length:=c2;exact⟨hb.ok.ins (show(curB w).own.length<100 from jB) hv,Uy,by show(curB w).base.length+(lI ⟨w.time,o.more,o.v⟩ (curB w).own).length<=8;omega⟩
 split
 ·show fy (appendW w o.n).1;unfold appendW;refine Ez h fun e=>?_
  unfold rE at e ⊢;split at e
  ·cases e
  rename_i c1;rw[if_neg c1];have hl:((curB w).aR++[o.n]).length<=16:=by rw[List.length_append];simp only[List.length_cons,List.length_nil];omega
  exact⟨⟨Nat.le_trans hl jC,hb.ok.qv,hb.ok.o6,fun x hx=>(List.mem_append.1 hx).elim (hb.ok.inr x) (fun hx=>by rw[List.mem_singleton.1 hx];exact hn),hb.ok.zh,hb.ok.xH⟩,hl,hs8⟩
 split
 ·show fy (rM (iB o.more) w o.name o.more).1;unfold rM;split
  ·exact h
  split
  ·exact h
  split
  ·exact h
  rename_i c1 c2 c3;have T5:=h.b (dw o.name w.l 0).toNat (by rcases oY o.name w.l 0 with⟨e,_⟩|⟨j,h1,h2,_,_⟩<;>omega)
  exact h.set _ ⟨⟨T5.ok.inl,T5.ok.qv,T5.ok.o6,T5.ok.inr,T5.ok.zh,T5.ok.xH⟩,T5.i16,T5.s8⟩
 split
 ·show fy (pruneW p F w (dw o.name w.l 0)).1;unfold pruneW;have U3:=h.c0;have TP:=h.c1;split
  ·exact h
  split
  ·exact h
  rename_i c1 c2;rcases oY o.name w.l 0 with⟨e,_⟩|⟨j,h1,h2,_,_⟩
  ·omega
  rw[h2]at c2 ⊢;rw[show(0:Int)+(j:Int)=j from jB,Int.toNat_natCast]at*;by_cases c3:(j:Int)<w.cur
  ·rw[if_pos c3];exact h.erase h1 jB jB
  rw[if_neg c3];by_cases c4:w.cur=j
  ·rw[if_pos c4];exact A1 hs hF (h.erase h1 (c:=0) jB jB)
  ·rw[if_neg c4];exact h.erase h1 (c:=w.cur) jB jB
 ·show fy (rebaseW p F w (dw o.name w.l 0) (dw o.more w.l 0)).1;unfold rebaseW;split
  ·exact h
  split
  ·exact h
  split
  ·exact h
  split
  ·exact h
  rename_i c1 c2 c3 c4;have TQ:(dw o.name w.l 0).toNat<w.l.length:=by rcases oY o.name w.l 0 with⟨e,_⟩|⟨j,h1,h2,_,_⟩<;>omega
  have Tl:(dw o.more w.l 0).toNat<w.l.length:=by rcases oY o.more w.l 0 with⟨e,_⟩|⟨j,h1,h2,_,_⟩<;>omega
  have ha:=h.b _ TQ;have ho:=h.b _ Tl;have ho8:=ho.qR;have T0:BW (rebaseB p F (nth w.l (dw o.name w.l 0).toNat) (nth w.l (dw o.more w.l 0).toNat)).1:=by
   have c4:=Classical.not_not.1 c4;unfold rebaseB at c4 ⊢;split at c4
   ·cases c4
   rename_i d1;split at c4
   ·cases c4
   rename_i d2;rw[if_neg d1,if_neg d2];exact⟨ha.ok.jQ ho.ok jB,ho.i16,by show(fp _).length+(nth w.l _).own.length<=8;omega⟩
  split
  ·exact A1 hs hF (h.set _ T0)
  ·exact h.set _ T0
theorem Jm{n:Int}(h0:0<=n)(e:goW p F w n=(w,63)):goW p F w (n+1)=(w,63):=by
 unfold goW at e ⊢;by_cases c:n+1<0\/200<n+1\/comesB p F (curB w) (n+1)<n+1
 ·rw[if_pos c]
 ·have hb:=(h.b _ h.k).ok;have h9:¬comesB p F (curB w) (n+1)<n+1:=jB;have h9:¬(runM p F (curB w).aR (fp (curB w)) (n+1)).1.time<n+1:=h9;have hr:comesB p F (curB w) n=n:=QP hs hF hb.inr hb.kN (t:=n+1) (t':=n) h0 (show n<=(runM p F (curB w).aR (fp (curB w)) (n+1)).1.time from jB);rw[jN]at e;exact absurd (show(0:Int)=63 from congrArg Prod.snd e) jC
omit h hs hF in
theorem Jb:fy tz:=⟨jC,jC,jC,fun k hk=>by have hk:k<1:=hk;obtain rfl:k=0:=jB;exact⟨⟨jC,jC,jC,fun x hx=>(by cases hx),fun x hx=>(by cases hx),fun x hx=>(by cases hx)⟩,jC,jC⟩,⟨jC,jC⟩⟩
omit h in
theorem DN{l:List mO}(hl:∀x∈l,cn x.n/\cn x.v.n):∀k,k<=l.length->fy (woodsW p F l k)
 |0,_=>Jb
 |k+1,hk=>by have hx:=hl _ (fh (l:=l) (k:=k) jB);exact Ol hs hF (DN hl k jB) (o:=ri (nth l k)) hx.1 hx.2
end
def HX(p:af)(F:TD->MV->MV)(w:aX)(t:Int):goW p F w t=(w,63)\/goW p F w t=({ w with time:=t },0)/\t<=200:=by
 unfold goW;split
 ·exact .inl rfl
 ·rename_i c;exact .inr ⟨rfl,jB⟩
def Gx(l:List aD)(hl:l.length<=1000):aB prog 85 [aM bA 5 l,aM bA 5 l] (rB true):=by
 refine bM func85 ntmps85 ?_
 (repeat' (first|refine aq fun K hK=>?_|refine au ?_|(with_reducible refine gR 6 ?_);refine dE 6 (bc 0 9) mixed ?_|(refine hK _ _ ?_;clear hK K)|(refine ap ?_ ?_<;>intro hc<;>try exact jz)|(refine bU ?_ ?_<;>intro hc<;>try exact jz)|refine ar ?_|exact jI|(clear hK K)))
 refine eu (S:=Nat) [(4,2),(11,15)] (fun k=>k<=l.length) (fun k=>[(5,rI k)]) (fun _=>⟨[],[]⟩) (fun k=>l.length-k) 0 (Nat.zero_le _) (eD rfl cH) ?_;rintro k hk Kr Tg;by_cases O':k<l.length
 ·(refine S ?_;try exact jI)
  (have W:=O';repeat' (first|refine aq fun K hK=>?_|refine au ?_|(with_reducible refine gR 6 ?_);refine dE 6 (bc 0 9) mixed ?_|(refine hK _ _ ?_;clear hK K)|(refine ap ?_ ?_<;>intro hc<;>try exact jz)|(refine bU ?_ ?_<;>intro hc<;>try exact jz)|refine ar ?_|exact jI|(clear hK K)))
  exact Tg _ _ (eJ (k+1) jB (by show l.length-(k+1)<l.length-k;omega) rfl cH)
 ·(refine S ?_;try exact jI)
  (have W:=O';repeat' (first|refine aq fun K hK=>?_|refine au ?_|(with_reducible refine gR 6 ?_);refine dE 6 (bc 0 9) mixed ?_|(refine hK _ _ ?_;clear hK K)|(refine ap ?_ ?_<;>intro hc<;>try exact jz)|(refine bU ?_ ?_<;>intro hc<;>try exact jz)|refine ar ?_|exact jI|(clear hK K)))
  (refine aZ [.tmp 4] ?_;try simp only[go_sem])
def NS{b:ay}(h:gW b):aB prog 37 [.agg (bu b),.agg (bu b)] (rB true):=by
 have h1:=Gx b.base (by have:=h.qv;omega);have h2:=Gx b.own (by have:=h.o6;omega);have h3:=h.inl;refine bM func37 ntmps37 ?_
 (repeat' (first|refine aq fun K hK=>?_|refine au ?_|(with_reducible refine gR 8 ?_);refine dE 8 (bc 0 11) mixed ?_|(refine hK _ _ ?_;clear hK K)|(refine ap ?_ ?_<;>intro hc<;>try exact jz)|refine aV 2 ?_|refine aV 3 ?_|refine cp (h1) ?_|refine cp (h2) ?_|(refine bU ?_ ?_<;>intro hc<;>try exact jz)|refine ar ?_|exact jI|(clear hK K)))
 refine eu (S:=Nat) [(4,1),(7,1),(40,18)] (fun k=>k<=b.aR.length) (fun k=>[(7,rI k)]) (fun _=>⟨[],[(2,.var 52 (bu b)),(3,.var 52 (bu b))]⟩) (fun k=>b.aR.length-k) 0 (Nat.zero_le _) (eD rfl cH) ?_;rintro k hk Kr Tg;by_cases O':k<b.aR.length
 ·(refine S ?_;try exact jI)
  (have W:=O';repeat' (first|refine aq fun K hK=>?_|refine au ?_|(with_reducible refine gR 8 ?_);refine dE 8 (bc 0 11) mixed ?_|(refine hK _ _ ?_;clear hK K)|(refine ap ?_ ?_<;>intro hc<;>try exact jz)|(refine bU ?_ ?_<;>intro hc<;>try exact jz)|refine ar ?_|exact jI|(clear hK K)))
  exact Tg _ _ (eJ (k+1) jB (by show b.aR.length-(k+1)<b.aR.length-k;omega) rfl cH)
 ·(refine S ?_;try exact jI)
  (have W:=O';repeat' (first|refine aq fun K hK=>?_|refine au ?_|(with_reducible refine gR 8 ?_);refine dE 8 (bc 0 11) mixed ?_|(refine hK _ _ ?_;clear hK K)|(refine ap ?_ ?_<;>intro hc<;>try exact jz)|(refine bU ?_ ?_<;>intro hc<;>try exact jz)|refine ar ?_|exact jI|(clear hK K)))
  (refine aZ [.tmp 4] ?_;try simp only[go_sem])
def DX(s:TF):aB prog 39 [rS s] (rS (rF s)):=by
 refine bM func39 ntmps39 ?_
 (repeat' (first|refine aq fun K hK=>?_|refine au ?_|(refine hK _ _ ?_;clear hK K)|(refine ap ?_ ?_<;>intro hc<;>try exact jz)|(refine bU ?_ ?_<;>intro hc<;>try exact jz)|refine ar ?_|exact jI|(clear hK K)))
 ·(refine aZ [.tmp 2] ?_;try simp only[go_sem])
  unfold rF;rw[jP]
 ·(refine aZ [.tmp 2] ?_;try simp only[go_sem])
  unfold rF;rw[jN]
def Rm(o:mO):aB prog 41 [.agg (ii o)] (.agg (ii (ri o))):=by
 have U6:ri o=⟨o.kind,o.n,if 20<o.name.size then o.name.extract 0 20 else o.name,if 20<o.more.size then o.more.extract 0 20 else o.more,{ o.v with s:=if 60<o.v.s.size then o.v.s.extract 0 60 else o.v.s }⟩:=rfl;generalize ri o=O at*;by_cases c1:20<o.name.size<;>by_cases c2:20<o.more.size<;>by_cases c3:60<o.v.s.size
 all_goals
  first|rw[if_pos c1]at U6|rw[if_neg c1]at U6
  first|rw[if_pos c2]at U6|rw[if_neg c2]at U6
  first|rw[if_pos c3]at U6|rw[if_neg c3]at U6
  refine bM func41 ntmps41 ?_
  (have W:=jA c1 (jA c2 (c3));repeat' (first|refine aq fun K hK=>?_|refine au ?_|(refine hK _ _ ?_;clear hK K)|(refine ap ?_ ?_<;>intro hc<;>try exact jz)|refine aV 1 ?_|refine bY 2 ?_|(refine bU ?_ ?_<;>intro hc<;>try exact jz)|refine ar ?_|exact jI|(clear hK K)))
  rw[U6]
  (refine aZ [.cell 2 93] ?_;try simp only[go_sem])
section
variable {p:af}(hp:mn p)(Tn:fq p){F:TD->MV->MV}(hF:bQ p (cf p) F)
include hp Tn hF
theorem NE{w:aX}(h:fy w)(o:mO)(hk:0<=o.kind)(hn:cn o.n)(hv:cn o.v.n):aB prog 42 [.agg (ci p),.agg (cS w),.agg (ii o)] (.aP [.agg (cS (doesW p F w o).1),rI (doesW p F w o).2.1,rI (doesW p F w o).2.2]):=by
 have Uo:o.kind.tmod 9=o.kind % 9:=Int.tmod_eq_emod_of_nonneg hk;have hq:o.kind % 9=0\/o.kind % 9=1\/o.kind % 9=2\/o.kind % 9=3\/o.kind % 9=4\/o.kind % 9=5\/o.kind % 9=6\/o.kind % 9=7\/o.kind % 9=8:=jB;unfold doesW;rcases hq with q|q|q|q|q|q|q|q|q
 ·rw[q]at Uo ⊢;rw[if_pos rfl];have h1:=wA hp Tn hF h o.n hn;generalize goW p F w o.n=X at*;obtain⟨xw,xe⟩:=X;simp only at h1 ⊢;refine bM func42 ntmps42 ?_
  (have W:=Uo;repeat' (first|refine aq fun K hK=>?_|refine au ?_|(refine hK _ _ ?_;clear hK K)|(refine ap ?_ ?_<;>intro hc<;>try exact jz)|refine aV 3 ?_|refine aV 4 ?_|refine cp (h1) ?_|(refine bU ?_ ?_<;>intro hc<;>try exact jz)|refine ar ?_|exact jI|(clear hK K)))
  (refine aZ [.cell 6 90,.tmp 7,.tmp 8] ?_;try simp only[go_sem])
 ·rw[q]at Uo ⊢;rw[if_neg jC,if_pos rfl];have h1:=KT hp Tn hF h o.name;generalize switchW p F w o.name=X at*;obtain⟨xw,xe⟩:=X;simp only at h1 ⊢;refine bM func42 ntmps42 ?_
  (have W:=Uo;repeat' (first|refine aq fun K hK=>?_|refine au ?_|(refine hK _ _ ?_;clear hK K)|(refine ap ?_ ?_<;>intro hc<;>try exact jz)|refine aV 3 ?_|refine aV 4 ?_|refine cp (h1) ?_|(refine bU ?_ ?_<;>intro hc<;>try exact jz)|refine ar ?_|exact jI|(clear hK K)))
  (refine aZ [.cell 6 90,.tmp 7,.tmp 8] ?_;try simp only[go_sem])
 ·rw[q]at Uo ⊢;rw[if_neg jC,if_neg jC,if_pos rfl];have h1:=Ga hp Tn hF h o.name o.more hv;generalize forkW p F w o.name o.more o.v=X at*;obtain⟨xw,xe⟩:=X;simp only at h1 ⊢;refine bM func42 ntmps42 ?_
  (have W:=Uo;repeat' (first|refine aq fun K hK=>?_|refine au ?_|(refine hK _ _ ?_;clear hK K)|(refine ap ?_ ?_<;>intro hc<;>try exact jz)|refine aV 3 ?_|refine aV 4 ?_|refine cp (h1) ?_|(refine bU ?_ ?_<;>intro hc<;>try exact jz)|refine ar ?_|exact jI|(clear hK K)))
  (refine aZ [.cell 6 90,.tmp 7,.tmp 8] ?_;try simp only[go_sem])
 ·rw[q]at Uo ⊢;rw[if_neg jC,if_neg jC,if_neg jC,if_pos rfl];have h1:=Pw hp Tn hF h o.name o.n;generalize inputW p F w o.name o.n=X at*;obtain⟨xw,xe⟩:=X;simp only at h1 ⊢;refine bM func42 ntmps42 ?_
  (have W:=Uo;repeat' (first|refine aq fun K hK=>?_|refine au ?_|(refine hK _ _ ?_;clear hK K)|(refine ap ?_ ?_<;>intro hc<;>try exact jz)|refine aV 3 ?_|refine aV 4 ?_|refine cp (h1) ?_|(refine bU ?_ ?_<;>intro hc<;>try exact jz)|refine ar ?_|exact jI|(clear hK K)))
  (refine aZ [.cell 6 90,.tmp 7,.tmp 8] ?_;try simp only[go_sem])
 ·rw[q]at Uo ⊢;rw[if_neg jC,if_neg jC,if_neg jC,if_neg jC,if_pos rfl];have h1:=QZ hp Tn hF h o.more hv;generalize addW p F w o.more o.v=X at*;obtain⟨xw,xe⟩:=X;simp only at h1 ⊢;refine bM func42 ntmps42 ?_
  (have W:=Uo;repeat' (first|refine aq fun K hK=>?_|refine au ?_|(refine hK _ _ ?_;clear hK K)|(refine ap ?_ ?_<;>intro hc<;>try exact jz)|refine aV 3 ?_|refine aV 4 ?_|refine cp (h1) ?_|(refine bU ?_ ?_<;>intro hc<;>try exact jz)|refine ar ?_|exact jI|(clear hK K)))
  (refine aZ [.cell 6 90,.tmp 7,.tmp 8] ?_;try simp only[go_sem])
 ·rw[q]at Uo ⊢;rw[if_neg jC,if_neg jC,if_neg jC,if_neg jC,if_neg jC,if_pos rfl];have h1:=Nf h o.n;generalize appendW w o.n=X at*;obtain⟨xw,xe⟩:=X;simp only at h1 ⊢;refine bM func42 ntmps42 ?_
  (have W:=Uo;repeat' (first|refine aq fun K hK=>?_|refine au ?_|(refine hK _ _ ?_;clear hK K)|(refine ap ?_ ?_<;>intro hc<;>try exact jz)|refine aV 3 ?_|refine aV 4 ?_|refine cp (h1) ?_|(refine bU ?_ ?_<;>intro hc<;>try exact jz)|refine ar ?_|exact jI|(clear hK K)))
  (refine aZ [.cell 6 90,.tmp 7,.tmp 8] ?_;try simp only[go_sem])
 ·rw[q]at Uo ⊢;rw[if_neg jC,if_neg jC,if_neg jC,if_neg jC,if_neg jC,if_neg jC,if_pos rfl];have h1:=Pq h o.name o.more;generalize rM (iB o.more) w o.name o.more=X at*;obtain⟨xw,xe⟩:=X;simp only at h1 ⊢;refine bM func42 ntmps42 ?_
  (have W:=Uo;repeat' (first|refine aq fun K hK=>?_|refine au ?_|(refine hK _ _ ?_;clear hK K)|(refine ap ?_ ?_<;>intro hc<;>try exact jz)|refine aV 3 ?_|refine aV 4 ?_|refine cp (h1) ?_|(refine bU ?_ ?_<;>intro hc<;>try exact jz)|refine ar ?_|exact jI|(clear hK K)))
  (refine aZ [.cell 6 90,.tmp 7,.tmp 8] ?_;try simp only[go_sem])
 ·rw[q]at Uo ⊢;rw[if_neg jC,if_neg jC,if_neg jC,if_neg jC,if_neg jC,if_neg jC,if_neg jC,if_pos rfl];have h1:=LL hp Tn hF h o.name;generalize pruneW p F w (dw o.name w.l 0)=X at*;obtain⟨xw,xe⟩:=X;simp only at h1 ⊢;refine bM func42 ntmps42 ?_
  (have W:=Uo;repeat' (first|refine aq fun K hK=>?_|refine au ?_|(refine hK _ _ ?_;clear hK K)|(refine ap ?_ ?_<;>intro hc<;>try exact jz)|refine aV 3 ?_|refine aV 4 ?_|refine cp (h1) ?_|(refine bU ?_ ?_<;>intro hc<;>try exact jz)|refine ar ?_|exact jI|(clear hK K)))
  (refine aZ [.cell 6 90,.tmp 7,.tmp 8] ?_;try simp only[go_sem])
 ·rw[q]at Uo ⊢;rw[if_neg jC,if_neg jC,if_neg jC,if_neg jC,if_neg jC,if_neg jC,if_neg jC,if_neg jC];have h1:=P9 hp Tn hF h o.name o.more;generalize rebaseW p F w (dw o.name w.l 0) (dw o.more w.l 0)=X at*;obtain⟨xw,xn,xe⟩:=X;simp only at h1 ⊢;refine bM func42 ntmps42 ?_
  (have W:=Uo;repeat' (first|refine aq fun K hK=>?_|refine au ?_|(refine hK _ _ ?_;clear hK K)|(refine ap ?_ ?_<;>intro hc<;>try exact jz)|refine aV 3 ?_|refine aV 4 ?_|refine cp (h1) ?_|(refine bU ?_ ?_<;>intro hc<;>try exact jz)|refine ar ?_|exact jI|(clear hK K)))
  (refine aZ [.cell 6 90,.tmp 7,.tmp 8] ?_;try simp only[go_sem])
end
def PX(h:fy w):aB prog 45 [.agg (cS w),.agg (cS w)] (rB true):=by
 have hl:=h.ln;refine bM func45 ntmps45 ?_
 (repeat' (first|refine aq fun K hK=>?_|refine au ?_|(with_reducible refine gR 6 ?_);refine dC 6 ([],[45],[]) [] (bc 0 12) mixed ?_|(refine hK _ _ ?_;clear hK K)|(refine ap ?_ ?_<;>intro hc<;>try exact jz)|refine aV 2 ?_|refine aV 3 ?_|(refine bU ?_ ?_<;>intro hc<;>try exact jz)|refine ar ?_|exact jI|(clear hK K)))
 refine eu (S:=Nat) [(4,3),(28,20)] (fun k=>k<=w.l.length) (fun k=>[(5,rI k)]) (fun _=>⟨[],[(2,.var 90 (cS w)),(3,.var 90 (cS w))]⟩) (fun k=>w.l.length-k) 0 (Nat.zero_le _) (eD rfl cH) ?_;rintro k hk Kr Tg;by_cases O':k<w.l.length
 ·have hsm:=NS (h.b k O').ok;refine S ?_
  (have W:=O';repeat' (first|refine aq fun K hK=>?_|refine au ?_|(with_reducible refine gR 6 ?_);refine dC 6 ([],[45],[]) [] (bc 0 12) mixed ?_|(refine hK _ _ ?_;clear hK K)|(refine ap ?_ ?_<;>intro hc<;>try exact jz)|refine cq (hsm) ?_|(refine bU ?_ ?_<;>intro hc<;>try exact jz)|refine ar ?_|exact jI|(clear hK K)))
  exact Tg _ _ (eJ (k+1) jB (by show w.l.length-(k+1)<w.l.length-k;omega) rfl cH)
 ·(refine S ?_;try exact jI)
  (have W:=O';repeat' (first|refine aq fun K hK=>?_|refine au ?_|(with_reducible refine gR 6 ?_);refine dC 6 ([],[45],[]) [] (bc 0 12) mixed ?_|(refine hK _ _ ?_;clear hK K)|(refine ap ?_ ?_<;>intro hc<;>try exact jz)|(refine bU ?_ ?_<;>intro hc<;>try exact jz)|refine ar ?_|exact jI|(clear hK K)))
  (refine aZ [.tmp 4] ?_;try simp only[go_sem])
end Go.Proofs.YtjpcgmjaipfgdaaGreatDoor