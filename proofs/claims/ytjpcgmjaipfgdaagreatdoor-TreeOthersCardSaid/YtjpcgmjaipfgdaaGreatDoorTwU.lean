/- Lemmas. No conditions. -/
import Derived.Test.YtjpcgmjaipfgdaaGreatDoorTwD
import Derived.Test.YtjpcgmjaipfgdaaGreatDoorBqM
set_option linter.all false
set_option maxHeartbeats 4000000
set_option maxRecDepth 10000
namespace Go.Gd
open Go
structure lU where
 kind:Int
 n:Int
 name:ByteArray
 more:ByteArray
 v:aj
 deriving Inhabited,DecidableEq
def gP(x:lU):TE:=[.raw (.int .u8 x.kind),.raw (.int .i64 x.n),.raw (.string x.name),.raw (.string x.more),.raw (.int .i64 x.v.ty),.raw (.int .i64 x.v.n),.raw (.string x.v.s)]
section
variable (x y:lU)
@[go_sem] def j4V:((gP x).length=7)/\((gP x).all AV.one=true):=by and_intros<;>(intros;rfl)
@[go_sem] def J3(q:TN):aX q (gP x)=true:=by simp[gP,aX,AV.all]
instance:bC gP 7:=⟨fun _=>rfl,fun _=>rfl,fun x=>J3 x _⟩
@[go_sem] def j2B:((gP x).take 7=gP x)/\((gP x).getD 0 .any=.raw (.int .u8 x.kind))/\((gP x).getD 1 .any=.raw (.int .i64 x.n))/\((gP x).getD 2 .any=.raw (.string x.name))/\(∀(v:TI),List.take 2 (gP x)++[.raw (.string v)]++List.drop 3 (gP x)=gP { x with name:=v })/\((gP x).getD 3 .any=.raw (.string x.more))/\(∀(v:TI),List.take 3 (gP x)++[.raw (.string v)]++List.drop 4 (gP x)=gP { x with more:=v })/\((gP x).getD 6 .any=.raw (.string x.v.s))/\(∀(v:TI),List.take 6 (gP x)++[.raw (.string v)]++List.drop 7 (gP x)=gP { x with v.s:=v })/\(((gP x).drop 4).take 3=bS x.v):=by and_intros<;>(intros;rfl)
end
def qb(o:lU):lU:=⟨o.kind,o.n,Gv o.name,Gv o.more,{ o.v with s:=if 60<o.v.s.size then o.v.s.extract 0 60 else o.v.s }⟩
end Go.Gd
namespace Go.Proofs.YtjpcgmjaipfgdaaGreatDoor
open Go Go.Gd Tryz Go.Gd.MV
def nT(w:aV)(nm:TI)(x:ak)(e:Int):aV×Int:=
 if 0<=di nm w.l 0 then(w,61)else if 8<=w.l.length then(w,62)else if e≠0 then(w,e)else({ w with l:=w.l++[x],cur:=w.l.length },0)
section
variable {p:af}(hp:mA p)(T0:fu p){F:TG->MV->MV}(hF:bQ p (ci p) F)
include hp T0 hF
theorem JY{b:ak}(h:gJ b)(nm:TI){x:aD}(hx:cf x.v.n)(hxa:cf x.at_):ab prog 137 [.agg (bq b),.pt 5 0 0 0,.pt 7 0 0 0,.pt 12 0 0 0] [(5,.var 32 (cd p)),(7,.var 9 [rS nm]),(12,.var 56 (bw x))] (fun r l=>r=.aQ [.agg (bq (forkB p F (io nm) b nm x).1),rI (forkB p F (io nm) b nm x).2]/\l=[(5,.var 32 (cd p)),(7,.var 9 [rS nm]),(12,.var 56 (bw x))]):=by
 have hf:=Kv hp T0 hF h nm hx hxa;generalize forkB p F (io nm) b nm x=X at*;obtain⟨xb,xe⟩:=X;simp only at hf ⊢;refine aM func137 ntmps137 ?_;refine S ?_
 (repeat' (first|refine aq fun K hK=>?_|refine ap ?_|(refine hK _ _ ?_;clear hK K)|(refine ao ?_ ?_<;>intro hc<;>try exact jz)|refine bx 20 ?_|refine al 21 ?_|refine cp (hf) ?_|(refine bF ?_ ?_<;>intro hc<;>try exact jz)|refine ar ?_|exact jI|(clear hK K)))
 (refine aY [.cell 5 52,.tmp 6] ?_;try simp only[go_sem])
end
variable{w:aV}
def L3{p:af}(h:fp w)(nm nm2:TI)(x:aD)(xb:ak)(xe:Int)(Tx:ab prog 137 [.agg (bq (curB w)),.pt 5 0 0 0,.pt 7 0 0 0,.pt 12 0 0 0] [(5,.var 32 (cd p)),(7,.var 9 [rS nm2]),(12,.var 56 (bw x))] (fun r l=>r=.aQ [.agg (bq xb),rI xe]/\l=[(5,.var 32 (cd p)),(7,.var 9 [rS nm2]),(12,.var 56 (bw x))])) :
  ab prog 92 [.agg (cS w),rS nm,.dP 137 [.pt 5 0 0 0,.pt 7 0 0 0,.pt 12 0 0 0]] [(5,.var 32 (cd p)),(7,.var 9 [rS nm2]),(12,.var 56 (bw x))] (fun r l=>r=.aQ [.agg (cS (nT w nm xb xe).1),rI (nT w nm xb xe).2]/\l=[(5,.var 32 (cd p)),(7,.var 9 [rS nm2]),(12,.var 56 (bw x))]):=by
 have UE:=h.ln;have Vk:=h.c0;have T9:=h.c1;have f1:=re w nm jB;have Xm:=yp w.l jB 1;change ab _ _ [.agg (bq (nth w.l w.cur.toNat)),_,_,_] _ _ at Tx
 unfold nT;generalize di nm w.l 0=i at*;by_cases c1:0<=i
 ·rw[if_pos c1];have c1':i >= 0:=c1;refine aM func92 ntmps92 ?_;refine S ?_
  (have W:=c1';repeat' (first|refine aq fun K hK=>?_|refine ap ?_|(with_reducible refine gR 8 ?_);refine dC 8 ([],[],[39]) [] [0,1,3,4,2,5,6,7] mixed ?_|(refine hK _ _ ?_;clear hK K)|(refine ao ?_ ?_<;>intro hc<;>try exact jz)|refine bx 20 ?_|refine al 21 ?_|refine cp (f1) ?_|(refine bF ?_ ?_<;>intro hc<;>try exact jz)|refine ar ?_|exact jI|(clear hK K)))
  (refine aY [.cell 6 90,.tmp 7] ?_;try simp only[go_sem])
 rw[if_neg c1];have c1':¬i >= 0:=c1;by_cases c2:8<=w.l.length
 ·rw[if_pos c2];have c2':(w.l.length:Int) >= 8:=jB;refine aM func92 ntmps92 ?_;refine S ?_
  (have W:=jA c1' (c2');repeat' (first|refine aq fun K hK=>?_|refine ap ?_|(with_reducible refine gR 8 ?_);refine dC 8 ([],[],[39]) [] [0,1,3,4,2,5,6,7] mixed ?_|(refine hK _ _ ?_;clear hK K)|(refine ao ?_ ?_<;>intro hc<;>try exact jz)|refine bx 20 ?_|refine al 21 ?_|refine cp (f1) ?_|(refine bF ?_ ?_<;>intro hc<;>try exact jz)|refine ar ?_|exact jI|(clear hK K)))
  (refine aY [.cell 6 90,.tmp 7] ?_;try simp only[go_sem])
 rw[if_neg c2];have c2':¬(w.l.length:Int) >= 8:=jB;by_cases c3:xe=0
 rotate_left
 ·rw[if_pos c3];refine aM func92 ntmps92 ?_;refine S ?_
  (have W:=jA c1' (jA c2' (jA c3 (jA Vk (T9))));repeat' (first|refine aq fun K hK=>?_|refine ap ?_|(with_reducible refine gR 8 ?_);refine dC 8 ([],[],[39]) [] [0,1,3,4,2,5,6,7] mixed ?_|(refine hK _ _ ?_;clear hK K)|(refine ao ?_ ?_<;>intro hc<;>try exact jz)|refine bx 20 ?_|refine al 21 ?_|refine al 22 ?_|(refine cl Tx ?_)|refine cp (f1) ?_|(refine bF ?_ ?_<;>intro hc<;>try exact jz)|refine ar ?_|exact jI|(clear hK K)))
  (refine aY [.cell 6 90,.tmp 7] ?_;try simp only[go_sem])
 ·rw[if_neg (fun h=>h c3)];subst c3;obtain⟨l,c,t⟩:=w;simp only at*;simp only[cS]at f1 ⊢;refine aM func92 ntmps92 ?_;refine S ?_
  (have W:=jA c1' (jA c2' (jA Vk (T9)));repeat' (first|refine aq fun K hK=>?_|refine ap ?_|(with_reducible refine gR 8 ?_);refine dC 8 ([],[],[39]) [] [0,1,3,4,2,5,6,7] mixed ?_|(refine hK _ _ ?_;clear hK K)|(refine ao ?_ ?_<;>intro hc<;>try exact jz)|refine bx 20 ?_|refine al 21 ?_|refine al 22 ?_|(refine cl Tx ?_)|refine cN Xm ?_|refine cp (f1) ?_|(refine bF ?_ ?_<;>intro hc<;>try exact jz)|refine ar ?_|exact jI|(clear hK K)))
  refine fA [.cell 6 90,.tmp 7] ?_;exact bu.aQ (ds:=[.agg [aO bq 4 (l++[xb]),rI l.length,rI t],rI 0]) ⟨bu.agg (ds:=[aO bq 4 (l++[xb]),rI l.length,rI t]) ⟨cW.row (l++[xb]) rfl (by rw[List.map_append];rfl) (by rw[List.length_append];rfl),(by rw[show(((l.length+1:Nat):Int)-1)=(l.length:Int) from jB];exact .same _ rfl),.same _ rfl,trivial⟩,.same _ rfl,trivial⟩
noncomputable def forkW(p:af)(F:TG->MV->MV)(w:aV)(nm va:TI)(v:aj):aV×Int:=
 nT w nm (forkB p F (io nm) (curB w) nm ⟨w.time,va,v⟩).1 (forkB p F (io nm) (curB w) nm ⟨w.time,va,v⟩).2
section
variable {p:af}(hp:mA p)(T0:fu p){F:TG->MV->MV}(hF:bQ p (ci p) F)
include hp T0 hF
theorem Ek{w:aV}(h:fp w)(nm va:TI){v:aj}(hv:cf v.n):aB prog 86 [.agg (cd p),.agg (cS w),rS nm,rS va,.agg (bS v)] (.aQ [.agg (cS (forkW p F w nm va v).1),rI (forkW p F w nm va v).2]):=by
 have hk:w.cur.toNat<w.l.length:=by have:=h.c0;have:=h.c1;omega
 have h1:=L3 (p:=p) h nm nm ⟨w.time,va,v⟩ _ _ (JY hp T0 hF (h.b _ hk).ok nm (x:=⟨w.time,va,v⟩) hv h.t);have h1:ab prog 92 [.agg (cS w),rS nm,.dP 137 [.pt 5 0 0 0,.pt 7 0 0 0,.pt 12 0 0 0]] [(5,.var 32 (cd p)),(7,.var 9 [.raw (.string nm)]),(12,.var 56 (.raw (.int .i64 w.time)::.raw (.string va)::bS v))] (fun r l=>r=.aQ [.agg (cS (forkW p F w nm va v).1),rI (forkW p F w nm va v).2]/\l=[(5,.var 32 (cd p)),(7,.var 9 [.raw (.string nm)]),(12,.var 56 (.raw (.int .i64 w.time)::.raw (.string va)::bS v))]):=h1;generalize forkW p F w nm va v=Y at*;obtain⟨yw,ye⟩:=Y;simp only at h1 ⊢;refine bG func86 ntmps86 ?_
 (repeat' (first|refine aq fun K hK=>?_|refine ap ?_|(refine hK _ _ ?_;clear hK K)|(refine ao ?_ ?_<;>intro hc<;>try exact jz)|refine aT 5 ?_|refine aT 6 ?_|refine aT 7 ?_|refine aT 9 ?_|refine cH 10 ?_|refine cH 12 ?_|refine cm (h1) ?_|(refine bF ?_ ?_<;>intro hc<;>try exact jz)|refine ar ?_|exact jI|(clear hK K)))
 (refine aY [.cell 10 90,.tmp 11] ?_;try simp only[go_sem])
end
def Qk{p:af}(h:fp w)(nm nm2:TI)(w2:aV)(n:Int)(xb:ak)(xe:Int)(Tx:ab prog 93 [.agg (bq (curB w)),.pt 4 0 0 0,.pt 6 0 0 0,.pt 5 0 0 0,.pt 7 0 0 0] [(4,.var 32 (cd p)),(5,.var 90 (cS w2)),(6,.var 9 [rS nm2]),(7,.var 3 [rI n])] (fun r l=>r=.aQ [.agg (bq xb),rI xe]/\l=[(4,.var 32 (cd p)),(5,.var 90 (cS w2)),(6,.var 9 [rS nm2]),(7,.var 3 [rI n])])) :
  ab prog 92 [.agg (cS w),rS nm,.dP 93 [.pt 4 0 0 0,.pt 6 0 0 0,.pt 5 0 0 0,.pt 7 0 0 0]] [(4,.var 32 (cd p)),(5,.var 90 (cS w2)),(6,.var 9 [rS nm2]),(7,.var 3 [rI n])] (fun r l=>r=.aQ [.agg (cS (nT w nm xb xe).1),rI (nT w nm xb xe).2]/\l=[(4,.var 32 (cd p)),(5,.var 90 (cS w2)),(6,.var 9 [rS nm2]),(7,.var 3 [rI n])]):=by
 have UE:=h.ln;have Vk:=h.c0;have T9:=h.c1;have f1:=re w nm jB;have Xm:=yp w.l jB 1;change ab _ _ [.agg (bq (nth w.l w.cur.toNat)),_,_,_,_] _ _ at Tx
 unfold nT;generalize di nm w.l 0=i at*;by_cases c1:0<=i
 ·rw[if_pos c1];have c1':i >= 0:=c1;refine aM func92 ntmps92 ?_;refine S ?_
  (have W:=c1';repeat' (first|refine aq fun K hK=>?_|refine ap ?_|(with_reducible refine gR 8 ?_);refine dC 8 ([],[],[39]) [] [0,1,3,4,2,5,6,7] mixed ?_|(refine hK _ _ ?_;clear hK K)|(refine ao ?_ ?_<;>intro hc<;>try exact jz)|refine bx 20 ?_|refine al 21 ?_|refine cp (f1) ?_|(refine bF ?_ ?_<;>intro hc<;>try exact jz)|refine ar ?_|exact jI|(clear hK K)))
  (refine aY [.cell 6 90,.tmp 7] ?_;try simp only[go_sem])
 rw[if_neg c1];have c1':¬i >= 0:=c1;by_cases c2:8<=w.l.length
 ·rw[if_pos c2];have c2':(w.l.length:Int) >= 8:=jB;refine aM func92 ntmps92 ?_;refine S ?_
  (have W:=jA c1' (c2');repeat' (first|refine aq fun K hK=>?_|refine ap ?_|(with_reducible refine gR 8 ?_);refine dC 8 ([],[],[39]) [] [0,1,3,4,2,5,6,7] mixed ?_|(refine hK _ _ ?_;clear hK K)|(refine ao ?_ ?_<;>intro hc<;>try exact jz)|refine bx 20 ?_|refine al 21 ?_|refine cp (f1) ?_|(refine bF ?_ ?_<;>intro hc<;>try exact jz)|refine ar ?_|exact jI|(clear hK K)))
  (refine aY [.cell 6 90,.tmp 7] ?_;try simp only[go_sem])
 rw[if_neg c2];have c2':¬(w.l.length:Int) >= 8:=jB;by_cases c3:xe=0
 rotate_left
 ·rw[if_pos c3];refine aM func92 ntmps92 ?_;refine S ?_
  (have W:=jA c1' (jA c2' (jA c3 (jA Vk (T9))));repeat' (first|refine aq fun K hK=>?_|refine ap ?_|(with_reducible refine gR 8 ?_);refine dC 8 ([],[],[39]) [] [0,1,3,4,2,5,6,7] mixed ?_|(refine hK _ _ ?_;clear hK K)|(refine ao ?_ ?_<;>intro hc<;>try exact jz)|refine bx 20 ?_|refine al 21 ?_|refine al 22 ?_|(refine cl Tx ?_)|refine cp (f1) ?_|(refine bF ?_ ?_<;>intro hc<;>try exact jz)|refine ar ?_|exact jI|(clear hK K)))
  (refine aY [.cell 6 90,.tmp 7] ?_;try simp only[go_sem])
 ·rw[if_neg (fun h=>h c3)];subst c3;obtain⟨l,c,t⟩:=w;simp only at*;simp only[cS]at f1 Tx ⊢;refine aM func92 ntmps92 ?_;refine S ?_
  (have W:=jA c1' (jA c2' (jA Vk (T9)));repeat' (first|refine aq fun K hK=>?_|refine ap ?_|(with_reducible refine gR 8 ?_);refine dC 8 ([],[],[39]) [] [0,1,3,4,2,5,6,7] mixed ?_|(refine hK _ _ ?_;clear hK K)|(refine ao ?_ ?_<;>intro hc<;>try exact jz)|refine bx 20 ?_|refine al 21 ?_|refine al 22 ?_|(refine cl Tx ?_)|refine cN Xm ?_|refine cp (f1) ?_|(refine bF ?_ ?_<;>intro hc<;>try exact jz)|refine ar ?_|exact jI|(clear hK K)))
  refine fA [.cell 6 90,.tmp 7] ?_;exact bu.aQ (ds:=[.agg [aO bq 4 (l++[xb]),rI l.length,rI t],rI 0]) ⟨bu.agg (ds:=[aO bq 4 (l++[xb]),rI l.length,rI t]) ⟨cW.row (l++[xb]) rfl (by rw[List.map_append];rfl) (by rw[List.length_append];rfl),(by rw[show(((l.length+1:Nat):Int)-1)=(l.length:Int) from jB];exact .same _ rfl),.same _ rfl,trivial⟩,.same _ rfl,trivial⟩
noncomputable def inputW(p:af)(F:TG->MV->MV)(w:aV)(nm:TI)(n:Int):aV×Int:=
 nT w nm (inputB p F (io nm) (curB w) nm w.time n).1 (inputB p F (io nm) (curB w) nm w.time n).2
section
variable {p:af}(hp:mA p)(T0:fu p){F:TG->MV->MV}(hF:bQ p (ci p) F)
include hp T0 hF
theorem SD{b:ak}(h:gJ b)(nm:TI)(w:aV)(n:Int)(ht:cf w.time):ab prog 93 [.agg (bq b),.pt 4 0 0 0,.pt 6 0 0 0,.pt 5 0 0 0,.pt 7 0 0 0] [(4,.var 32 (cd p)),(5,.var 90 (cS w)),(6,.var 9 [rS nm]),(7,.var 3 [rI n])] (fun r l=>r=.aQ [.agg (bq (inputB p F (io nm) b nm w.time n).1),rI (inputB p F (io nm) b nm w.time n).2]/\l=[(4,.var 32 (cd p)),(5,.var 90 (cS w)),(6,.var 9 [rS nm]),(7,.var 3 [rI n])]):=by
 have hf:=Nw hp T0 hF h nm w.time n ht;generalize inputB p F (io nm) b nm w.time n=X at*;obtain⟨xb,xe⟩:=X;simp only at hf ⊢;refine aM func93 ntmps93 ?_;refine S ?_
 (repeat' (first|refine aq fun K hK=>?_|refine ap ?_|(refine hK _ _ ?_;clear hK K)|(refine ao ?_ ?_<;>intro hc<;>try exact jz)|refine bx 20 ?_|refine al 21 ?_|refine cp (hf) ?_|(refine bF ?_ ?_<;>intro hc<;>try exact jz)|refine ar ?_|exact jI|(clear hK K)))
 (refine aY [.cell 6 52,.tmp 7] ?_;try simp only[go_sem])
theorem Nb{w:aV}(h:fp w)(nm:TI)(n:Int):aB prog 44 [.agg (cd p),.agg (cS w),rS nm,rI n] (.aQ [.agg (cS (inputW p F w nm n).1),rI (inputW p F w nm n).2]):=by
 have hk:w.cur.toNat<w.l.length:=by have:=h.c0;have:=h.c1;omega
 have h1:ab prog 92 [.agg (cS w),rS nm,.dP 93 [.pt 4 0 0 0,.pt 6 0 0 0,.pt 5 0 0 0,.pt 7 0 0 0]] [(4,.var 32 (cd p)),(5,.var 90 (cS w)),(6,.var 9 [rS nm]),(7,.var 3 [rI n])] (fun r l=>r=.aQ [.agg (cS (inputW p F w nm n).1),rI (inputW p F w nm n).2]/\l=[(4,.var 32 (cd p)),(5,.var 90 (cS w)),(6,.var 9 [rS nm]),(7,.var 3 [rI n])]):=Qk (p:=p) h nm nm w n _ _ (SD hp T0 hF (h.b _ hk).ok nm w n h.t);generalize inputW p F w nm n=Y at*;obtain⟨yw,ye⟩:=Y;simp only at h1 ⊢;refine bG func44 ntmps44 ?_
 (repeat' (first|refine aq fun K hK=>?_|refine ap ?_|(refine hK _ _ ?_;clear hK K)|(refine ao ?_ ?_<;>intro hc<;>try exact jz)|refine aT 4 ?_|refine aT 5 ?_|refine aT 6 ?_|refine aT 7 ?_|refine cH 8 ?_|refine cm (h1) ?_|(refine bF ?_ ?_<;>intro hc<;>try exact jz)|refine ar ?_|exact jI|(clear hK K)))
 (refine aY [.cell 8 90,.tmp 9] ?_;try simp only[go_sem])
end
section
variable (p:af)(F:TG->MV->MV)
noncomputable def doesW(w:aV)(o:lU):aV×Int×Int:=
 if o.kind % 9=0 then((goW p F w o.n).1,0,(goW p F w o.n).2)
 else if o.kind % 9=1 then((switchW p F w o.name).1,0,(switchW p F w o.name).2)
 else if o.kind % 9=2 then((forkW p F w o.name o.more o.v).1,0,(forkW p F w o.name o.more o.v).2)
 else if o.kind % 9=3 then((inputW p F w o.name o.n).1,0,(inputW p F w o.name o.n).2)
 else if o.kind % 9=4 then((addW p F w o.more o.v).1,0,(addW p F w o.more o.v).2)
 else if o.kind % 9=5 then((appendW w o.n).1,0,(appendW w o.n).2)
 else if o.kind % 9=6 then((rf (io o.more) w o.name o.more).1,0,(rf (io o.more) w o.name o.more).2)
 else if o.kind % 9=7 then((pruneW p F w (di o.name w.l 0)).1,0,(pruneW p F w (di o.name w.l 0)).2)
 else rebaseW p F w (di o.name w.l 0) (di o.more w.l 0)
noncomputable def woodsW(l:List lU):Nat->aV
 |0=>tS
 |k+1=>(doesW p F (woodsW l k) (qb (nth l k))).1
end
def H5(l:List aD)(hl:l.length<=1000):aB prog 85 [aO bw 5 l,aO bw 5 l] (rB true):=by
 refine bG func85 ntmps85 ?_
 (repeat' (first|refine aq fun K hK=>?_|refine ap ?_|(with_reducible refine gR 6 ?_);refine dE 6 (aW 0 9) mixed ?_|(refine hK _ _ ?_;clear hK K)|(refine ao ?_ ?_<;>intro hc<;>try exact jz)|(refine bF ?_ ?_<;>intro hc<;>try exact jz)|refine ar ?_|exact jI|(clear hK K)))
 refine dV (S:=Nat) [(4,2),(11,15)] (fun k=>k<=l.length) (fun k=>[(5,rI k)]) (fun _=>⟨[],[]⟩) (fun k=>l.length-k) 0 (Nat.zero_le _) (dS rfl cv) ?_;rintro k hk Kr TR;by_cases O':k<l.length
 ·(refine S ?_;try exact jI)
  (have W:=O';repeat' (first|refine aq fun K hK=>?_|refine ap ?_|(with_reducible refine gR 6 ?_);refine dE 6 (aW 0 9) mixed ?_|(refine hK _ _ ?_;clear hK K)|(refine ao ?_ ?_<;>intro hc<;>try exact jz)|(refine bF ?_ ?_<;>intro hc<;>try exact jz)|refine ar ?_|exact jI|(clear hK K)))
  exact TR _ _ (eu (k+1) jB (by show l.length-(k+1)<l.length-k;omega) rfl cv)
 ·(refine S ?_;try exact jI)
  (have W:=O';repeat' (first|refine aq fun K hK=>?_|refine ap ?_|(with_reducible refine gR 6 ?_);refine dE 6 (aW 0 9) mixed ?_|(refine hK _ _ ?_;clear hK K)|(refine ao ?_ ?_<;>intro hc<;>try exact jz)|(refine bF ?_ ?_<;>intro hc<;>try exact jz)|refine ar ?_|exact jI|(clear hK K)))
  (refine aY [.tmp 4] ?_;try simp only[go_sem])
def SB{b:ak}(h:gJ b):aB prog 37 [.agg (bq b),.agg (bq b)] (rB true):=by
 have h1:=H5 b.base (by have:=h.qg;omega);have h2:=H5 b.own (by have:=h.oD;omega);have h3:=h.inl;refine bG func37 ntmps37 ?_
 (repeat' (first|refine aq fun K hK=>?_|refine ap ?_|(with_reducible refine gR 8 ?_);refine dE 8 (aW 0 11) mixed ?_|(refine hK _ _ ?_;clear hK K)|(refine ao ?_ ?_<;>intro hc<;>try exact jz)|refine aT 2 ?_|refine aT 3 ?_|refine cp (h1) ?_|refine cp (h2) ?_|(refine bF ?_ ?_<;>intro hc<;>try exact jz)|refine ar ?_|exact jI|(clear hK K)))
 refine dV (S:=Nat) [(4,1),(7,1),(40,18)] (fun k=>k<=b.aC.length) (fun k=>[(7,rI k)]) (fun _=>⟨[],[(2,.var 52 (bq b)),(3,.var 52 (bq b))]⟩) (fun k=>b.aC.length-k) 0 (Nat.zero_le _) (dS rfl cv) ?_;rintro k hk Kr TR;by_cases O':k<b.aC.length
 ·(refine S ?_;try exact jI)
  (have W:=O';repeat' (first|refine aq fun K hK=>?_|refine ap ?_|(with_reducible refine gR 8 ?_);refine dE 8 (aW 0 11) mixed ?_|(refine hK _ _ ?_;clear hK K)|(refine ao ?_ ?_<;>intro hc<;>try exact jz)|(refine bF ?_ ?_<;>intro hc<;>try exact jz)|refine ar ?_|exact jI|(clear hK K)))
  exact TR _ _ (eu (k+1) jB (by show b.aC.length-(k+1)<b.aC.length-k;omega) rfl cv)
 ·(refine S ?_;try exact jI)
  (have W:=O';repeat' (first|refine aq fun K hK=>?_|refine ap ?_|(with_reducible refine gR 8 ?_);refine dE 8 (aW 0 11) mixed ?_|(refine hK _ _ ?_;clear hK K)|(refine ao ?_ ?_<;>intro hc<;>try exact jz)|(refine bF ?_ ?_<;>intro hc<;>try exact jz)|refine ar ?_|exact jI|(clear hK K)))
  (refine aY [.tmp 4] ?_;try simp only[go_sem])
def EL(s:TI):aB prog 39 [rS s] (rS (qN s)):=by
 refine bG func39 ntmps39 ?_
 (repeat' (first|refine aq fun K hK=>?_|refine ap ?_|(refine hK _ _ ?_;clear hK K)|(refine ao ?_ ?_<;>intro hc<;>try exact jz)|(refine bF ?_ ?_<;>intro hc<;>try exact jz)|refine ar ?_|exact jI|(clear hK K)))
 ·(refine aY [.tmp 2] ?_;try simp only[go_sem])
  unfold qN;rw[jP]
 ·(refine aY [.tmp 2] ?_;try simp only[go_sem])
  unfold qN;rw[jN]
def NN(o:lU):aB prog 41 [.agg (gP o)] (.agg (gP (qb o))):=by
 have Vs:qb o=⟨o.kind,o.n,if 20<o.name.size then o.name.extract 0 20 else o.name,if 20<o.more.size then o.more.extract 0 20 else o.more,{ o.v with s:=if 60<o.v.s.size then o.v.s.extract 0 60 else o.v.s }⟩:=rfl;generalize qb o=O at*;by_cases c1:20<o.name.size<;>by_cases c2:20<o.more.size<;>by_cases c3:60<o.v.s.size
 all_goals
  first|rw[if_pos c1]at Vs|rw[if_neg c1]at Vs
  first|rw[if_pos c2]at Vs|rw[if_neg c2]at Vs
  first|rw[if_pos c3]at Vs|rw[if_neg c3]at Vs
  refine bG func41 ntmps41 ?_
  (have W:=jA c1 (jA c2 (c3));repeat' (first|refine aq fun K hK=>?_|refine ap ?_|(refine hK _ _ ?_;clear hK K)|(refine ao ?_ ?_<;>intro hc<;>try exact jz)|refine aT 1 ?_|refine cH 2 ?_|(refine bF ?_ ?_<;>intro hc<;>try exact jz)|refine ar ?_|exact jI|(clear hK K)))
  rw[Vs]
  (refine aY [.cell 2 93] ?_;try simp only[go_sem])
section
variable {p:af}(hp:mA p)(T0:fu p){F:TG->MV->MV}(hF:bQ p (ci p) F)
include hp T0 hF
theorem KC{w:aV}(h:fp w)(o:lU)(hk:0<=o.kind)(hn:cf o.n)(hv:cf o.v.n):aB prog 42 [.agg (cd p),.agg (cS w),.agg (gP o)] (.aQ [.agg (cS (doesW p F w o).1),rI (doesW p F w o).2.1,rI (doesW p F w o).2.2]):=by
 have UL:o.kind.tmod 9=o.kind % 9:=Int.tmod_eq_emod_of_nonneg hk;have hq:o.kind % 9=0\/o.kind % 9=1\/o.kind % 9=2\/o.kind % 9=3\/o.kind % 9=4\/o.kind % 9=5\/o.kind % 9=6\/o.kind % 9=7\/o.kind % 9=8:=jB;unfold doesW;rcases hq with q|q|q|q|q|q|q|q|q
 ·rw[q]at UL ⊢;rw[if_pos rfl];have h1:=EW hp T0 hF h o.n hn;generalize goW p F w o.n=X at*;obtain⟨xw,xe⟩:=X;simp only at h1 ⊢;refine bG func42 ntmps42 ?_
  (have W:=UL;repeat' (first|refine aq fun K hK=>?_|refine ap ?_|(refine hK _ _ ?_;clear hK K)|(refine ao ?_ ?_<;>intro hc<;>try exact jz)|refine aT 3 ?_|refine aT 4 ?_|refine cp (h1) ?_|(refine bF ?_ ?_<;>intro hc<;>try exact jz)|refine ar ?_|exact jI|(clear hK K)))
  (refine aY [.cell 6 90,.tmp 7,.tmp 8] ?_;try simp only[go_sem])
 ·rw[q]at UL ⊢;rw[if_neg jC,if_pos rfl];have h1:=SH hp T0 hF h o.name;generalize switchW p F w o.name=X at*;obtain⟨xw,xe⟩:=X;simp only at h1 ⊢;refine bG func42 ntmps42 ?_
  (have W:=UL;repeat' (first|refine aq fun K hK=>?_|refine ap ?_|(refine hK _ _ ?_;clear hK K)|(refine ao ?_ ?_<;>intro hc<;>try exact jz)|refine aT 3 ?_|refine aT 4 ?_|refine cp (h1) ?_|(refine bF ?_ ?_<;>intro hc<;>try exact jz)|refine ar ?_|exact jI|(clear hK K)))
  (refine aY [.cell 6 90,.tmp 7,.tmp 8] ?_;try simp only[go_sem])
 ·rw[q]at UL ⊢;rw[if_neg jC,if_neg jC,if_pos rfl];have h1:=Ek hp T0 hF h o.name o.more hv;generalize forkW p F w o.name o.more o.v=X at*;obtain⟨xw,xe⟩:=X;simp only at h1 ⊢;refine bG func42 ntmps42 ?_
  (have W:=UL;repeat' (first|refine aq fun K hK=>?_|refine ap ?_|(refine hK _ _ ?_;clear hK K)|(refine ao ?_ ?_<;>intro hc<;>try exact jz)|refine aT 3 ?_|refine aT 4 ?_|refine cp (h1) ?_|(refine bF ?_ ?_<;>intro hc<;>try exact jz)|refine ar ?_|exact jI|(clear hK K)))
  (refine aY [.cell 6 90,.tmp 7,.tmp 8] ?_;try simp only[go_sem])
 ·rw[q]at UL ⊢;rw[if_neg jC,if_neg jC,if_neg jC,if_pos rfl];have h1:=Nb hp T0 hF h o.name o.n;generalize inputW p F w o.name o.n=X at*;obtain⟨xw,xe⟩:=X;simp only at h1 ⊢;refine bG func42 ntmps42 ?_
  (have W:=UL;repeat' (first|refine aq fun K hK=>?_|refine ap ?_|(refine hK _ _ ?_;clear hK K)|(refine ao ?_ ?_<;>intro hc<;>try exact jz)|refine aT 3 ?_|refine aT 4 ?_|refine cp (h1) ?_|(refine bF ?_ ?_<;>intro hc<;>try exact jz)|refine ar ?_|exact jI|(clear hK K)))
  (refine aY [.cell 6 90,.tmp 7,.tmp 8] ?_;try simp only[go_sem])
 ·rw[q]at UL ⊢;rw[if_neg jC,if_neg jC,if_neg jC,if_neg jC,if_pos rfl];have h1:=Me hp T0 hF h o.more hv;generalize addW p F w o.more o.v=X at*;obtain⟨xw,xe⟩:=X;simp only at h1 ⊢;refine bG func42 ntmps42 ?_
  (have W:=UL;repeat' (first|refine aq fun K hK=>?_|refine ap ?_|(refine hK _ _ ?_;clear hK K)|(refine ao ?_ ?_<;>intro hc<;>try exact jz)|refine aT 3 ?_|refine aT 4 ?_|refine cp (h1) ?_|(refine bF ?_ ?_<;>intro hc<;>try exact jz)|refine ar ?_|exact jI|(clear hK K)))
  (refine aY [.cell 6 90,.tmp 7,.tmp 8] ?_;try simp only[go_sem])
 ·rw[q]at UL ⊢;rw[if_neg jC,if_neg jC,if_neg jC,if_neg jC,if_neg jC,if_pos rfl];have h1:=JJ h o.n;generalize appendW w o.n=X at*;obtain⟨xw,xe⟩:=X;simp only at h1 ⊢;refine bG func42 ntmps42 ?_
  (have W:=UL;repeat' (first|refine aq fun K hK=>?_|refine ap ?_|(refine hK _ _ ?_;clear hK K)|(refine ao ?_ ?_<;>intro hc<;>try exact jz)|refine aT 3 ?_|refine aT 4 ?_|refine cp (h1) ?_|(refine bF ?_ ?_<;>intro hc<;>try exact jz)|refine ar ?_|exact jI|(clear hK K)))
  (refine aY [.cell 6 90,.tmp 7,.tmp 8] ?_;try simp only[go_sem])
 ·rw[q]at UL ⊢;rw[if_neg jC,if_neg jC,if_neg jC,if_neg jC,if_neg jC,if_neg jC,if_pos rfl];have h1:=R5 h o.name o.more;generalize rf (io o.more) w o.name o.more=X at*;obtain⟨xw,xe⟩:=X;simp only at h1 ⊢;refine bG func42 ntmps42 ?_
  (have W:=UL;repeat' (first|refine aq fun K hK=>?_|refine ap ?_|(refine hK _ _ ?_;clear hK K)|(refine ao ?_ ?_<;>intro hc<;>try exact jz)|refine aT 3 ?_|refine aT 4 ?_|refine cp (h1) ?_|(refine bF ?_ ?_<;>intro hc<;>try exact jz)|refine ar ?_|exact jI|(clear hK K)))
  (refine aY [.cell 6 90,.tmp 7,.tmp 8] ?_;try simp only[go_sem])
 ·rw[q]at UL ⊢;rw[if_neg jC,if_neg jC,if_neg jC,if_neg jC,if_neg jC,if_neg jC,if_neg jC,if_pos rfl];have h1:=KV hp T0 hF h o.name;generalize pruneW p F w (di o.name w.l 0)=X at*;obtain⟨xw,xe⟩:=X;simp only at h1 ⊢;refine bG func42 ntmps42 ?_
  (have W:=UL;repeat' (first|refine aq fun K hK=>?_|refine ap ?_|(refine hK _ _ ?_;clear hK K)|(refine ao ?_ ?_<;>intro hc<;>try exact jz)|refine aT 3 ?_|refine aT 4 ?_|refine cp (h1) ?_|(refine bF ?_ ?_<;>intro hc<;>try exact jz)|refine ar ?_|exact jI|(clear hK K)))
  (refine aY [.cell 6 90,.tmp 7,.tmp 8] ?_;try simp only[go_sem])
 ·rw[q]at UL ⊢;rw[if_neg jC,if_neg jC,if_neg jC,if_neg jC,if_neg jC,if_neg jC,if_neg jC,if_neg jC];have h1:=N4 hp T0 hF h o.name o.more;generalize rebaseW p F w (di o.name w.l 0) (di o.more w.l 0)=X at*;obtain⟨xw,xn,xe⟩:=X;simp only at h1 ⊢;refine bG func42 ntmps42 ?_
  (have W:=UL;repeat' (first|refine aq fun K hK=>?_|refine ap ?_|(refine hK _ _ ?_;clear hK K)|(refine ao ?_ ?_<;>intro hc<;>try exact jz)|refine aT 3 ?_|refine aT 4 ?_|refine cp (h1) ?_|(refine bF ?_ ?_<;>intro hc<;>try exact jz)|refine ar ?_|exact jI|(clear hK K)))
  (refine aY [.cell 6 90,.tmp 7,.tmp 8] ?_;try simp only[go_sem])
end
def Pm{l:List ak}{b:ak}{k:Nat}(hk:k<l.length+1):nth (l++[b]) k=if k<l.length then nth l k else b:=by
 unfold nth;rw[List.getD_eq_getElem?_getD,List.getD_eq_getElem?_getD];by_cases c:k<l.length
 ·rw[if_pos c,List.getElem?_append_left c]
 ·rw[if_neg c,List.getElem?_append_right jB,show k-l.length=0 from jB];rfl
def fp.app(h:fp w)(h7:w.l.length<8){b:ak}(hb:BW b):fp { w with l:=w.l++[b],cur:=w.l.length }:=
 ⟨by show(w.l++[b]).length<=100;simp;omega,by show(0:Int)<=w.l.length;omega,by show(w.l.length:Int)<(w.l++[b]).length;simp;omega,fun k hk=>by
  have hk:k<w.l.length+1:=by simpa using hk
  show BW (nth (w.l++[b]) k);rw[Pm hk];split
  ·rename_i c;exact h.b k c
  ·exact hb,h.t⟩
def fp.k(h:fp w):w.cur.toNat<w.l.length:=by have:=h.c0;have:=h.c1;omega
section
variable {p:af}(hs:gj p){F:TG->MV->MV}(hF:bQ p (ci p) F){w:aV}(h:fp w)
include h
theorem Js{nm:TI}{x:ak}{e:Int}(hx:e=0->BW x):fp (nT w nm x e).1:=by
 unfold nT;split
 ·exact h
 split
 ·exact h
 split
 ·exact h
 ·rename_i c2 c3;exact h.app jB (hx (Classical.not_not.1 c3))
theorem Eb{x:ak}{e:Int}(hx:e=0->BW x):fp (o8 w x e).1:=by
 unfold o8;split
 ·exact h
 ·rename_i c;exact h.set _ (hx (Classical.not_not.1 c))
include hs hF
theorem CS:fp (US p F w):=by
 have hb:=(h.b _ h.k).ok;have h1:=(Ay hs hF hb.inr hb.lJ w.time).1.t0;have h2:=(Ay hs hF hb.inr hb.lJ w.time).2;have h3:=(AE w.time).2;exact⟨h.ln,h.c0,h.c1,h.b,by show cf (runM p F (nth w.l w.cur.toNat).aC (eT (nth w.l w.cur.toNat)) w.time).1.time;exact⟨jB,jB⟩⟩
theorem Ki{o:lU}(hn:cf o.n)(hv:cf o.v.n):fp (doesW p F w o).1:=by
 have hb:=h.b _ h.k;have h8:=hb.qZ;have UW:=hb.i16;have hs8:=hb.s8;have he:=fun t=>Ch (eT (nth w.l w.cur.toNat)) t
 unfold doesW;split
 ·show fp (goW p F w o.n).1;unfold goW;split
  ·exact h
  ·exact⟨h.ln,h.c0,h.c1,h.b,hn⟩
 split
 ·show fp (switchW p F w o.name).1;unfold switchW;rcases nZ o.name w.l 0 with⟨e,_⟩|⟨j,h1,h2,_,_⟩
  ·rw[jP];exact h
  ·rw[jN];exact CS hs hF ⟨h.ln,by show 0<=di o.name w.l 0;omega,by show di o.name w.l 0<w.l.length;omega,h.b,h.t⟩
 split
 ·show fp (forkW p F w o.name o.more o.v).1;unfold forkW;refine Js h fun e=>?_
  unfold forkB at e ⊢;split at e
  ·cases e
  rename_i c1;split at e
  ·cases e
  split at e
  ·cases e
  unfold fineB at e ⊢;split at e
  ·cases e
  rename_i c2 c3 c4;rw[if_neg c1,if_neg c2,if_neg c3,if_neg c4];exact⟨hb.ok.early _ (by have:=he w.time;show(dT (eT (nth w.l w.cur.toNat)) w.time).length<=100;omega) _ hv,UW,by have c3:¬8<=(dT (eT (nth w.l w.cur.toNat)) w.time).length:=c3;show(dT (eT (nth w.l w.cur.toNat)) w.time).length+1<=8;omega⟩
 split
 ·show fp (inputW p F w o.name o.n).1;unfold inputW;refine Js h fun e=>?_
  unfold inputB at e ⊢;split at e
  ·cases e
  rename_i c1;split at e
  ·cases e
  split at e
  ·cases e
  rename_i c2 c3;rw[if_neg c1,if_neg c2,if_neg c3];have hl:((curB w).aC.take (atB p F (curB w) w.time).in_.toNat++[o.n]).length<=16:=by rw[List.length_append,List.length_take];simp only[List.length_cons,List.length_nil];omega
  have h9:=he w.time;exact⟨⟨Nat.le_trans hl jC,by show(dT (eT (nth w.l w.cur.toNat)) w.time).length<=100;omega,by show 0<=100;decide,fun x hx=>(List.mem_append.1 hx).elim (fun hx=>hb.ok.inr x (List.mem_of_mem_take hx)) (fun hx=>by rw[List.mem_singleton.1 hx];exact hn),fun y hy=>hb.ok.lJ y (EM hy).1,fun y hy=>(by cases hy)⟩,hl,by show(dT (eT (nth w.l w.cur.toNat)) w.time).length+0<=8;omega⟩
 split
 ·show fp (addW p F w o.more o.v).1;unfold addW;refine Eb h fun e=>?_
  unfold addB at e ⊢;split at e
  ·cases e
  rename_i c1;split at e
  ·cases e
  unfold fineB at e ⊢;split at e
  ·cases e
  rename_i c2 c3;rw[if_neg c1,if_neg c2,if_neg c3];have hl:=Go.Gd.iC (⟨w.time,o.more,o.v⟩:aD) (curB w).own;have c2:¬8<=(curB w).base.length+(curB w).own.length:=c2;exact⟨hb.ok.ins (show(curB w).own.length<100 from jB) hv,UW,by show(curB w).base.length+(kJ ⟨w.time,o.more,o.v⟩ (curB w).own).length<=8;omega⟩
 split
 ·show fp (appendW w o.n).1;unfold appendW;refine Eb h fun e=>?_
  unfold pd at e ⊢;split at e
  ·cases e
  rename_i c1;rw[if_neg c1];have hl:((curB w).aC++[o.n]).length<=16:=by rw[List.length_append];simp only[List.length_cons,List.length_nil];omega
  exact⟨⟨Nat.le_trans hl jC,hb.ok.qg,hb.ok.oD,fun x hx=>(List.mem_append.1 hx).elim (hb.ok.inr x) (fun hx=>by rw[List.mem_singleton.1 hx];exact hn),hb.ok.zg,hb.ok.wQ⟩,hl,hs8⟩
 split
 ·show fp (rf (io o.more) w o.name o.more).1;unfold rf;split
  ·exact h
  split
  ·exact h
  split
  ·exact h
  rename_i c1 c2 c3;have Uq:=h.b (di o.name w.l 0).toNat (by rcases nZ o.name w.l 0 with⟨e,_⟩|⟨j,h1,h2,_,_⟩<;>omega)
  exact h.set _ ⟨⟨Uq.ok.inl,Uq.ok.qg,Uq.ok.oD,Uq.ok.inr,Uq.ok.zg,Uq.ok.wQ⟩,Uq.i16,Uq.s8⟩
 split
 ·show fp (pruneW p F w (di o.name w.l 0)).1;unfold pruneW;have Vk:=h.c0;have T9:=h.c1;split
  ·exact h
  split
  ·exact h
  rename_i c1 c2;rcases nZ o.name w.l 0 with⟨e,_⟩|⟨j,h1,h2,_,_⟩
  ·omega
  rw[h2]at c2 ⊢;rw[show(0:Int)+(j:Int)=j from jB,Int.toNat_natCast]at*;by_cases c3:(j:Int)<w.cur
  ·rw[if_pos c3];exact h.erase h1 jB jB
  rw[if_neg c3];by_cases c4:w.cur=j
  ·rw[if_pos c4];exact CS hs hF (h.erase h1 (c:=0) jB jB)
  ·rw[if_neg c4];exact h.erase h1 (c:=w.cur) jB jB
 ·show fp (rebaseW p F w (di o.name w.l 0) (di o.more w.l 0)).1;unfold rebaseW;split
  ·exact h
  split
  ·exact h
  split
  ·exact h
  split
  ·exact h
  rename_i c1 c2 c3 c4;have Ue:(di o.name w.l 0).toNat<w.l.length:=by rcases nZ o.name w.l 0 with⟨e,_⟩|⟨j,h1,h2,_,_⟩<;>omega
  have TY:(di o.more w.l 0).toNat<w.l.length:=by rcases nZ o.more w.l 0 with⟨e,_⟩|⟨j,h1,h2,_,_⟩<;>omega
  have ha:=h.b _ Ue;have ho:=h.b _ TY;have ho8:=ho.qZ;have Uk:BW (rebaseB p F (nth w.l (di o.name w.l 0).toNat) (nth w.l (di o.more w.l 0).toNat)).1:=by
   have c4:=Classical.not_not.1 c4;unfold rebaseB at c4 ⊢;split at c4
   ·cases c4
   rename_i d1;split at c4
   ·cases c4
   rename_i d2;rw[if_neg d1,if_neg d2];exact⟨ha.ok.j9 ho.ok jB,ho.i16,by show(eT _).length+(nth w.l _).own.length<=8;omega⟩
  split
  ·exact CS hs hF (h.set _ Uk)
  ·exact h.set _ Uk
omit h hs hF in
theorem IH:fp tS:=⟨jC,jC,jC,fun k hk=>by have hk:k<1:=hk;obtain rfl:k=0:=jB;exact⟨⟨jC,jC,jC,fun x hx=>(by cases hx),fun x hx=>(by cases hx),fun x hx=>(by cases hx)⟩,jC,jC⟩,⟨jC,jC⟩⟩
omit h in
theorem Af{l:List lU}(hl:∀x∈l,cf x.n/\cf x.v.n):∀k,k<=l.length->fp (woodsW p F l k)
 |0,_=>IH
 |k+1,hk=>by have hx:=hl _ (fg (l:=l) (k:=k) jB);exact Ki hs hF (Af hl k jB) (o:=qb (nth l k)) hx.1 hx.2
end
end Go.Proofs.YtjpcgmjaipfgdaaGreatDoor