/- Lemmas. No conditions. -/
import Derived.Test.YtghoellpinmenaaGreatDoorSoL
set_option linter.all false
set_option maxHeartbeats 4000000
set_option maxRecDepth 10000
namespace Go.Gd
open Go
def aK(p:ae):PW:=[ax bX 5 p.aa.nodes,ax eZ 5 p.aa.av,ax eI 1 p.types,ax eI 1 p.ab,ax eI 1 p.fn,ax eI 1 p.size]
attribute [go_sem] aK
def Aw(p:ae):bp p=aK p:=rfl
variable{P:P6}{f:FuncId}{r0:AV}{tl:PV}
def kS{args:PW}{H:Hp}{K:AV->Prop}{t:P1}{pre post:PW}{R:RS}{B:PZ}(hc:af P f args (R.e t pre post []) fun r l'=>r=r0/\l'=R.e t pre post [])(hH:H=⟨B,R.e t pre post tl⟩)
  (hp:aU cV pre=true) (hq:aU cV post=true) (hl:low tl) (ha:aU (fun i=>decide (i=0)) args=true) (h0:aQ P f=true) (k:K r0):∃r,(dp P (.raw (.func (.func f) #[] #[])) args H fun r' H'=>r'=r/\H'=H)/\K r:=
 ⟨r0,cE hc hH jl jl hp hq hl ha h0 ⟨rfl,hH.symm⟩,k⟩
variable{g:PT}
def IF{A:AS}{H:Hp}{args:PW}{d:fz fun r H'=>c8 A H H'/\g r H'}{t:P1}{pre post:PW}{R:RS}{B:PZ}(hc:af P f args (R.e t pre post []) fun r l'=>r=r0/\l'=R.e t pre post [])(hH:H=⟨B,R.e t pre post tl⟩)
  (hp:aU cV pre=true) (hq:aU cV post=true) (hl:low tl) (ha:aU (fun i=>decide (i=0)) args=true) (h0:aQ P f=true) (k:g r0 H):dp P (.raw (.func (.func f) #[] #[])) args H (AP (fun r H'=>c8 A H H'/\g r H') d):=
 cE (K:=fun r H'=>c8 A H H'/\g r H') hc hH jl jl hp hq hl ha h0 (by rw[<-hH];exact⟨fun i r _ hr=>.inl hr,k⟩)
def Mg{A:AS}{H:Hp}{args args':PW}{d:fz fun r H'=>c8 A H H'/\g r H'}(hc:aA P f args' r0)(hv:bc (fun _=>true) H args args')(hr:r0.flat=true)(h0:aQ P f=true)(k:g r0 H):dp P (.raw (.func (.func f) #[] #[])) args H (AP (fun r H'=>c8 A H H'/\g r H') d):=
 cL (K:=fun r H'=>c8 A H H'/\g r H') hc hv hr h0 ⟨fun i r _ hr=>.inl hr,k⟩
end Go.Gd
namespace Go.Proofs.YtghoellpinmenaaGreatDoor
open Go Go.Gd Tryz
def iw(p:ae)(ab:List ai)(heap:PX)(tr:Int):Row:=.var 292 (bp p++[kq ab,kP heap,rI tr])
attribute [go_sem] iw
@[go_sem] def j0r(p:ae)(l:PW):bp p++l=ax bX 5 p.aa.nodes::ax eZ 5 p.aa.av::ax eI 1 p.types::ax eI 1 p.ab::ax eI 1 p.fn::ax eI 1 p.size::l:=rfl
def ES(p:ae)(ab:List ai)(heap:PX)(tr tr':Int)(v:ai){f:FuncId}{cs:PW}{t1 t2 t3:P1}{c1 c2 c3:PW}(hf:aQ prog f=true)(Ru:aU (fun i=>i == 0 || (i == 1 || (i == 2 || (i == 3)))) cs=true)(h1:aU (fun i=>i == 0 || (i == 1 || (i == 2 || (i == 3)))) c1=true)(h2:aU (fun i=>i == 0 || (i == 1 || (i == 2 || (i == 3)))) c2=true)(h3:aU (fun i=>i == 0 || (i == 1 || (i == 2 || (i == 3)))) c3=true)
  (hd:tr=0->af prog f cs [(0,iw p ab heap tr),(1,.var t1 c1),(2,.var t2 c2),(3,.var t3 c3)] (fun r l'=>r=rV v/\l'=[(0,iw p ab heap tr'),(1,.var t1 c1),(2,.var t2 c2),(3,.var t3 c3)])) :
  af prog 256 [.pt 0 0 0 0,.dW f cs] [(0,iw p ab heap tr),(1,.var t1 c1),(2,.var t2 c2),(3,.var t3 c3)] (fun r l'=>r=rV (if tr=0 then v else v0)/\l'=[(0,iw p ab heap (if tr=0 then tr' else tr)),(1,.var t1 c1),(2,.var t2 c2),(3,.var t3 c3)]):=by
 have US:∀cs:PW,aU (df (iZ [0,1,2,3])) cs=aU (fun i=>i == 0 || (i == 1 || (i == 2 || i == 3))) cs:=fun cs=>by congr 1;funext i;simp[df,iZ];rfl
 have g1:=(US c1).trans h1;have g2:=(US c2).trans h2;have g3:=(US c3).trans h3;by_cases ht:tr=0
 ·rw[if_pos ht,if_pos ht];have hd:=hd ht;refine aO func256 ntmps256 ?_;refine S ?_
  (have W:=jA hf (jA Ru (jA h1 (jA h2 (h3))));repeat' (first|refine aq fun K hK=>?_|refine am ?_|(refine hK _ _ ?_;clear hK K)|(refine ao ?_ ?_<;>intro hc<;>try exact jz)|(refine cl (args:=[]) hd ?_)|refine ap ?_|exact jI|(clear hK K)))
  have W:=jA g1 (jA g2 g3)
  (refine aY [.cell 4 50] ?_;try simp only[go_sem])
 ·rw[if_neg ht,if_neg ht];refine aO func256 ntmps256 ?_;refine S ?_
  (have W:=jA hf (jA Ru (jA h1 (jA h2 (h3))));repeat' (first|refine aq fun K hK=>?_|refine am ?_|(refine hK _ _ ?_;clear hK K)|(refine ao ?_ ?_<;>intro hc<;>try exact jz)|(refine cl (args:=[]) hd ?_)|refine ap ?_|exact jI|(clear hK K)))
  have W:=jA g1 (jA g2 g3)
  (refine aY [.cell 4 50] ?_;try simp only[go_sem])
  rfl
def zG(p:ae)(ab:List ai)(heap:PX)(tr tr':Int)(v:ai){f:FuncId}{cs:PW}{t1 t2 t3 t4:P1}{c1 c2 c3 c4:PW}(hf:aQ prog f=true)(Ru:aU (fun i=>i == 0 || (i == 1 || (i == 2 || (i == 3 || (i == 4))))) cs=true)(h1:aU (fun i=>i == 0 || (i == 1 || (i == 2 || (i == 3 || (i == 4))))) c1=true)(h2:aU (fun i=>i == 0 || (i == 1 || (i == 2 || (i == 3 || (i == 4))))) c2=true)(h3:aU (fun i=>i == 0 || (i == 1 || (i == 2 || (i == 3 || (i == 4))))) c3=true)(h4:aU (fun i=>i == 0 || (i == 1 || (i == 2 || (i == 3 || (i == 4))))) c4=true)
  (hd:tr=0->af prog f cs [(0,iw p ab heap tr),(1,.var t1 c1),(2,.var t2 c2),(3,.var t3 c3),(4,.var t4 c4)] (fun r l'=>r=rV v/\l'=[(0,iw p ab heap tr'),(1,.var t1 c1),(2,.var t2 c2),(3,.var t3 c3),(4,.var t4 c4)])) :
  af prog 256 [.pt 0 0 0 0,.dW f cs] [(0,iw p ab heap tr),(1,.var t1 c1),(2,.var t2 c2),(3,.var t3 c3),(4,.var t4 c4)] (fun r l'=>r=rV (if tr=0 then v else v0)/\l'=[(0,iw p ab heap (if tr=0 then tr' else tr)),(1,.var t1 c1),(2,.var t2 c2),(3,.var t3 c3),(4,.var t4 c4)]):=by
 have US:∀cs:PW,aU (df (iZ [0,1,2,3,4])) cs=aU (fun i=>i == 0 || (i == 1 || (i == 2 || (i == 3 || i == 4)))) cs:=fun cs=>by congr 1;funext i;simp[df,iZ];rfl
 have g1:=(US c1).trans h1;have g2:=(US c2).trans h2;have g3:=(US c3).trans h3;have g4:=(US c4).trans h4;by_cases ht:tr=0
 ·rw[if_pos ht,if_pos ht];have hd:=hd ht;refine aO func256 ntmps256 ?_;refine S ?_
  (have W:=jA hf (jA Ru (jA h1 (jA h2 (jA h3 (h4)))));repeat' (first|refine aq fun K hK=>?_|refine am ?_|(refine hK _ _ ?_;clear hK K)|(refine ao ?_ ?_<;>intro hc<;>try exact jz)|(refine cl (args:=[]) hd ?_)|refine ap ?_|exact jI|(clear hK K)))
  have W:=jA g1 (jA g2 (jA g3 g4))
  (refine aY [.cell 4 50] ?_;try simp only[go_sem])
 ·rw[if_neg ht,if_neg ht];refine aO func256 ntmps256 ?_;refine S ?_
  (have W:=jA hf (jA Ru (jA h1 (jA h2 (jA h3 (h4)))));repeat' (first|refine aq fun K hK=>?_|refine am ?_|(refine hK _ _ ?_;clear hK K)|(refine ao ?_ ?_<;>intro hc<;>try exact jz)|(refine cl (args:=[]) hd ?_)|refine ap ?_|exact jI|(clear hK K)))
  have W:=jA g1 (jA g2 (jA g3 g4))
  (refine aY [.cell 4 50] ?_;try simp only[go_sem])
  rfl
def Dv(p:ae)(ab:List ai)(heap:PX)(tr t:Int):af prog 263 [.pt 0 0 0 0,rI t] [(0,iw p ab heap tr)] (fun r l'=>r=.bt []/\l'=[(0,iw p ab heap (if tr=0 then t else tr))]):=by
 refine aO func263 ntmps263 ?_;refine S ?_
 (repeat' (first|refine aq fun K hK=>?_|refine am ?_|(refine hK _ _ ?_;clear hK K)|(refine ao ?_ ?_<;>intro hc<;>try exact jz)|refine ap ?_|exact jI|(clear hK K)))
 ·(refine cj [] ?_ ?_<;>(try simp only[go_sem]))
  rw[if_pos hc]
 ·(refine cj [] ?_ ?_<;>(try simp only[go_sem]))
  rw[if_neg hc]
def vo(heap:PX)(v:ai):ai:=if v.ty=3 then vI v.s.size else vI (fq heap v).length
def Pf(p:ae)(ab:List ai)(heap:PX)(hh:heap.length<=1000000)(tr:Int)(v:ai):af prog 261 [.pt 0 0 0 0,rV v] [(0,iw p ab heap tr)] (fun r l'=>r=rV (vo heap v)/\l'=[(0,iw p ab heap tr)]):=by
 refine aO func261 ntmps261 ?_;refine S ?_
 (repeat' (first|refine aq fun K hK=>?_|refine am ?_|(with_reducible refine gR 3 ?_);refine dE 3 (au 0 9) mixed ?_|(refine hK _ _ ?_;clear hK K)|(refine ao ?_ ?_<;>intro hc<;>try exact jz)|refine al 2 ?_|refine cp (s9 _) ?_|refine cp (E8 _ _ hh) ?_|refine ap ?_|exact jI|(clear hK K)))
 all_goals(refine aY [.cell 4 50] ?_;try simp only[go_sem])
 all_goals(unfold vo;split<;>first|rfl|contradiction|skip)
def A4(p:ae)(ab:List ai)(heap:PX)(tr a:Int)(x:ai):PV:=[(0,iw p ab heap tr),(1,.var 290 [.pt 0 0 0 0]),(2,.var 3 [rI a]),(3,.var 50 (bk x))]
attribute [go_sem] A4
variable{p:ae}
def NJ(h:iY p)(ab:List ai)(heap:PX)(hh:heap.length<=1000000)(x:ai)(a:Int)(h0:0<=a)(h1:a<p.aa.nodes.length) :
  af prog 262 [.pt 1 0 0 0,.pt 2 0 0 0,.pt 3 0 0 0] (A4 p ab heap 0 a x) (fun r l'=>r=rV (je p ab heap (x,0) a).1/\l'=A4 p ab heap (je p ab heap (x,0) a).2 a x):=by
 have QH:=h.ab;have X3:=Dv p ab heap 0 2;refine aO func262 ntmps262 ?_;refine S ?_
 (repeat' (first|refine aq fun K hK=>?_|refine am ?_|(with_reducible refine gR 1 ?_);refine dQ 1 mixed ?_|(refine hK _ _ ?_;clear hK K)|(refine ao ?_ ?_<;>intro hc<;>try exact jz)|refine cm (X3) ?_|refine cq (yj _ _ _) ?_|refine cp (s9 _) ?_|refine cq (E8 _ _ hh) ?_|refine ap ?_|exact jI|(clear hK K)))
 ·have e:je p ab heap (x,0) a=(v0,2):=by unfold je;rw[if_neg jE,if_pos hc]
  rw[e]
  (refine aY [.cell 3 50] ?_;try simp only[go_sem])
  rfl
 ·have e:je p ab heap (x,0) a=(vI (nth (fq heap (gA ab (nth p.ab a.toNat) 4)) x.n.toNat),0):=by unfold je;rw[if_neg jE,if_neg (show¬(x.n<0\/((fq heap (gA ab (nth p.ab a.toNat) 4)).length:Int)<=x.n) from jB)]
  rw[e]
  (refine aY [.cell 3 50] ?_;try simp only[go_sem])
def zm(p:ae)(ab:List ai)(heap:PX)(tr:Int)(nd:bl)(x y:ai):PV:=[(0,iw p ab heap tr),(1,.var 290 [.pt 0 0 0 0]),(2,.var 78 (bX nd)),(3,.var 50 (bk x)),(4,.var 50 (bk y))]
attribute [go_sem] zm
def Iu(p:ae)(ab:List ai)(heap:PX)(nd:bl)(x y:ai)(hx:x.s.size<=1000000)(hy:y.s.size<=1000000) :
  af prog 264 [.pt 2 0 0 0,.pt 3 0 0 0,.pt 4 0 0 0,.pt 1 0 0 0] (zm p ab heap 0 nd x y) (fun r l'=>r=rV (jw nd.name x y).1/\l'=zm p ab heap (jw nd.name x y).2 nd x y):=by
 have X3:=Dv p ab heap 0 (jw nd.name x y).2;refine aO func264 ntmps264 ?_;refine S ?_
 (repeat' (first|refine aq fun K hK=>?_|refine am ?_|(refine hK _ _ ?_;clear hK K)|(refine ao ?_ ?_<;>intro hc<;>try exact jz)|refine cm (X3) ?_|refine cp (LQ _ _ _ hx hy) ?_|refine ap ?_|exact jI|(clear hK K)))
 (refine aY [.cell 4 50] ?_;try simp only[go_sem])
def ot(heap:PX)(k:Int)(x:ai):ai:=if k=6 then vo heap x else if k=7 then ku (⟨#[45]⟩:P0) x else ku (⟨#[33]⟩:P0) x
def AN(p:ae)(ab:List ai)(heap:PX)(tr a:Int)(nd:bl)(x:ai):PV:=[(0,iw p ab heap tr),(1,.var 290 [.pt 0 0 0 0]),(2,.var 3 [rI a]),(3,.var 78 (bX nd)),(4,.var 50 (bk x))]
attribute [go_sem] AN
def Lx(p:ae)(ab:List ai)(heap:PX)(hh:heap.length<=1000000)(a:Int)(nd:bl)(x:ai) :
  af prog 260 [.pt 3 0 0 0,.pt 1 0 0 0,.pt 4 0 0 0] (AN p ab heap 0 a nd x) (fun r l'=>r=rV (ot heap nd.kind x)/\l'=AN p ab heap 0 a nd x):=by
 have hl:=Pf p ab heap hh 0 x;refine aO func260 ntmps260 ?_;refine S ?_
 (repeat' (first|refine aq fun K hK=>?_|refine am ?_|(refine hK _ _ ?_;clear hK K)|(refine ao ?_ ?_<;>intro hc<;>try exact jz)|refine cm (hl) ?_|refine cp (JJ _ _) ?_|refine ap ?_|exact jI|(clear hK K)))
 ·have e:ot heap nd.kind x=vo heap x:=by unfold ot;rw[if_pos hc]
  rw[e]
  (refine aY [.cell 3 50] ?_;try simp only[go_sem])
 ·rename_i k6;have e:ot heap nd.kind x=ku (⟨#[45]⟩:P0) x:=by unfold ot;rw[if_neg k6,if_pos hc]
  rw[e]
  (refine aY [.cell 3 50] ?_;try simp only[go_sem])
 ·rename_i k6;have e:ot heap nd.kind x=ku (⟨#[33]⟩:P0) x:=by unfold ot;rw[if_neg k6,if_neg hc]
  rw[e]
  (refine aY [.cell 3 50] ?_;try simp only[go_sem])
def wV(p:ae)(ab:List ai)(heap:PX)(n:Nat):Prop:=∀(a tr:Int),0<=a->a<p.aa.nodes.length->a.toNat<n->cr (bJ p.aa.nodes a)->
 af prog 255 [.pt 0 0 0 0,rI a] [(0,iw p ab heap tr)] (fun r l'=>r=rV (if tr=0 then(da p ab heap n a).1 else v0)/\l'=[(0,iw p ab heap (if tr=0 then(da p ab heap n a).2 else tr))])
def HZ(h:iY p)(ab:List ai)(heap:PX)(hh:heap.length<=1000000)(n:Nat)(ih:wV p ab heap n)(a:Int)(h0:0<=a)(h1:a<p.aa.nodes.length)(hn:a.toNat<=n)(hk:(nth p.aa.nodes a.toNat).kind=5) :
  af prog 258 [.pt 0 0 0 0,rI a] [(0,iw p ab heap 0)] (fun r l'=>r=rV (je p ab heap (da p ab heap n (nth (nth p.aa.nodes a.toNat).l 0)) a).1/\l'=[(0,iw p ab heap (je p ab heap (da p ab heap n (nth (nth p.aa.nodes a.toNat).l 0)) a).2)]):=by
 have sh:=h.aa.shape a.toNat jB;obtain⟨x,hl,hx⟩:=sh.1.one jB;have g':(nth p.aa.nodes a.toNat).l.length=1:=by rw[hl];rfl
 have Qg:nth (nth p.aa.nodes a.toNat).l 0=x:=by rw[hl];rfl
 have hb:=sh.2.1 x (by rw[hl];simp);have Q6:=ih x 0 hb.1 jB jB hx;rw[Qg];generalize da p ab heap n x=X at Q6 ⊢;rw[if_pos rfl,if_pos rfl]at Q6;have TK:=ES p ab heap X.2 (je p ab heap (X.1,0) a).2 (je p ab heap (X.1,0) a).1 (f:=262) (cs:=[.pt 1 0 0 0,.pt 2 0 0 0,.pt 3 0 0 0]) (t1:=290) (c1:=[.pt 0 0 0 0]) (t2:=3) (c2:=[rI a]) (t3:=50) (c3:=bk X.1) Sd Sd Sd Sd Sd
  (fun e=>by rw[e];exact NJ h ab heap hh X.1 a h0 h1)
 have e1:(if X.2=0 then(je p ab heap (X.1,0) a).1 else v0)=(je p ab heap X a).1:=by
  obtain⟨v,t⟩:=X;by_cases ht:t=0
  ·subst ht;rfl
  ·show(if t=0 then _ else _)=_;rw[if_neg ht];unfold je;rw[if_pos ht]
 have e2:(if X.2=0 then(je p ab heap (X.1,0) a).2 else X.2)=(je p ab heap X a).2:=by
  obtain⟨v,t⟩:=X;by_cases ht:t=0
  ·subst ht;rfl
  ·show(if t=0 then _ else _)=_;rw[if_neg ht];unfold je;rw[if_pos ht]
 rw[e1,e2]at TK;refine aO func258 ntmps258 ?_;refine S ?_
 (have W:=jA g' (Qg);repeat' (first|refine aq fun K hK=>?_|refine am ?_|(with_reducible refine gR 1 ?_);refine dL 1 [] [14] (au 0 16) mixed ?_|(refine hK _ _ ?_;clear hK K)|(refine ao ?_ ?_<;>intro hc<;>try exact jz)|refine al 9 ?_|refine al 3 ?_|refine cm (Q6) ?_|refine cm (TK) ?_|refine ap ?_|exact jI|(clear hK K)))
 (refine aY [.cell 4 50] ?_;try simp only[go_sem])
def DZ{s:P0}{X Y:ai×Int}(hX:X.2=0)(QD:¬((s=(⟨#[124,124]⟩:P0)/\X.1.n=1)\/(s=(⟨#[38,38]⟩:P0)/\X.1.n=0))):lM s X Y=if Y.2≠0 then(v0,Y.2)else jw s X.1 Y.1:=by unfold lM;rw[jN,if_neg QD]
def Nl(h:iY p)(ab:List ai)(heap:PX)(n:Nat)(ih:wV p ab heap n)(a:Int)(h0:0<=a)(h1:a<p.aa.nodes.length)(hn:a.toNat<=n)(hk:(nth p.aa.nodes a.toNat).kind=9) :
  af prog 259 [.pt 0 0 0 0,.agg (bX (nth p.aa.nodes a.toNat))] [(0,iw p ab heap 0)] (fun r l'=>r=rV (lM (nth p.aa.nodes a.toNat).name (da p ab heap n (nth (nth p.aa.nodes a.toNat).l 0)) (da p ab heap n (nth (nth p.aa.nodes a.toNat).l 1))).1/\l'=[(0,iw p ab heap (lM (nth p.aa.nodes a.toNat).name (da p ab heap n (nth (nth p.aa.nodes a.toNat).l 0)) (da p ab heap n (nth (nth p.aa.nodes a.toNat).l 1))).2)]):=by
 have sh:=h.aa.shape a.toNat jB;obtain⟨x,y,hl,hx,hy⟩:=sh.1.two jB;have g':(nth p.aa.nodes a.toNat).l.length=2:=by rw[hl];rfl
 have Qg:nth (nth p.aa.nodes a.toNat).l 0=x:=by rw[hl];rfl
 have Sx:nth (nth p.aa.nodes a.toNat).l 1=y:=by rw[hl];rfl
 have hb:=sh.2.1 x (by rw[hl];simp);have VP:=sh.2.1 y (by rw[hl];simp);have Q6:=ih x 0 hb.1 jB jB hx;have Uq:=ih y (da p ab heap n x).2 VP.1 jB jB hy;have o1:=qA h ab heap n x hb.1 jB jB hx;have o2:=qA h ab heap n y VP.1 jB jB hy;have s1:=o1.size;have s2:=o2.size;rw[Qg,Sx];generalize da p ab heap n x=X at Q6 Uq o1 s1 ⊢;generalize da p ab heap n y=Y at Uq o2 s2 ⊢;rw[if_pos rfl,if_pos rfl]at Q6;by_cases hX:X.2=0
 ·rw[if_pos hX,if_pos hX]at Uq;rw[hX]at Q6 Uq;have TK:=zG p ab heap Y.2 (jw (nth p.aa.nodes a.toNat).name X.1 Y.1).2 (jw (nth p.aa.nodes a.toNat).name X.1 Y.1).1 (f:=264) (cs:=[.pt 2 0 0 0,.pt 3 0 0 0,.pt 4 0 0 0,.pt 1 0 0 0]) (t1:=290) (c1:=[.pt 0 0 0 0]) (t2:=78) (c2:=bX (nth p.aa.nodes a.toNat)) (t3:=50) (c3:=bk X.1) (t4:=50) (c4:=bk Y.1) Sd Sd Sd Sd Sd Sd
   (fun e=>by rw[e];exact Iu p ab heap (nth p.aa.nodes a.toNat) X.1 Y.1 jB jB)
  have hE:((nth p.aa.nodes a.toNat).name=(⟨#[124,124]⟩:P0)/\X.1=vB true\/(nth p.aa.nodes a.toNat).name=(⟨#[38,38]⟩:P0)/\X.1=vB false)<->(((nth p.aa.nodes a.toNat).name=(⟨#[124,124]⟩:P0)/\X.1.n=1)\/((nth p.aa.nodes a.toNat).name=(⟨#[38,38]⟩:P0)/\X.1.n=0)):=by
   obtain⟨t5,t6⟩:=(h.ty a.toNat jB jB).zn hk;rw[t5,Qg,Sx]at t6;have key:((nth p.aa.nodes a.toNat).name=(⟨#[124,124]⟩:P0)\/(nth p.aa.nodes a.toNat).name=(⟨#[38,38]⟩:P0))->∀b,X.1.n=(vB b).n->X.1=vB b:=fun hs b hb=>by obtain⟨_,g2,_⟩:=ER hs t6;obtain⟨q1,q2⟩:=su o1 hX;rw[g2]at q1;unfold fT at q2;rw[jN,if_pos q1]at q2;simp only[Bool.and_eq_true,decide_eq_true_eq]at q2;obtain⟨⟨ty,nn,ss⟩,tt⟩:=X;simp only at q1 q2 hb;rw[q1,hb,q2.1];rfl
   constructor
   ·rintro(⟨e1,e2⟩|⟨e1,e2⟩)
    ·exact .inl ⟨e1,by rw[e2];rfl⟩
    ·exact .inr ⟨e1,by rw[e2];rfl⟩
   ·rintro(⟨e1,e2⟩|⟨e1,e2⟩)
    ·exact .inl ⟨e1,key (.inl e1) true e2⟩
    ·exact .inr ⟨e1,key (.inr e1) false e2⟩
  refine aO func259 ntmps259 ?_;refine S ?_
  (have W:=jA g' (jA Qg (Sx));repeat' (first|refine aq fun K hK=>?_|refine am ?_|(with_reducible refine gR 1 ?_);refine dL 1 [] [6] (au 0 8) mixed ?_|(with_reducible refine gR 2 ?_);refine dE 2 (au 0 18) mixed ?_|(with_reducible refine gR 4 ?_);refine dL 4 [] [6] (au 0 8) mixed ?_|(refine hK _ _ ?_;clear hK K)|(refine ao ?_ ?_<;>intro hc<;>try exact jz)|refine al 9 ?_|refine al 3 ?_|refine al 4 ?_|refine cm (Q6) ?_|refine cm (Uq) ?_|(first|refine cg (pv _) ?_|refine ma (pv _) ?_)|refine cm (TK) ?_|refine ap ?_|exact jI|(clear hK K)))
  ·rw[show lM (nth p.aa.nodes a.toNat).name X Y=(X.1,0) from by unfold lM;rw[if_neg (fun h=>h hX),if_pos (hE.1 hc)]]
   (refine aY [.cell 4 50] ?_;try simp only[go_sem])
  ·have QD:¬((nth p.aa.nodes a.toNat).name=(⟨#[124,124]⟩:P0)/\X.1=vB true\/(nth p.aa.nodes a.toNat).name=(⟨#[38,38]⟩:P0)/\X.1=vB false):=fun k=>(DF hc k).elim
   have e1:(if Y.2=0 then(jw (nth p.aa.nodes a.toNat).name X.1 Y.1).1 else v0)=(lM (nth p.aa.nodes a.toNat).name X Y).1:=by
    rw[DZ hX fun k=>QD (hE.2 k)];by_cases Rg:Y.2=0
    ·rw[if_pos Rg,if_neg (fun h=>h Rg)]
    ·rw[if_neg Rg,if_pos Rg]
   have e2:(if Y.2=0 then(jw (nth p.aa.nodes a.toNat).name X.1 Y.1).2 else Y.2)=(lM (nth p.aa.nodes a.toNat).name X Y).2:=by
    rw[DZ hX fun k=>QD (hE.2 k)];by_cases Rg:Y.2=0
    ·rw[if_pos Rg,if_neg (fun h=>h Rg)]
    ·rw[if_neg Rg,if_pos Rg]
   rw[<-e1,<-e2]
   (refine aY [.cell 4 50] ?_;try simp only[go_sem])
 ·rw[if_neg hX,if_neg hX]at Uq;have Zv:X.1=v0:=by
   rcases o1 with o|o
   ·exact(hX o.1).elim
   ·exact o.2
  have TK:=zG p ab heap X.2 0 v0 (f:=264) (cs:=[.pt 2 0 0 0,.pt 3 0 0 0,.pt 4 0 0 0,.pt 1 0 0 0]) (t1:=290) (c1:=[.pt 0 0 0 0]) (t2:=78) (c2:=bX (nth p.aa.nodes a.toNat)) (t3:=50) (c3:=bk v0) (t4:=50) (c4:=bk v0) Sd Sd Sd Sd Sd Sd (fun e=>(hX e).elim);rw[if_neg hX,if_neg hX]at TK;rw[show lM (nth p.aa.nodes a.toNat).name X Y=(v0,X.2) from by unfold lM;rw[if_pos hX]];rw[Zv]at Q6;refine aO func259 ntmps259 ?_;refine S ?_
  (have W:=jA g' (jA Qg (Sx));repeat' (first|refine aq fun K hK=>?_|refine am ?_|(with_reducible refine gR 1 ?_);refine dL 1 [] [6] (au 0 8) mixed ?_|(with_reducible refine gR 2 ?_);refine dE 2 (au 0 18) mixed ?_|(with_reducible refine gR 4 ?_);refine dL 4 [] [6] (au 0 8) mixed ?_|(refine hK _ _ ?_;clear hK K)|(refine ao ?_ ?_<;>intro hc<;>try exact jz)|refine al 9 ?_|refine al 3 ?_|refine al 4 ?_|refine cm (Q6) ?_|refine cm (Uq) ?_|(first|refine cg (pv _) ?_|refine ma (pv _) ?_)|refine cm (TK) ?_|refine ap ?_|exact jI|(clear hK K)))
  ·exfalso;revert hc;rintro(⟨_,h⟩|⟨_,h⟩)<;>revert h<;>decide
  ·(refine aY [.cell 4 50] ?_;try simp only[go_sem])
def Pg(h:iY p)(ab:List ai)(heap:PX)(hh:heap.length<=1000000)(n:Nat)(ih:wV p ab heap n)(a:Int)(h0:0<=a)(h1:a<p.aa.nodes.length)(hn:a.toNat<=n)(hk:cr (bJ p.aa.nodes a)) :
  af prog 257 [.pt 3 0 0 0,.pt 1 0 0 0,.pt 2 0 0 0] [(0,iw p ab heap 0),(1,.var 290 [.pt 0 0 0 0]),(2,.var 3 [rI a]),(3,.var 78 (bX (nth p.aa.nodes a.toNat)))]
   (fun r l'=>r=rV (da p ab heap (n+1) a).1/\l'=[(0,iw p ab heap (da p ab heap (n+1) a).2),(1,.var 290 [.pt 0 0 0 0]),(2,.var 3 [rI a]),(3,.var 78 (bX (nth p.aa.nodes a.toNat)))]):=by
 have sh:=h.aa.shape a.toNat jB;have QH:=h.ab;have Sy:=h.types;have Tx:(nth p.aa.nodes a.toNat).kind=1\/(nth p.aa.nodes a.toNat).kind=2\/(nth p.aa.nodes a.toNat).kind=3\/(nth p.aa.nodes a.toNat).kind=4\/(nth p.aa.nodes a.toNat).kind=5\/(nth p.aa.nodes a.toNat).kind=9\/((nth p.aa.nodes a.toNat).kind=6\/(nth p.aa.nodes a.toNat).kind=7\/(nth p.aa.nodes a.toNat).kind=8):=by have:cr (nth p.aa.nodes a.toNat).kind:=hk;unfold cr at this;omega
 rcases Tx with k|k|k|k|k|k|k
 ·rw[show da p ab heap (n+1) a=(vI (nth p.aa.nodes a.toNat).n,0) from by unfold da;simp only;rw[k];rfl];refine aO func257 ntmps257 ?_;refine S ?_
  (have W:=k;repeat' (first|refine aq fun K hK=>?_|refine am ?_|(with_reducible refine gR 9 ?_);refine dE 9 (au 0 22) mixed ?_|(with_reducible refine gR 14 ?_);refine dL 14 [] [6] (au 0 8) mixed ?_|(refine hK _ _ ?_;clear hK K)|(refine ao ?_ ?_<;>intro hc<;>try exact jz)|refine cp (s9 _) ?_|refine ap ?_|exact jI|(clear hK K)))
  (refine aY [.cell 3 50] ?_;try simp only[go_sem])
 ·rw[show da p ab heap (n+1) a=(vB (decide ((nth p.aa.nodes a.toNat).n=1)),0) from by unfold da;simp only;rw[k];rfl];refine aO func257 ntmps257 ?_;refine S ?_
  (have W:=k;repeat' (first|refine aq fun K hK=>?_|refine am ?_|(with_reducible refine gR 9 ?_);refine dE 9 (au 0 22) mixed ?_|(with_reducible refine gR 14 ?_);refine dL 14 [] [6] (au 0 8) mixed ?_|(refine hK _ _ ?_;clear hK K)|(refine ao ?_ ?_<;>intro hc<;>try exact jz)|refine cp (pv _) ?_|refine ap ?_|exact jI|(clear hK K)))
  (refine aY [.cell 3 50] ?_;try simp only[go_sem])
 ·rw[show da p ab heap (n+1) a=(vT (nth p.aa.nodes a.toNat).name,0) from by unfold da;simp only;rw[k];rfl];refine aO func257 ntmps257 ?_;refine S ?_
  (have W:=k;repeat' (first|refine aq fun K hK=>?_|refine am ?_|(with_reducible refine gR 9 ?_);refine dE 9 (au 0 22) mixed ?_|(with_reducible refine gR 14 ?_);refine dL 14 [] [6] (au 0 8) mixed ?_|(refine hK _ _ ?_;clear hK K)|(refine ao ?_ ?_<;>intro hc<;>try exact jz)|refine cp (GY _) ?_|refine ap ?_|exact jI|(clear hK K)))
  (refine aY [.cell 3 50] ?_;try simp only[go_sem])
 ·rw[show da p ab heap (n+1) a=(gA ab (nth p.ab a.toNat) (nth p.types a.toNat),0) from by unfold da;simp only;rw[k];rfl];refine aO func257 ntmps257 ?_;refine S ?_
  (have W:=k;repeat' (first|refine aq fun K hK=>?_|refine am ?_|(with_reducible refine gR 9 ?_);refine dE 9 (au 0 22) mixed ?_|(with_reducible refine gR 14 ?_);refine dL 14 [] [6] (au 0 8) mixed ?_|(refine hK _ _ ?_;clear hK K)|(refine ao ?_ ?_<;>intro hc<;>try exact jz)|refine al 9 ?_|refine cp (yj _ _ _) ?_|refine cq (yj _ _ _) ?_|refine ap ?_|exact jI|(clear hK K)))
  (refine aY [.cell 3 50] ?_;try simp only[go_sem])
 ·have hi:=HZ h ab heap hh n ih a h0 h1 jB k;rw[E4 ab heap n k];refine aO func257 ntmps257 ?_;refine S ?_
  (have W:=k;repeat' (first|refine aq fun K hK=>?_|refine am ?_|(with_reducible refine gR 9 ?_);refine dE 9 (au 0 22) mixed ?_|(with_reducible refine gR 14 ?_);refine dL 14 [] [6] (au 0 8) mixed ?_|(refine hK _ _ ?_;clear hK K)|(refine ao ?_ ?_<;>intro hc<;>try exact jz)|refine al 9 ?_|refine cm (hi) ?_|refine ap ?_|exact jI|(clear hK K)))
  (refine aY [.cell 3 50] ?_;try simp only[go_sem])
 ·have hi:=Nl h ab heap n ih a h0 h1 jB k;rw[Df ab heap n k];refine aO func257 ntmps257 ?_;refine S ?_
  (have W:=k;repeat' (first|refine aq fun K hK=>?_|refine am ?_|(with_reducible refine gR 9 ?_);refine dE 9 (au 0 22) mixed ?_|(with_reducible refine gR 14 ?_);refine dL 14 [] [6] (au 0 8) mixed ?_|(refine hK _ _ ?_;clear hK K)|(refine ao ?_ ?_<;>intro hc<;>try exact jz)|refine al 9 ?_|refine cm (hi) ?_|refine ap ?_|exact jI|(clear hK K)))
  (refine aY [.cell 3 50] ?_;try simp only[go_sem])
 ·obtain⟨x,hl,hx⟩:=sh.1.one jB;have g':(nth p.aa.nodes a.toNat).l.length=1:=by rw[hl];rfl
  have Qg:nth (nth p.aa.nodes a.toNat).l 0=x:=by rw[hl];rfl
  have hb:=sh.2.1 x (by rw[hl];simp);have Q6:=ih x 0 hb.1 jB jB hx;have k1:¬(nth p.aa.nodes a.toNat).kind=1:=jB;have k2:¬(nth p.aa.nodes a.toNat).kind=2:=jB;have k3:¬(nth p.aa.nodes a.toNat).kind=3:=jB;have k4:¬(nth p.aa.nodes a.toNat).kind=4:=jB;have k5:¬(nth p.aa.nodes a.toNat).kind=5:=jB;have k9:¬(nth p.aa.nodes a.toNat).kind=9:=jB;rw[FB ab heap n k,Qg];generalize da p ab heap n x=X at Q6 ⊢;rw[if_pos rfl,if_pos rfl]at Q6;have TK:=zG p ab heap X.2 0 (ot heap (nth p.aa.nodes a.toNat).kind X.1) (f:=260) (cs:=[.pt 3 0 0 0,.pt 1 0 0 0,.pt 4 0 0 0]) (t1:=290) (c1:=[.pt 0 0 0 0]) (t2:=3) (c2:=[rI a]) (t3:=78) (c3:=bX (nth p.aa.nodes a.toNat)) (t4:=50) (c4:=bk X.1) Sd Sd Sd Sd Sd Sd
   (fun e=>by rw[e];exact Lx p ab heap hh a (nth p.aa.nodes a.toNat) X.1)
  have e1:(if X.2=0 then ot heap (nth p.aa.nodes a.toNat).kind X.1 else v0)=(pZ heap (nth p.aa.nodes a.toNat).kind X).1:=by
   by_cases hX:X.2=0
   ·rw[if_pos hX];unfold pZ ot vo;rw[if_neg (c:=X.2≠0) (fun h=>h hX)];rcases k with k|k|k<;>rw[k]<;>first|rfl|(rw[if_pos rfl,if_pos rfl];by_cases h3:X.1.ty=3;rw[if_pos h3,if_pos h3];rw[if_neg h3,if_neg h3])
   ·rw[if_neg hX];unfold pZ;rw[if_pos hX]
  have e2:(if X.2=0 then 0 else X.2)=(pZ heap (nth p.aa.nodes a.toNat).kind X).2:=by
   by_cases hX:X.2=0
   ·rw[if_pos hX];unfold pZ;rw[if_neg (c:=X.2≠0) (fun h=>h hX)]
    (repeat' split)<;>rfl
   ·rw[if_neg hX];unfold pZ;rw[if_pos hX]
  rw[e1,e2]at TK;refine aO func257 ntmps257 ?_;refine S ?_
  (have W:=jA k1 (jA k2 (jA k3 (jA k4 (jA k5 (jA k9 (jA g' (Qg)))))));repeat' (first|refine aq fun K hK=>?_|refine am ?_|(with_reducible refine gR 9 ?_);refine dE 9 (au 0 22) mixed ?_|(with_reducible refine gR 14 ?_);refine dL 14 [] [6] (au 0 8) mixed ?_|(refine hK _ _ ?_;clear hK K)|(refine ao ?_ ?_<;>intro hc<;>try exact jz)|refine al 9 ?_|refine al 4 ?_|refine cm (Q6) ?_|refine cm (TK) ?_|refine ap ?_|exact jI|(clear hK K)))
  (refine aY [.cell 3 50] ?_;try simp only[go_sem])
theorem EK{p:ae}(h:iY p)(ab:List ai)(heap:PX)(hh:heap.length<=1000000):∀n,wV p ab heap n
 |0=>fun a tr _ _ hn _=>by omega
 |n+1=>fun a tr h0 h1 hn hk=>by
  have ih:=EK h ab heap hh n;have TK:=ES p ab heap tr (da p ab heap (n+1) a).2 (da p ab heap (n+1) a).1 (f:=257) (cs:=[.pt 3 0 0 0,.pt 1 0 0 0,.pt 2 0 0 0]) (t1:=290) (c1:=[.pt 0 0 0 0]) (t2:=3) (c2:=[rI a]) (t3:=78) (c3:=bX (nth p.aa.nodes a.toNat)) Sd Sd Sd Sd Sd
   (fun e=>by rw[e];exact Pg h ab heap hh n ih a h0 h1 jB hk)
  refine aO func255 ntmps255 ?_;refine S ?_
  (repeat' (first|refine aq fun K hK=>?_|refine am ?_|(with_reducible refine gR 1 ?_);refine dE 1 (au 0 11) mixed ?_|(refine hK _ _ ?_;clear hK K)|(refine ao ?_ ?_<;>intro hc<;>try exact jz)|refine al 9 ?_|refine al 3 ?_|refine cm (TK) ?_|refine ap ?_|exact jI|(clear hK K)))
  (refine aY [.cell 4 50] ?_;try simp only[go_sem])
def OO(h:iY p)(ab:List ai)(heap:PX)(hh:heap.length<=1000000)(n:Nat)(a:Int)(h0:0<=a)(h1:a<p.aa.nodes.length)(hn:a.toNat<n)(hk:cr (bJ p.aa.nodes a)) :
  aA prog 254 [rP p,rI a,kq ab,kP heap] (.bt [rV (da p ab heap n a).1,rI (da p ab heap n a).2]):=by
 have hx:=EK h ab heap hh n a 0 h0 h1 hn hk;rw[if_pos rfl,if_pos rfl]at hx;have ok:=qA h ab heap n a h0 h1 hn hk;generalize da p ab heap n a=X at hx ok ⊢;refine bI func254 ntmps254 ?_
 (repeat' (first|refine aq fun K hK=>?_|refine am ?_|(with_reducible refine gR 4 ?_);refine dA 4 [9] (au 0 7) mixed ?_|(refine hK _ _ ?_;clear hK K)|(refine ao ?_ ?_<;>intro hc<;>try exact jz)|refine bx 7 ?_|refine bx 0 ?_|refine al 9 ?_|refine al 8 ?_|refine cm (hx) ?_|refine ap ?_|exact jI|(clear hK K)))
 ·have e:X.1=v0:=by
   rcases ok with o|o
   ·exact(hc o.1).elim
   ·exact o.2
  rw[e]
  (refine aY [.cell 8 50,.tmp 9] ?_;try simp only[go_sem])
  rfl
 ·rw[hc]
  (refine aY [.cell 8 50,.tmp 9] ?_;try simp only[go_sem])
abbrev aI(p:ae)(inp:PY)(tr:Int)(R:RS)(tl:PV):PV:=R.e 141 (aK p) [ax eI 1 inp,rI tr] tl
def q9(p:ae)(inp:PY)(tr:Int)(R:RS)(h:R.Ok)(h1:1<=R.nf)(h8:R.ak.length<=1000) :
  af prog 94 [.pt 0 0 0 0] (aI p inp tr R []) (fun r l=>r=.pt 1 R.ak.length (R.nf-1) 0/\l=aI p inp tr R []):=by
 have Qy:=h.nf;suffices key:∀R':RS,R'=R->af prog 94 [.pt 0 0 0 0] (aI p inp tr R []) (fun r l=>r=.pt 1 R.ak.length (R.nf-1) 0/\l=aI p inp tr R' []) from key R rfl
 intro R' u';refine aO func94 ntmps94 ?_;generalize hB:ids (aI p inp tr R [])=B;generalize hE:aI p inp tr R' []=E;refine S ?_
 (repeat' (first|refine aq fun K hK=>?_|refine am ?_|(with_reducible refine gR 1 ?_);refine dE 1 (au 0 14) mixed ?_|(refine hK _ _ ?_;clear hK K)|(refine ao ?_ ?_<;>intro hc<;>try exact jz)|refine ap ?_|exact jI|(clear hK K)))
 subst hE;subst u';exact wX (R':=R') (pre':=aK p) (post':=[ax eI 1 inp,rI tr]) rfl hB [.tmp 2] aM rfl rfl rfl
def tn(p:ae)(inp:PY)(tr:Int)(R:RS)(a:Int)(h0:0<=a)(h1:a.toNat<p.aa.nodes.length) :
  af prog 98 [.pt 0 0 0 0,rI a] (aI p inp tr R []) (fun r l=>r=.agg (bX (aJ p a))/\l=aI p inp tr R []):=by
 suffices key:∀R':RS,R'=R->af prog 98 [.pt 0 0 0 0,rI a] (aI p inp tr R []) (fun r l=>r=.agg (bX (aJ p a))/\l=aI p inp tr R' []) from key R rfl
 intro R' u';unfold aJ;refine aO func98 ntmps98 ?_;generalize hB:ids (aI p inp tr R [])=B;generalize hE:aI p inp tr R' []=E;refine S ?_
 (repeat' (first|refine aq fun K hK=>?_|refine am ?_|(refine hK _ _ ?_;clear hK K)|(refine ao ?_ ?_<;>intro hc<;>try exact jz)|refine bf 4 ?_|refine ap ?_|exact jI|(clear hK K)))
 subst hE;subst u';exact c7 (R':=R') (pre':=aK p) (post':=[ax eI 1 inp,rI tr]) rfl hB [.cell 4 78] aM rfl rfl jD
def xK(p:ae)(inp:PY)(tr:Int)(R:RS)(h:R.Ok)(h1:1<=R.nf)(h8:R.ak.length<=1000)(hp:1<=R.aF.path.length)(Zw:R.aF.path.length<=1000) :
  af prog 97 [.pt 0 0 0 0] (aI p inp tr R []) (fun r l=>r=.pt (bj 1 (R.nf-1)) (R.aF.path.length+(nth R.jp (R.nf-1)).length) (R.aF.path.length-1) 0/\l=aI p inp tr R []):=by
 have Qy:=h.nf;have QT:=q9 p inp tr R h h1 h8;have hk:R.nf-1<R.ak.length:=jB;have e0:R.aF=nth R.ak (R.nf-1):=rfl;rw[e0]at hp Zw ⊢;suffices key:∀R':RS,R'=R->af prog 97 [.pt 0 0 0 0] (aI p inp tr R []) (fun r l=>r=.pt (bj 1 (R.nf-1)) ((nth R.ak (R.nf-1)).path.length+(nth R.jp (R.nf-1)).length) ((nth R.ak (R.nf-1)).path.length-1) 0/\l=aI p inp tr R' []) from key R rfl
 intro R' u';refine aO func97 ntmps97 ?_;generalize hB:ids (aI p inp tr R [])=B;generalize hE:aI p inp tr R' []=E;refine S ?_
 (repeat' (first|refine aq fun K hK=>?_|refine am ?_|(with_reducible refine gR 2 ?_);refine dE 2 (au 0 12) mixed ?_|(refine hK _ _ ?_;clear hK K)|(refine ao ?_ ?_<;>intro hc<;>try exact jz)|(refine cE (R:=R) (R':=R) (pre:=aK p) (post:=[ax eI 1 inp,rI tr]) (pre':=aK p) (post':=[ax eI 1 inp,rI tr]) QT rfl jl jl rfl rfl aM rfl jD ?_;refine S ?_)|refine ap ?_|exact jI|(clear hK K)))
 subst hE;subst u';exact wX (R':=R') (pre':=aK p) (post':=[ax eI 1 inp,rI tr]) rfl hB [.tmp 2] aM rfl rfl (by simp only[AV.all,df,sO];rfl)
structure vk(p:ae)(R:RS):Prop where
 ok:R.Ok
 nf:1<=R.nf
 ak:R.ak.length<=1000
 pa:1<=R.aF.path.length
 gV:R.aF.path.length<=1000
 b0:0<=R.aF.pl.block
 b1:R.aF.pl.block<p.aa.nodes.length
 a0:0<=R.aF.pl.at_
 a1:R.aF.pl.at_<(ir p R.aF.pl.block).length
def PK{R:RS}(h:ka p R.st)(hok:R.Ok)(h1:1<=R.nf)(h8:R.ak.length<=1000):vk p R:=by have e:R.st.cC=R.aF:=RS.cC hok h1;have q1:=h.pa;have q2:=h.gV;have q3:=h.b0;have q4:=h.b1;have q5:=h.a0;have q6:=h.a1;rw[e]at q1 q2 q3 q4 q5 q6;exact⟨hok,h1,h8,q1,q2,q3,q4,q5,q6⟩
def N9(p:ae)(inp:PY)(tr:Int)(R:RS)(h:vk p R) :
  af prog 141 [.pt 0 0 0 0] (aI p inp tr R []) (fun r l=>r=rI (aW p R.st)/\l=aI p inp tr R []):=by
 have Qy:=h.ok.nf;have h1:=h.nf;have UT:=xK p inp tr R h.ok h.nf h.ak h.pa h.gV;have q1:=h.pa;have q2:=h.gV;have q3:=h.b0;have q4:=h.b1;have q5:=h.a0;have q6:=h.a1;have hk:R.nf-1<R.ak.length:=jB;have e0:R.aF=nth R.ak (R.nf-1):=rfl;have e1:R.st.cC=nth R.ak (R.nf-1):=RS.cC h.ok h.nf;have Rk:=tn p inp tr R R.aF.pl.block q3 jB;unfold aW ir;rw[e1];rw[e0]at q1 q2 q3 q4 q5 q6 UT Rk;unfold ir at q6;unfold aP.pl at q3 q4 q5 q6 Rk ⊢;unfold aJ at Rk;suffices key:∀R':RS,R'=R->af prog 141 [.pt 0 0 0 0] (aI p inp tr R []) (fun r l=>r=rI (nth (nth p.aa.nodes (nth (nth R.ak (R.nf-1)).path ((nth R.ak (R.nf-1)).path.length-1)).block.toNat).l (nth (nth R.ak (R.nf-1)).path ((nth R.ak (R.nf-1)).path.length-1)).at_.toNat)/\l=aI p inp tr R' []) from key R rfl
 intro R' u';refine aO func141 ntmps141 ?_;generalize hB:ids (aI p inp tr R [])=B;generalize hE:aI p inp tr R' []=E;refine S ?_
 (repeat' (first|refine aq fun K hK=>?_|refine am ?_|(with_reducible refine gR 2 ?_);refine dQ 2 mixed ?_|(refine hK _ _ ?_;clear hK K)|(refine ao ?_ ?_<;>intro hc<;>try exact jz)|(refine cE (R:=R) (R':=R) (pre:=aK p) (post:=[ax eI 1 inp,rI tr]) (pre':=aK p) (post':=[ax eI 1 inp,rI tr]) UT rfl jl jl rfl rfl aM rfl jD ?_;refine S ?_)|(refine cE (R:=R) (R':=R) (pre:=aK p) (post:=[ax eI 1 inp,rI tr]) (pre':=aK p) (post':=[ax eI 1 inp,rI tr]) Rk rfl jl jl rfl rfl aM rfl jD ?_;refine S ?_)|(refine kS (R:=R) (pre:=aK p) (post:=[ax eI 1 inp,rI tr]) Rk rfl rfl rfl aM rfl jD ?_;refine S ?_)|refine ap ?_|exact jI|(clear hK K)))
 subst hE;subst u';exact c7 (R':=R') (pre':=aK p) (post':=[ax eI 1 inp,rI tr]) rfl hB [.tmp 2] aM rfl rfl rfl
def Cz(R:RS)(h:1<=(nth R.ak (R.nf-1)).path.length)(j:Nat):(if j=R.nf-1 then Row.aG 89 2 ((List.map ej (nth R.ak (R.nf-1)).path++List.map ej (nth R.jp (R.nf-1))).set ((nth R.ak (R.nf-1)).path.length-1) (ej ⟨(nth (nth R.ak (R.nf-1)).path ((nth R.ak (R.nf-1)).path.length-1)).block,(nth (nth R.ak (R.nf-1)).path ((nth R.ak (R.nf-1)).path.length-1)).at_+1⟩))else Row.aG 89 2 (List.map ej (nth R.ak j).path++List.map ej (nth R.jp j))) =
  if j=R.nf-1 then Row.aG 89 2 (List.map ej ((nth R.ak (R.nf-1)).path.set ((nth R.ak (R.nf-1)).path.length-1) ⟨(nth (nth R.ak (R.nf-1)).path ((nth R.ak (R.nf-1)).path.length-1)).block,(nth (nth R.ak (R.nf-1)).path ((nth R.ak (R.nf-1)).path.length-1)).at_+1⟩++nth R.jp (R.nf-1)))else R.pt j:=by
 by_cases e:j=R.nf-1
 ·rw[if_pos e,if_pos e,<-List.map_append,<-List.map_set];congr 2
  exact List.set_append_left _ _ jB
 ·rw[if_neg e,if_neg e,List.map_append.symm];rfl
def r5(p:ae)(inp:PY)(tr:Int)(a:Int)(v:ai)(R:RS)(ho:gv R)(h0:0<=a)(h1:a.toNat<p.aa.nodes.length)(QH:p.ab.length=p.aa.nodes.length)(hs:gg p a->0<=nth p.ab a.toNat/\nth p.ab a.toNat<(nth R.ak (R.nf-1)).ab.length) :
  af prog 140 [.pt 0 0 0 0,rI a,.agg (bk v)] (aI p inp tr R []) (fun r l=>r=.bt []/\l=aI p inp tr (if gg p a then R.br p a v else R).on []):=by
 have Qy:=ho.ok.nf;have Rw:=ho.nf;have Rt:=ho.ak;have hk:R.nf-1<R.ak.length:=jB;have Rk:=tn p inp tr R a h0 h1;unfold aJ at Rk;have QT:=q9 p inp tr R ho.ok ho.nf ho.ak;by_cases Qr:gg p a
 ·rw[if_pos Qr];obtain⟨Tm,VN⟩:=hs Qr;have TB:gv (R.br p a v):=ho.dY rfl;obtain⟨R1,YH⟩:∃R1,R1=R.br p a v:=⟨_,rfl⟩;rw[<-YH]at TB ⊢;have RU:=xK p inp tr R1 TB.ok TB.nf TB.ak TB.pa TB.gV;rw[show R1.aF=nth R1.ak (R1.nf-1) from rfl]at RU;have Qt:R1.nf-1<R1.ak.length:=by have:=TB.ok.nf;have:=TB.nf;omega
  have g1:=TB.pa;have g2:=TB.gV;have g3:=TB.a0;have g4:=TB.a1;have g5:=TB.ok.jp;unfold aP.pl at g3 g4;have Wr:∀tl,(R.dY (R.nf-1) { nth R.ak (R.nf-1)with ab:=(nth R.ak (R.nf-1)).ab.set (nth p.ab a.toNat).toNat v }).e 141 (aK p) [ax eI 1 inp,rI tr] tl=R1.e 141 (aK p) [ax eI 1 inp,rI tr] tl:=fun tl=>by rw[YH];rfl
  have hj:∀j,(if j=R.nf-1 then Row.aG 50 3 ((List.map bk (nth R.ak (R.nf-1)).ab).set (nth p.ab a.toNat).toNat (bk v++List.drop 3 (bk (nth (nth R.ak (R.nf-1)).ab (nth p.ab a.toNat).toNat))))else Row.aG 50 3 (List.map bk (nth R.ak j).ab))=if j=R.nf-1 then .aG 50 3 (((nth R.ak (R.nf-1)).ab.set (nth p.ab a.toNat).toNat v).map bk)else R.sl j:=fun j=>by
   by_cases e:j=R.nf-1
   ·rw[if_pos e,if_pos e,List.map_set];rfl
   ·rw[if_neg e,if_neg e];rfl
  unfold gg at Qr;refine aO func140 ntmps140 ?_;generalize hB:ids (aI p inp tr R [])=B;generalize hE:aI p inp tr R1.on []=E;refine S ?_
  (have W:=Qr;repeat' (first|refine aq fun K hK=>?_|refine am ?_|(with_reducible refine gR 3 ?_);refine dC 3 ([],[18],[]) [] (au 0 16) mixed ?_|(refine hK _ _ ?_;clear hK K)|(refine ao ?_ ?_<;>intro hc<;>try exact jz)|refine bz 4 ?_|(refine cE (R:=R) (R':=R) (pre:=aK p) (post:=[ax eI 1 inp,rI tr]) (pre':=aK p) (post':=[ax eI 1 inp,rI tr]) Rk rfl jl jl rfl rfl aM rfl jD ?_;refine S ?_)|(refine kS (R:=R) (pre:=aK p) (post:=[ax eI 1 inp,rI tr]) Rk rfl rfl rfl aM rfl jD ?_;refine S ?_)|(refine cE (R:=R) (R':=R) (pre:=aK p) (post:=[ax eI 1 inp,rI tr]) (pre':=aK p) (post':=[ax eI 1 inp,rI tr]) QT rfl jl jl rfl rfl aM rfl jD ?_;refine S ?_)|(refine kS (R:=R) (pre:=aK p) (post:=[ax eI 1 inp,rI tr]) QT rfl rfl rfl aM rfl jD ?_;refine S ?_)|(refine cE (R:=R1) (R':=R1) (pre:=aK p) (post:=[ax eI 1 inp,rI tr]) (pre':=aK p) (post':=[ax eI 1 inp,rI tr]) RU (congrArg (Hp.mk B) ((RS.iq (R:=R) (k:=R.nf-1) hk (List.length_set ..) rfl hj).trans (Wr _))) jl jl rfl rfl aM rfl jD ?_;refine S ?_)|refine ap ?_|exact jI|(clear hK K)))
  subst hE;exact c7 (R':=R1.on) (pre':=aK p) (post':=[ax eI 1 inp,rI tr]) (tl:=[(4,.var 50 (bk v))]) (congrArg (Hp.mk B) (RS.lQ (R:=R1) (k:=R1.nf-1) Qt jE rfl fun j=>Cz R1 g1 j)) hB [] aM rfl rfl rfl
 ·rw[if_neg Qr];have RU:=xK p inp tr R ho.ok ho.nf ho.ak ho.pa ho.gV;rw[show R.aF=nth R.ak (R.nf-1) from rfl]at RU;have g1:=ho.pa;have g2:=ho.gV;have g3:=ho.a0;have g4:=ho.a1;have g5:=ho.ok.jp;unfold aP.pl at g3 g4;unfold gg at Qr;refine aO func140 ntmps140 ?_;generalize hB:ids (aI p inp tr R [])=B;generalize hE:aI p inp tr R.on []=E;refine S ?_
  (have W:=Qr;repeat' (first|refine aq fun K hK=>?_|refine am ?_|(with_reducible refine gR 3 ?_);refine dC 3 ([],[18],[]) [] (au 0 16) mixed ?_|(refine hK _ _ ?_;clear hK K)|(refine ao ?_ ?_<;>intro hc<;>try exact jz)|refine bz 4 ?_|(refine cE (R:=R) (R':=R) (pre:=aK p) (post:=[ax eI 1 inp,rI tr]) (pre':=aK p) (post':=[ax eI 1 inp,rI tr]) Rk rfl jl jl rfl rfl aM rfl jD ?_;refine S ?_)|(refine cE (R:=R) (R':=R) (pre:=aK p) (post:=[ax eI 1 inp,rI tr]) (pre':=aK p) (post':=[ax eI 1 inp,rI tr]) RU rfl jl jl rfl rfl aM rfl jD ?_;refine S ?_)|refine ap ?_|exact jI|(clear hK K)))
  subst hE;exact c7 (R':=R.on) (pre':=aK p) (post':=[ax eI 1 inp,rI tr]) (tl:=[(4,.var 50 (bk v))]) (congrArg (Hp.mk B) (RS.lQ (R:=R) (k:=R.nf-1) hk jE rfl fun j=>Cz R g1 j)) hB [] aM rfl rfl rfl
def Fa(p:ae)(inp:PY)(tr:Int)(v:ai)(R:RS)(h:R.Ok)(h1:1<=R.nf)(h4:R.ak.length<=1000)(ha:2<=R.nf->ka p R.pop.st) :
  af prog 95 [.pt 0 0 0 0,.agg (bk v)] (aI p inp tr R []) (fun r l=>r=.bt []/\l=aI p inp tr (R.bh p v) []):=by
 have Qy:=h.nf;have Sf:R.pop.Ok:=⟨by show R.nf-1<=R.ak.length;omega,h.jp⟩;rcases Nat.lt_or_ge R.nf 2 with h2|h2
 ·have e:R.bh p v={ R.pop with status:=2 }:=by unfold RS.bh;rw[jP]
  rw[e];have h0:R.nf-1=0:=jB;refine aO func95 ntmps95 ?_;generalize hB:ids (aI p inp tr R [])=B;generalize hE:aI p inp tr { R.pop with status:=2 } []=E;refine S ?_
  (repeat' (first|refine aq fun K hK=>?_|refine am ?_|(with_reducible refine gR 1 ?_);refine dE 1 (au 0 18) mixed ?_|(with_reducible refine gR 4 ?_);refine dQ 4 mixed ?_|(refine hK _ _ ?_;clear hK K)|(refine ao ?_ ?_<;>intro hc<;>try exact jz)|refine bz 4 ?_|refine ap ?_|exact jI|(clear hK K)))
  subst hE;exact c7 (R':={ R.pop with status:=2 }) (pre':=aK p) (post':=[ax eI 1 inp,rI tr]) rfl hB [] aM rfl rfl rfl
 ·have hA:=ha h2;have VL:=hA.n0;have Rw:=hA.n1;have QH:=hA.sl;have hn:1<=R.pop.nf:=by show 1<=R.nf-1;omega
  have QJ:=RS.cC Sf hn;have hH:=PK hA Sf hn h4;have RH:=hA.s0;have SO:=hA.pa;have Ws:=hA.gV;have Rx:=hA.a0;have Wt:=hA.uW;rw[QJ]at RH SO Ws Rx Wt;have QN:gv R.pop:=⟨Sf,hn,h4,SO,Ws,Rx,Wt⟩;have Rm:=N9 p inp tr R.pop hH;have SE:=r5 p inp tr (aW p R.pop.st) v R.pop QN VL jB QH RH;have e:R.bh p v=(if gg p (aW p R.pop.st)then R.pop.br p (aW p R.pop.st) v else R.pop).on:=by unfold RS.bh;rw[jN];split<;>rfl
  rw[<-e]at SE;have g':=ud R p v;generalize R.bh p v=Z at*;generalize aW p R.pop.st=a at*;refine aO func95 ntmps95 ?_;generalize hB:ids (aI p inp tr R [])=B;generalize hE:aI p inp tr Z []=E;refine S ?_
  (repeat' (first|refine aq fun K hK=>?_|refine am ?_|(with_reducible refine gR 1 ?_);refine dE 1 (au 0 18) mixed ?_|(with_reducible refine gR 4 ?_);refine dC 4 ([],[34],[]) [] (au 0 5) mixed ?_|(refine hK _ _ ?_;clear hK K)|(refine ao ?_ ?_<;>intro hc<;>try exact jz)|refine bz 4 ?_|(refine cE (R:=R.pop) (R':=R.pop) (pre:=aK p) (post:=[ax eI 1 inp,rI tr]) (pre':=aK p) (post':=[ax eI 1 inp,rI tr]) (tl:=[(4,.var 50 (bk v))]) Rm rfl jl jl rfl rfl aM rfl jD ?_;try refine S ?_)|(refine cE (R:=R.pop) (R':=Z) (pre:=aK p) (post:=[ax eI 1 inp,rI tr]) (pre':=aK p) (post':=[ax eI 1 inp,rI tr]) (tl:=[(4,.var 50 (bk v))]) SE rfl (Nat.le_of_eq g'.1.symm) (Nat.le_of_eq (congrArg List.length g'.2.symm)) rfl rfl aM rfl jD ?_;try refine S ?_)|(refine kS (R:=R.pop) (pre:=aK p) (post:=[ax eI 1 inp,rI tr]) (tl:=[(4,.var 50 (bk v))]) Rm rfl rfl rfl aM rfl jD ?_;try refine S ?_)|refine ap ?_|exact jI|(clear hK K)))
  subst hE;exact c7 (R':=Z) (pre':=aK p) (post':=[ax eI 1 inp,rI tr]) rfl hB [] aM rfl rfl rfl
def GD(h:bY p)(inp:PY)(tr:Int)(R:RS)(hI:cO p R) :
  af prog 60 [.pt 0 0 0 0] (aI p inp tr R []) (fun r l=>r=.bt []/\l=aI p inp tr (R.settle p) []):=by
 refine aO func60 ntmps60 ?_;generalize hB:ids (aI p inp tr R [])=B;generalize hE:aI p inp tr (R.settle p) []=E;refine S ?_
 (repeat' (first|refine aq fun K hK=>?_|refine am ?_|(with_reducible refine gR 3 ?_);refine dC 3 ([],[32],[]) [] (au 0 16) mixed ?_|(with_reducible refine gR 5 ?_);refine dQ 5 mixed ?_|(with_reducible refine gR 6 ?_);refine dE 6 (au 0 15) mixed ?_|(refine hK _ _ ?_;clear hK K)|(refine ao ?_ ?_<;>intro hc<;>try exact jz)|refine ap ?_|exact jI|(clear hK K)))
 refine de (S:=RS) [(2,61)] (fun T=>cO p T/\io p (T.left+1) T=R.settle p) (fun _=>[]) (fun T=>⟨B,aI p inp tr T []⟩) (fun T=>T.left) R ⟨hI,rfl⟩ (dc rfl bK) ?_;rintro T ⟨hT,hS⟩ Kr P9;have Qy:=hT.ok.nf;have Rt:=hT.ak;have RM:=hT.ok.jp;unfold io at hS;by_cases e0:T.status=2
 ·rw[if_pos e0]at hS;refine S ?_
  (repeat' (first|refine aq fun K hK=>?_|refine am ?_|(with_reducible refine gR 3 ?_);refine dC 3 ([],[32],[]) [] (au 0 16) mixed ?_|(with_reducible refine gR 5 ?_);refine dQ 5 mixed ?_|(with_reducible refine gR 6 ?_);refine dE 6 (au 0 15) mixed ?_|(refine hK _ _ ?_;clear hK K)|(refine ao ?_ ?_<;>intro hc<;>try exact jz)|refine ap ?_|exact jI|(clear hK K)))
  subst hE;rw[<-hS];exact c7 (R':=T) (pre':=aK p) (post':=[ax eI 1 inp,rI tr]) rfl hB [] aM rfl rfl rfl
 rw[if_neg e0]at hS;have h1:=hT.go e0;have hk:T.nf-1<T.ak.length:=jB;have QJ:=hT.fr (T.nf-1) jB;have g':=QJ.len h;have U':=QJ.f0;have XP:=QJ.f1;have Tu:T.aF=nth T.ak (T.nf-1):=rfl;have QT:=q9 p inp tr T hT.ok h1 jB;by_cases e1:T.aF.path.length=0
 ·rw[if_pos e1]at hS;rw[Tu]at e1 hS;have XQ:=Fa p inp tr (vZ (nth p.aa.av (nth T.ak (T.nf-1)).fn.toNat).ret) T hT.ok h1 jB (hT.at_ h);obtain⟨g1,g2,_⟩:=hT.bh h1 (vZ (nth p.aa.av (nth T.ak (T.nf-1)).fn.toNat).ret);have P':=ud T p (vZ (nth p.aa.av (nth T.ak (T.nf-1)).fn.toNat).ret);have Sg:T.ak.length<=(T.bh p (vZ (nth p.aa.av (nth T.ak (T.nf-1)).fn.toNat).ret)).ak.length:=by rw[P'.1];exact Nat.le_refl _
  have T4:T.heap.length<=(T.bh p (vZ (nth p.aa.av (nth T.ak (T.nf-1)).fn.toNat).ret)).heap.length:=by rw[P'.2];exact Nat.le_refl _
  generalize T.bh p (vZ (nth p.aa.av (nth T.ak (T.nf-1)).fn.toNat).ret)=T' at*;refine S ?_
  (repeat' (first|refine aq fun K hK=>?_|refine am ?_|(with_reducible refine gR 3 ?_);refine dC 3 ([],[32],[]) [] (au 0 16) mixed ?_|(with_reducible refine gR 5 ?_);refine dQ 5 mixed ?_|(with_reducible refine gR 6 ?_);refine dE 6 (au 0 15) mixed ?_|(refine hK _ _ ?_;clear hK K)|(refine ao ?_ ?_<;>intro hc<;>try exact jz)|(refine cE (R:=T) (R':=T) (pre:=aK p) (post:=[ax eI 1 inp,rI tr]) (pre':=aK p) (post':=[ax eI 1 inp,rI tr]) QT rfl jl jl rfl rfl aM rfl jD ?_;try refine S ?_)|(refine kS (R:=T) (pre:=aK p) (post:=[ax eI 1 inp,rI tr]) QT rfl rfl rfl aM rfl jD ?_;try refine S ?_)|(refine cE (R:=T) (R':=T') (pre:=aK p) (post:=[ax eI 1 inp,rI tr]) (pre':=aK p) (post':=[ax eI 1 inp,rI tr]) XQ rfl Sg T4 rfl rfl aM rfl jD ?_;try refine S ?_)|refine cq (Ad _) ?_|(refine P9 _ _ (dI T' ⟨g1,?_⟩ g2 gT bK))|refine ap ?_|exact jI|(clear hK K)))
  exact(th _ _ _ g1 jB jB).trans hS
 ·rw[if_neg e1]at hS;have RU:=QJ.pl _ (uM (f:=nth T.ak (T.nf-1)) fun e=>e1 (by rw[Tu,e];rfl));have Ra:=RU.in_ h U' XP;have UA:=RU.b0;have Rx:=RU.a0;rw[Tu]at e1 hS;have e1':1<=(nth T.ak (T.nf-1)).path.length:=jB;have UT:=xK p inp tr T hT.ok h1 jB (by rw[Tu];exact e1') (by rw[Tu];omega);rw[Tu]at UT;have Rk:=tn p inp tr T (nth T.ak (T.nf-1)).pl.block UA jB;unfold aJ aP.pl at Rk;by_cases e2:(nth T.ak (T.nf-1)).pl.at_<(ir p (nth T.ak (T.nf-1)).pl.block).length
  ·rw[if_pos e2]at hS;unfold ir aP.pl at e2;unfold aP.pl at Ra UA Rx;refine S ?_
   (repeat' (first|refine aq fun K hK=>?_|refine am ?_|(with_reducible refine gR 3 ?_);refine dC 3 ([],[32],[]) [] (au 0 16) mixed ?_|(with_reducible refine gR 5 ?_);refine dQ 5 mixed ?_|(with_reducible refine gR 6 ?_);refine dE 6 (au 0 15) mixed ?_|(refine hK _ _ ?_;clear hK K)|(refine ao ?_ ?_<;>intro hc<;>try exact jz)|(refine cE (R:=T) (R':=T) (pre:=aK p) (post:=[ax eI 1 inp,rI tr]) (pre':=aK p) (post':=[ax eI 1 inp,rI tr]) QT rfl jl jl rfl rfl aM rfl jD ?_;try refine S ?_)|(refine kS (R:=T) (pre:=aK p) (post:=[ax eI 1 inp,rI tr]) QT rfl rfl rfl aM rfl jD ?_;try refine S ?_)|(refine cE (R:=T) (R':=T) (pre:=aK p) (post:=[ax eI 1 inp,rI tr]) (pre':=aK p) (post':=[ax eI 1 inp,rI tr]) UT rfl jl jl rfl rfl aM rfl jD ?_;try refine S ?_)|(refine kS (R:=T) (pre:=aK p) (post:=[ax eI 1 inp,rI tr]) UT rfl rfl rfl aM rfl jD ?_;try refine S ?_)|(refine cE (R:=T) (R':=T) (pre:=aK p) (post:=[ax eI 1 inp,rI tr]) (pre':=aK p) (post':=[ax eI 1 inp,rI tr]) Rk rfl jl jl rfl rfl aM rfl jD ?_;try refine S ?_)|(refine kS (R:=T) (pre:=aK p) (post:=[ax eI 1 inp,rI tr]) Rk rfl rfl rfl aM rfl jD ?_;try refine S ?_)|refine ap ?_|exact jI|(clear hK K)))
   subst hE;rw[<-hS];exact c7 (R':=T) (pre':=aK p) (post':=[ax eI 1 inp,rI tr]) rfl hB [] aM rfl rfl rfl
  ·rw[if_neg e2]at hS;obtain⟨g1,g2⟩:=hT.cut h1 (by rw[Tu];exact e1);unfold ir aP.pl at e2;unfold aP.pl at Ra UA Rx;refine S ?_
   (repeat' (first|refine aq fun K hK=>?_|refine am ?_|(with_reducible refine gR 3 ?_);refine dC 3 ([],[32],[]) [] (au 0 16) mixed ?_|(with_reducible refine gR 5 ?_);refine dQ 5 mixed ?_|(with_reducible refine gR 6 ?_);refine dE 6 (au 0 15) mixed ?_|(refine hK _ _ ?_;clear hK K)|(refine ao ?_ ?_<;>intro hc<;>try exact jz)|(refine cE (R:=T) (R':=T) (pre:=aK p) (post:=[ax eI 1 inp,rI tr]) (pre':=aK p) (post':=[ax eI 1 inp,rI tr]) QT rfl jl jl rfl rfl aM rfl jD ?_;try refine S ?_)|(refine kS (R:=T) (pre:=aK p) (post:=[ax eI 1 inp,rI tr]) QT rfl rfl rfl aM rfl jD ?_;try refine S ?_)|(refine cE (R:=T) (R':=T) (pre:=aK p) (post:=[ax eI 1 inp,rI tr]) (pre':=aK p) (post':=[ax eI 1 inp,rI tr]) UT rfl jl jl rfl rfl aM rfl jD ?_;try refine S ?_)|(refine kS (R:=T) (pre:=aK p) (post:=[ax eI 1 inp,rI tr]) UT rfl rfl rfl aM rfl jD ?_;try refine S ?_)|(refine cE (R:=T) (R':=T) (pre:=aK p) (post:=[ax eI 1 inp,rI tr]) (pre':=aK p) (post':=[ax eI 1 inp,rI tr]) Rk rfl jl jl rfl rfl aM rfl jD ?_;try refine S ?_)|(refine kS (R:=T) (pre:=aK p) (post:=[ax eI 1 inp,rI tr]) Rk rfl rfl rfl aM rfl jD ?_;try refine S ?_)|refine ap ?_|exact jI|(clear hK K)))
   all_goals
    refine P9 _ _ (dI T.cut ⟨g1,?_⟩ (by show T.cut.left<T.left;omega) (congrArg (Hp.mk B) (RS.qx (tl:=[]) hk RM e1 rfl fun j=>rfl)) bK);exact(th _ _ _ g1 jB jB).trans hS
def pD(h:bY p)(inp:PY)(tr:Int)(R:RS)(hok:R.Ok)(h1:1<=R.nf)(h8:R.ak.length<=1000)(hh:R.heap.length<=1000000)(a:Int)(h0:0<=a)(hl:a.toNat<p.aa.nodes.length)(hk:cr (bJ p.aa.nodes a)) :
  af prog 248 [.pt 0 0 0 0,rI a] (aI p inp tr R []) (fun r l=>r=.bt [rV (R.val p a).1,rB (decide ((R.val p a).2=0))]/\l=aI p inp (R.val p a).2 R []):=by
 have Qy:=hok.nf;have hx:=OO h.ok R.aF.ab R.heap hh p.aa.nodes.length a h0 jB jB hk;have RK:R.nf-1<R.ak.length:=jB;have QT:=q9 p inp tr R hok h1 h8;change aA _ _ _ (.bt [rV (R.val p a).1,rI (R.val p a).2])at hx
 generalize R.val p a=X at hx ⊢;suffices key:∀R':RS,R'=R->af prog 248 [.pt 0 0 0 0,rI a] (aI p inp tr R []) (fun r l=>r=.bt [rV X.1,rB (decide (X.2=0))]/\l=aI p inp X.2 R' []) from key R rfl
 intro R' u';refine aO func248 ntmps248 ?_;generalize hB:ids (aI p inp tr R [])=B;generalize hE:aI p inp X.2 R' []=E;refine S ?_
 (repeat' (first|refine aq fun K hK=>?_|refine am ?_|(with_reducible refine gR 1 ?_);refine dC 1 ([],[],[15,24]) [19] [0,1,2,3,4,5,10,11,12,13,14,6,7,8,9,15,16,17,18,19,20,21] mixed ?_|(refine hK _ _ ?_;clear hK K)|(refine ao ?_ ?_<;>intro hc<;>try exact jz)|refine bf 4 ?_|refine bf 5 ?_|(refine IF (R:=R) (pre:=aK p) (post:=[ax eI 1 inp,rI tr]) QT rfl rfl rfl aM rfl jD ?_;try refine S ?_)|(refine Mg (args':=[rP p,rI a,kq R.aF.ab,kP R.heap]) hx (show bc _ ⟨B,aI p inp tr R _⟩ _ _ from⟨.same _ rfl,.same _ rfl,RS.iy RK (fun _=>rfl) rfl,RS.kZ (fun _=>rfl),trivial⟩) rfl jD ?_;try refine S ?_)|refine ap ?_|exact jI|(clear hK K)))
 subst hE;subst u';exact c7 (R':=R') (pre':=aK p) (post':=[ax eI 1 inp,rI X.2]) rfl hB [.cell 4 50,.tmp 5] aM rfl rfl rfl
def qu(p:ae)(inp:PY)(tr:Int)(R:RS)(ok:Bool)(t:Int) :
  af prog 251 [.pt 0 0 0 0,rB ok,rI t] (aI p inp tr R []) (fun r l=>r=rB ok/\l=aI p inp (if ok=true then tr else t) R []):=by
 suffices key:∀R':RS,R'=R->af prog 251 [.pt 0 0 0 0,rB ok,rI t] (aI p inp tr R []) (fun r l=>r=rB ok/\l=aI p inp (if ok=true then tr else t) R' []) from key R rfl
 intro R' u';cases ok;all_goals
  first|rw[if_pos rfl]|rw[if_neg jC]
  refine aO func251 ntmps251 ?_;generalize hB:ids (aI p inp tr R [])=B;first|generalize hE:aI p inp tr R' []=E|generalize hE:aI p inp t R' []=E
  refine S ?_
  (repeat' (first|refine aq fun K hK=>?_|refine am ?_|(refine hK _ _ ?_;clear hK K)|(refine ao ?_ ?_<;>intro hc<;>try exact jz)|refine ap ?_|exact jI|(clear hK K)))
  subst hE;subst u';first|exact c7 (R':=R') (pre':=aK p) (post':=[ax eI 1 inp,rI tr]) rfl hB [.tmp 6] aM rfl rfl rfl|exact c7 (R':=R') (pre':=aK p) (post':=[ax eI 1 inp,rI t]) rfl hB [.tmp 6] aM rfl rfl rfl
def Ie(h:bY p)(inp:PY)(R:RS)(hd:bo p R)(hk:(aJ p (aW p R.st)).kind=16)(hb:∀x,(R.val p x).2=0->x=nth (aJ p (aW p R.st)).l 0->(R.val p x).1.n=0\/(R.val p x).1.n=1)(R':RS)(tr:Int)(u':(R',tr)=R.bF p (aW p R.st) inp) :
  af prog 242 [.pt 0 0 0 0,.agg (bX (aJ p (aW p R.st))),rI (aW p R.st)] (aI p inp 0 R []) (fun r l=>r=.bt []/\l=aI p inp tr R' []):=by
 have hok:=hd.inv.ok;have Qy:=hok.nf;have h1:=hd.one;have Rt:=hd.inv.ak;have Qi:=gX R.heap;have Rv:=hd.cells;have J':=hd.fy h;obtain⟨s0,s1,s2,s3,s4,s5⟩:=hd.stmt h;have QH:=J'.sl;have QN:=hd.gr h;have UD:=hd.iC;have SO:=J'.gV;rw[UD]at SO;have RM:=hd.jp (R.nf-1) jB;have TF:(nth R.jp (R.nf-1)).length=0:=by rw[RM];rfl
 have RK:R.nf-1<R.ak.length:=jB;have RU:(nth R.ak (R.nf-1)).path.length<=1000:=SO;generalize aW p R.st=a at*;have O':(nth p.aa.nodes a.toNat).kind=16:=hk;unfold RS.bF at u';simp only[hk]at u';rw[jN,jN,jN,jN]at u';obtain⟨x,y,Qa,Sz,XX⟩:=(h.ok.aa.shape a.toNat s1).1.dH O';have UU:=(h.ok.aa.shape a.toNat s1).2.1 x (by rw[Qa];simp);have Qc:nth (nth p.aa.nodes a.toNat).l 0=x:=by rw[Qa];rfl
 have Rg:nth (nth p.aa.nodes a.toNat).l 1=y:=by rw[Qa];rfl
 have Qj:(nth p.aa.nodes a.toNat).l.length=2:=by rw[Qa];rfl
 have QB:=pD h inp 0 R hok h1 jB jB x UU.1 jB Sz;have VI:=hb x;rw[show nth (aJ p a).l 0=x from Qc]at VI u';rw[show nth (aJ p a).l 1=y from Rg]at u';have Qr:¬gg p a:=fun e=>by unfold gg at e;omega
 have S5:=r5 p inp 0 a (R.val p x).1 R QN s0 s1 QH (fun e=>(Qr e).elim);rw[if_neg Qr]at S5;have QT:=q9 p inp 0 R hok h1 jB;unfold aJ;generalize R.val p x=X at*;clear hb;by_cases hz:X.2=0
 rotate_left
 ·rw[if_pos hz]at u';obtain⟨rfl,rfl⟩:=Prod.mk.inj u';have Rq:=eq_false hz;suffices key2:∀R2:RS,R2=R'->af prog 242 [.pt 0 0 0 0,.agg (bX (nth p.aa.nodes a.toNat)),rI a] (aI p inp 0 R' []) (fun r l=>r=.bt []/\l=aI p inp X.2 R2 []) from key2 R' rfl
  intro R2 Q9;refine aO func242 ntmps242 ?_;generalize hB:ids (aI p inp 0 R' [])=B;generalize hE:aI p inp X.2 R2 []=E;refine S ?_
  (have W:=jA O' (jA Qj (jA Qc (Rq)));repeat' (first|refine aq fun K hK=>?_|refine am ?_|(with_reducible refine gR 10 ?_);refine dE 10 (au 0 16) mixed ?_|(refine hK _ _ ?_;clear hK K)|(refine ao ?_ ?_<;>intro hc<;>try exact jz)|refine bz 4 ?_|refine bf 5 ?_|(refine cE (R:=R') (R':=R') (pre:=aK p) (post:=[ax eI 1 inp,rI 0]) (pre':=aK p) (post':=[ax eI 1 inp,rI X.2]) QB rfl jl jl rfl rfl aM rfl jD ?_;try refine S ?_)|refine ap ?_|exact jI|(clear hK K)))
  subst hE;subst Q9;exact c7 (R':=R2) (pre':=aK p) (post':=[ax eI 1 inp,rI X.2]) rfl hB [] aM rfl rfl rfl
 rw[if_neg (fun e=>e hz),jN,jN,if_pos trivial]at u';rw[hz]at QB;rcases VI hz rfl with hn|hn
 ·rw[jN]at u';obtain⟨rfl,rfl⟩:=Prod.mk.inj u';refine aO func242 ntmps242 ?_;generalize hB:ids (aI p inp 0 R [])=B;generalize hE:aI p inp 0 R.on []=E;refine S ?_
  (have W:=jA O' (jA Qj (jA Qc (hn)));repeat' (first|refine aq fun K hK=>?_|refine am ?_|(with_reducible refine gR 10 ?_);refine dE 10 (au 0 16) mixed ?_|(refine hK _ _ ?_;clear hK K)|(refine ao ?_ ?_<;>intro hc<;>try exact jz)|refine bz 4 ?_|refine bf 5 ?_|(refine cE (R:=R) (R':=R) (pre:=aK p) (post:=[ax eI 1 inp,rI 0]) (pre':=aK p) (post':=[ax eI 1 inp,rI 0]) QB rfl jl jl rfl rfl aM rfl jD ?_;try refine S ?_)|(refine cE (R:=R) (R':=R.on) (pre:=aK p) (post:=[ax eI 1 inp,rI 0]) (pre':=aK p) (post':=[ax eI 1 inp,rI 0]) S5 rfl (Nat.le_of_eq RS.aT) jl rfl rfl aM rfl jD ?_;try refine S ?_)|refine ap ?_|exact jI|(clear hK K)))
  subst hE;exact c7 (R':=R.on) (pre':=aK p) (post':=[ax eI 1 inp,rI 0]) rfl hB [] aM rfl rfl rfl
 ·rw[if_pos hn]at u';obtain⟨rfl,rfl⟩:=Prod.mk.inj u';refine aO func242 ntmps242 ?_;generalize hB:ids (aI p inp 0 R [])=B;generalize hE:aI p inp 0 (R.aZ y) []=E;refine S ?_
  (have W:=jA O' (jA Qj (jA Qc (jA Rg (jA hn (jA RM (TF))))));repeat' (first|refine aq fun K hK=>?_|refine am ?_|(with_reducible refine gR 10 ?_);refine dE 10 (au 0 16) mixed ?_|(refine hK _ _ ?_;clear hK K)|(refine ao ?_ ?_<;>intro hc<;>try exact jz)|refine bz 4 ?_|refine bf 5 ?_|(refine cE (R:=R) (R':=R) (pre:=aK p) (post:=[ax eI 1 inp,rI 0]) (pre':=aK p) (post':=[ax eI 1 inp,rI 0]) QB rfl jl jl rfl rfl aM rfl jD ?_;try refine S ?_)|(refine cE (R:=R) (R':=R) (pre:=aK p) (post:=[ax eI 1 inp,rI 0]) (pre':=aK p) (post':=[ax eI 1 inp,rI 0]) QT rfl jl jl rfl rfl aM rfl jD ?_;try refine S ?_)|refine ap ?_|exact jI|(clear hK K)))
  subst hE;refine c7 (R':=R.aZ y) (pre':=aK p) (post':=[ax eI 1 inp,rI 0]) (tl:=[(4,.var 78 (bX (nth p.aa.nodes a.toNat))),(5,.var 50 (bk X.1))]) (congrArg (Hp.mk B) (RS.gn (x:=⟨y,0⟩) RK RM rfl (fun j=>rfl) fun j=>?_)) hB [] aM rfl rfl rfl;by_cases e:j=R.nf-1
  ·rw[if_pos e,if_pos e,List.map_append];rfl
  ·rw[if_neg e,if_neg e];unfold RS.pt;rw[List.map_append]
def Jg(h:bY p)(inp:PY)(R:RS)(hd:bo p R)(hk:(aJ p (aW p R.st)).kind=15)(hb:∀x,(R.val p x).2=0->x=nth (aJ p (aW p R.st)).l 0->(R.val p x).1.n=0\/(R.val p x).1.n=1)(R':RS)(tr:Int)(u':(R',tr)=R.bF p (aW p R.st) inp) :
  af prog 242 [.pt 0 0 0 0,.agg (bX (aJ p (aW p R.st))),rI (aW p R.st)] (aI p inp 0 R []) (fun r l=>r=.bt []/\l=aI p inp tr R' []):=by
 have hok:=hd.inv.ok;have Qy:=hok.nf;have h1:=hd.one;have Rt:=hd.inv.ak;have Qi:=gX R.heap;have Rv:=hd.cells;have J':=hd.fy h;obtain⟨s0,s1,s2,s3,s4,s5⟩:=hd.stmt h;have QH:=J'.sl;have QN:=hd.gr h;have UD:=hd.iC;have SO:=J'.gV;rw[UD]at SO;have RM:=hd.jp (R.nf-1) jB;have TF:(nth R.jp (R.nf-1)).length=0:=by rw[RM];rfl
 have RK:R.nf-1<R.ak.length:=jB;have RU:(nth R.ak (R.nf-1)).path.length<=1000:=SO;generalize aW p R.st=a at*;have O':(nth p.aa.nodes a.toNat).kind=15:=hk;unfold RS.bF at u';simp only[hk]at u';rw[jN,jN,jN,jN]at u';obtain⟨x,y,Sz,XX,W6⟩:=(h.ok.aa.shape a.toNat s1).1.jM O';have Qc:nth (nth p.aa.nodes a.toNat).l 0=x:=by rcases W6 with e|⟨d,e,_⟩<;>(rw[e];rfl)
 have Rg:nth (nth p.aa.nodes a.toNat).l 1=y:=by rcases W6 with e|⟨d,e,_⟩<;>(rw[e];rfl)
 have XY:2<=(nth p.aa.nodes a.toNat).l.length/\(nth p.aa.nodes a.toNat).l.length<=3:=by rcases W6 with e|⟨d,e,_⟩<;>(rw[e];simp)
 have UU:=(h.ok.aa.shape a.toNat s1).2.1 x (by rcases W6 with e|⟨d,e,_⟩<;>(rw[e];simp));have QB:=pD h inp 0 R hok h1 jB jB x UU.1 jB Sz;have VI:=hb x;rw[show nth (aJ p a).l 0=x from Qc]at VI u';rw[show nth (aJ p a).l 1=y from Rg]at u';have Qr:¬gg p a:=fun e=>by unfold gg at e;omega
 have S5:=r5 p inp 0 a (R.val p x).1 R QN s0 s1 QH (fun e=>(Qr e).elim);rw[if_neg Qr]at S5;have g':R.on.ak.length=R.ak.length:=RS.aT.symm;have QJ:R.on.aF=nN R.aF:=RS.gq hok h1 _;have Wu:R.on.Ok:=⟨by show R.nf<=R.on.ak.length;omega,by show R.jp.length=R.on.ak.length;rw[g'];exact hok.jp⟩;have QT:=q9 p inp 0 R.on Wu h1 jB;have Wv:R.on.aF.path.length<=1000:=by rw[QJ];show(R.aF.path.set _ _).length<=1000;rw[List.length_set];exact SO
 have X4:R.on.nf=R.nf:=rfl;have TC:nth R.on.jp (R.on.nf-1)=[]:=RM;have X5:1<=R.on.nf:=h1;have QC:R.ak.length<=R.on.ak.length:=Nat.le_of_eq g'.symm;unfold aJ at*;generalize R.val p x=X at*;clear hb;by_cases hz:X.2=0
 rotate_left
 ·rw[if_pos hz]at u';obtain⟨rfl,rfl⟩:=Prod.mk.inj u';have Rq:=eq_false hz;clear g' QJ Wu QT Wv X4 TC X5 QC S5;suffices key2:∀R2:RS,R2=R'->af prog 242 [.pt 0 0 0 0,.agg (bX (nth p.aa.nodes a.toNat)),rI a] (aI p inp 0 R' []) (fun r l=>r=.bt []/\l=aI p inp X.2 R2 []) from key2 R' rfl
  intro R2 Q9;refine aO func242 ntmps242 ?_;generalize hB:ids (aI p inp 0 R' [])=B;generalize hE:aI p inp X.2 R2 []=E;refine S ?_
  (have W:=jA O' (jA Qc (Rq));repeat' (first|refine aq fun K hK=>?_|refine am ?_|(with_reducible refine gR 10 ?_);refine dE 10 (au 0 16) mixed ?_|(refine hK _ _ ?_;clear hK K)|(refine ao ?_ ?_<;>intro hc<;>try exact jz)|refine bz 4 ?_|refine bf 5 ?_|(refine cE (R:=R') (R':=R') (pre:=aK p) (post:=[ax eI 1 inp,rI 0]) (pre':=aK p) (post':=[ax eI 1 inp,rI X.2]) QB rfl jl jl rfl rfl aM rfl jD ?_;try refine S ?_)|refine ap ?_|exact jI|(clear hK K)))
  subst hE;subst Q9;exact c7 (R':=R2) (pre':=aK p) (post':=[ax eI 1 inp,rI X.2]) rfl hB [] aM rfl rfl rfl
 rw[if_neg (fun e=>e hz),jN,if_pos trivial]at u';rw[hz]at QB;have Ww:∀b:Int,∀j,(if j=R.on.nf-1 then Row.aG 89 2 (List.map ej (nth R.on.ak (R.on.nf-1)).path++[ej ⟨b,0⟩])else Row.aG 89 2 (List.map ej (nth R.on.ak j).path++List.map ej (nth R.on.jp j)))=if j=R.on.nf-1 then .aG 89 2 (((nth R.on.ak (R.on.nf-1)).path++[(⟨b,0⟩:cU)]).map ej)else R.on.pt j:=fun b j=>by
  by_cases e:j=R.on.nf-1
  ·rw[if_pos e,if_pos e,List.map_append];rfl
  ·rw[if_neg e,if_neg e];unfold RS.pt;rw[List.map_append]
 have Wx:∀b,R.on.aZ b=R.on.dY (R.on.nf-1) { nth R.on.ak (R.on.nf-1)with path:=(nth R.on.ak (R.on.nf-1)).path++[⟨b,0⟩] }:=fun b=>rfl
 have hpl2:(nth R.on.ak (R.on.nf-1)).path.length<=1000:=Wv;have Wy:(nth R.on.jp (R.on.nf-1)).length=0:=by rw[TC];rfl
 have Wz:R.on.nf-1<R.on.ak.length:=by rw[g'];exact RK
 have hfr1:R.on.ak.length<=8:=by rw[g'];exact Rt
 have Q4:R.heap.length<=R.on.heap.length:=Nat.le_refl _;generalize R.on=R1 at*;clear QN hok RM;rcases VI hz rfl with hn|hn
 ·rw[jN]at u';by_cases h3:(nth p.aa.nodes a.toNat).l.length=3
  ·rw[if_pos h3]at u';obtain⟨rfl,rfl⟩:=Prod.mk.inj u';generalize hw:nth (nth p.aa.nodes a.toNat).l 2=w at*;rw[Wx];refine aO func242 ntmps242 ?_;generalize hB:ids (aI p inp 0 R [])=B;generalize hE:aI p inp 0 (R1.dY (R1.nf-1) { nth R1.ak (R1.nf-1)with path:=(nth R1.ak (R1.nf-1)).path++[⟨w,0⟩] }) []=E;refine S ?_
   (have W:=jA O' (jA h3 (jA Qc (jA hw (jA hn (jA TC (Wy))))));repeat' (first|refine aq fun K hK=>?_|refine am ?_|(with_reducible refine gR 10 ?_);refine dE 10 (au 0 16) mixed ?_|(refine hK _ _ ?_;clear hK K)|(refine ao ?_ ?_<;>intro hc<;>try exact jz)|refine bz 4 ?_|refine bf 5 ?_|(refine cE (R:=R) (R':=R) (pre:=aK p) (post:=[ax eI 1 inp,rI 0]) (pre':=aK p) (post':=[ax eI 1 inp,rI 0]) QB rfl jl jl rfl rfl aM rfl jD ?_;try refine S ?_)|(refine cE (R:=R) (R':=R1) (pre:=aK p) (post:=[ax eI 1 inp,rI 0]) (pre':=aK p) (post':=[ax eI 1 inp,rI 0]) S5 rfl QC Q4 rfl rfl aM rfl jD ?_;try refine S ?_)|(refine cE (R:=R1) (R':=R1) (pre:=aK p) (post:=[ax eI 1 inp,rI 0]) (pre':=aK p) (post':=[ax eI 1 inp,rI 0]) QT rfl jl jl rfl rfl aM rfl jD ?_;try refine S ?_)|refine ap ?_|exact jI|(clear hK K)))
   subst hE;exact c7 (R':=R1.dY (R1.nf-1) { nth R1.ak (R1.nf-1)with path:=(nth R1.ak (R1.nf-1)).path++[⟨w,0⟩] }) (pre':=aK p) (post':=[ax eI 1 inp,rI 0]) (tl:=[(4,.var 78 (bX (nth p.aa.nodes a.toNat))),(5,.var 50 (bk X.1))]) (congrArg (Hp.mk B) (RS.gn (x:=⟨w,0⟩) Wz TC rfl (fun j=>rfl) (Ww w))) hB [] aM rfl rfl rfl
  ·rw[if_neg h3]at u';rw[(Prod.mk.inj u').1,(Prod.mk.inj u').2];have h2:(nth p.aa.nodes a.toNat).l.length=2:=jB;refine aO func242 ntmps242 ?_;generalize hB:ids (aI p inp 0 R [])=B;generalize hE:aI p inp 0 (R1) []=E;refine S ?_
   (have W:=jA O' (jA h2 (jA Qc (hn)));repeat' (first|refine aq fun K hK=>?_|refine am ?_|(with_reducible refine gR 10 ?_);refine dE 10 (au 0 16) mixed ?_|(refine hK _ _ ?_;clear hK K)|(refine ao ?_ ?_<;>intro hc<;>try exact jz)|refine bz 4 ?_|refine bf 5 ?_|(refine cE (R:=R) (R':=R) (pre:=aK p) (post:=[ax eI 1 inp,rI 0]) (pre':=aK p) (post':=[ax eI 1 inp,rI 0]) QB rfl jl jl rfl rfl aM rfl jD ?_;try refine S ?_)|(refine cE (R:=R) (R':=R1) (pre:=aK p) (post:=[ax eI 1 inp,rI 0]) (pre':=aK p) (post':=[ax eI 1 inp,rI 0]) S5 rfl QC Q4 rfl rfl aM rfl jD ?_;try refine S ?_)|refine ap ?_|exact jI|(clear hK K)))
   subst hE;exact c7 (R':=R1) (pre':=aK p) (post':=[ax eI 1 inp,rI 0]) rfl hB [] aM rfl rfl rfl
 ·rw[if_pos hn]at u';obtain⟨rfl,rfl⟩:=Prod.mk.inj u';generalize hw:y=w at*;have hw:=Rg;rw[Wx];refine aO func242 ntmps242 ?_;generalize hB:ids (aI p inp 0 R [])=B;generalize hE:aI p inp 0 (R1.dY (R1.nf-1) { nth R1.ak (R1.nf-1)with path:=(nth R1.ak (R1.nf-1)).path++[⟨w,0⟩] }) []=E;refine S ?_
  (have W:=jA O' (jA Qc (jA hw (jA hn (jA TC (Wy)))));repeat' (first|refine aq fun K hK=>?_|refine am ?_|(with_reducible refine gR 10 ?_);refine dE 10 (au 0 16) mixed ?_|(refine hK _ _ ?_;clear hK K)|(refine ao ?_ ?_<;>intro hc<;>try exact jz)|refine bz 4 ?_|refine bf 5 ?_|(refine cE (R:=R) (R':=R) (pre:=aK p) (post:=[ax eI 1 inp,rI 0]) (pre':=aK p) (post':=[ax eI 1 inp,rI 0]) QB rfl jl jl rfl rfl aM rfl jD ?_;try refine S ?_)|(refine cE (R:=R) (R':=R1) (pre:=aK p) (post:=[ax eI 1 inp,rI 0]) (pre':=aK p) (post':=[ax eI 1 inp,rI 0]) S5 rfl QC Q4 rfl rfl aM rfl jD ?_;try refine S ?_)|(refine cE (R:=R1) (R':=R1) (pre:=aK p) (post:=[ax eI 1 inp,rI 0]) (pre':=aK p) (post':=[ax eI 1 inp,rI 0]) QT rfl jl jl rfl rfl aM rfl jD ?_;try refine S ?_)|refine ap ?_|exact jI|(clear hK K)))
  subst hE;exact c7 (R':=R1.dY (R1.nf-1) { nth R1.ak (R1.nf-1)with path:=(nth R1.ak (R1.nf-1)).path++[⟨w,0⟩] }) (pre':=aK p) (post':=[ax eI 1 inp,rI 0]) (tl:=[(4,.var 78 (bX (nth p.aa.nodes a.toNat))),(5,.var 50 (bk X.1))]) (congrArg (Hp.mk B) (RS.gn (x:=⟨w,0⟩) Wz TC rfl (fun j=>rfl) (Ww w))) hB [] aM rfl rfl rfl
def La(h:bY p)(inp:PY)(R:RS)(hd:bo p R)(hk:(aJ p (aW p R.st)).kind=17)(R':RS)(tr:Int)(u':(R',tr)=R.bF p (aW p R.st) inp) :
  af prog 243 [.pt 0 0 0 0,.agg (bX (aJ p (aW p R.st))),rI (aW p R.st)] (aI p inp 0 R []) (fun r l=>r=.bt []/\l=aI p inp tr R' []):=by
 have hok:=hd.inv.ok;have Qy:=hok.nf;have h1:=hd.one;have Rt:=hd.inv.ak;have Qi:=gX R.heap;have Rv:=hd.cells;obtain⟨s0,s1,s2,s3,s4,s5⟩:=hd.stmt h;generalize aW p R.st=a at*;have O':(nth p.aa.nodes a.toNat).kind=17:=hk;have RL:∀v,af prog 95 [.pt 0 0 0 0,.agg (bk v)] (aI p inp 0 R []) (fun r l=>r=.bt []/\l=aI p inp 0 (R.bh p v) []):=fun v=>Fa p inp 0 v R hok h1 jB (hd.inv.at_ h)
 have g':=fun v=>ud R p v
 unfold RS.bF at u';simp only[hk]at u';rw[jN,jN,jN,if_pos trivial]at u';unfold aJ at*;rcases(h.ok.aa.shape a.toNat s1).1.ret O' with Qa|⟨x,Qa,Sz⟩
 ·have Qj:(nth p.aa.nodes a.toNat).l.length=0:=by rw[Qa];rfl
  rw[if_pos Qj]at u';rw[(Prod.mk.inj u').1,(Prod.mk.inj u').2];clear u';have ht:=RL v0;have QC:=g' v0;generalize R.bh p v0=Z at*;refine aO func243 ntmps243 ?_;generalize hB:ids (aI p inp 0 R [])=B;generalize hE:aI p inp 0 Z []=E;refine S ?_
  (have W:=Qj;repeat' (first|refine aq fun K hK=>?_|refine am ?_|(refine hK _ _ ?_;clear hK K)|(refine ao ?_ ?_<;>intro hc<;>try exact jz)|refine bz 4 ?_|refine bf 5 ?_|refine ap ?_|exact jI|(clear hK K)))
  have M':=hK;clear hK;refine de (S:=Unit) [(8,3),(14,14)] (fun _=>True) (fun _=>[(14,rI 0)]) (fun _=>⟨B,aI p inp 0 R [(4,.var 78 (bX (nth p.aa.nodes a.toNat))),(5,.var 50 (bk v0))]⟩) (fun _=>0) () trivial (dc rfl bK) ?_;rintro _ _ Kr P9;refine S ?_
  (have W:=Qj;repeat' (first|refine aq fun K hK=>?_|refine am ?_|(refine hK _ _ ?_;clear hK K)|(refine ao ?_ ?_<;>intro hc<;>try exact jz)|(refine cE (R:=R) (R':=Z) (pre:=aK p) (post:=[ax eI 1 inp,rI 0]) (pre':=aK p) (post':=[ax eI 1 inp,rI 0]) ht rfl (Nat.le_of_eq QC.1.symm) (Nat.le_of_eq (congrArg List.length QC.2.symm)) rfl rfl aM rfl jD ?_;try refine S ?_)|refine M' _ _ ?_|refine ap ?_|exact jI|(clear hK K)))
  subst hE;exact c7 (R':=Z) (pre':=aK p) (post':=[ax eI 1 inp,rI 0]) rfl hB [] aM rfl rfl rfl
 ·have Qj:(nth p.aa.nodes a.toNat).l.length=1:=by rw[Qa];rfl
  have Qc:nth (nth p.aa.nodes a.toNat).l 0=x:=by rw[Qa];rfl
  have UU:=(h.ok.aa.shape a.toNat s1).2.1 x (by rw[Qa];simp);have QB:=pD h inp 0 R hok h1 jB jB x UU.1 jB Sz;rw[jN,Qc]at u';generalize R.val p x=X at*;by_cases hz:X.2=0
  ·rw[if_neg (fun e=>e hz)]at u';rw[(Prod.mk.inj u').1,(Prod.mk.inj u').2];clear u';rw[hz]at QB;have ht:=RL X.1;have QC:=g' X.1;generalize R.bh p X.1=Z at*;refine aO func243 ntmps243 ?_;generalize hB:ids (aI p inp 0 R [])=B;generalize hE:aI p inp 0 Z []=E;refine S ?_
   (have W:=Qj;repeat' (first|refine aq fun K hK=>?_|refine am ?_|(refine hK _ _ ?_;clear hK K)|(refine ao ?_ ?_<;>intro hc<;>try exact jz)|refine bz 4 ?_|refine bf 5 ?_|refine ap ?_|exact jI|(clear hK K)))
   have M':=hK;clear hK;refine de (S:=Nat) [(8,3),(14,14)] (fun k=>k<=1) (fun k=>[(14,rI k)]) (fun k=>⟨B,aI p inp 0 R [(4,.var 78 (bX (nth p.aa.nodes a.toNat))),(5,.var 50 (bk (if k=0 then v0 else X.1)))]⟩) (fun k=>1-k) 0 jB (dc rfl bK) ?_;rintro k Qt Kr P9;by_cases Ql:k=0
   ·subst Ql;rw[if_pos rfl];refine S ?_
    (have W:=jA Qj Qc;repeat' (first|refine aq fun K hK=>?_|refine am ?_|(refine hK _ _ ?_;clear hK K)|(refine ao ?_ ?_<;>intro hc<;>try exact jz)|refine bf 6 ?_|(refine cE (R:=R) (R':=R) (pre:=aK p) (post:=[ax eI 1 inp,rI 0]) (pre':=aK p) (post':=[ax eI 1 inp,rI 0]) QB rfl jl jl rfl rfl aM rfl jD ?_;try refine S ?_)|refine M' _ _ ?_|refine ap ?_|exact jI|(clear hK K)))
    refine P9 _ _ (yc (R0:=R) (R':=R) (pre:=aK p) (post:=[ax eI 1 inp,rI 0]) (pre':=aK p) (post':=[ax eI 1 inp,rI 0]) 1 [(4,.var 78 (bX (nth p.aa.nodes a.toNat))),(5,.var 50 (bk X.1))] 6 (.var 50 (bk X.1)) jB jB rfl hB rfl jB rfl rfl rfl (fun i r hi=>?_) (by simp[ids]));simp only[aB]at hi;repeat' split at hi
    all_goals first
     |(cases hi;exact tB _ _)
     |(cases hi;exact x9 _ _)
     |cases hi
   ·have e1:k=1:=jB;subst e1;rw[jN];refine S ?_
    (have W:=Qj;repeat' (first|refine aq fun K hK=>?_|refine am ?_|(refine hK _ _ ?_;clear hK K)|(refine ao ?_ ?_<;>intro hc<;>try exact jz)|(refine cE (R:=R) (R':=Z) (pre:=aK p) (post:=[ax eI 1 inp,rI 0]) (pre':=aK p) (post':=[ax eI 1 inp,rI 0]) ht rfl (Nat.le_of_eq QC.1.symm) (Nat.le_of_eq (congrArg List.length QC.2.symm)) rfl rfl aM rfl jD ?_;try refine S ?_)|refine M' _ _ ?_|refine ap ?_|exact jI|(clear hK K)))
    subst hE;exact c7 (R':=Z) (pre':=aK p) (post':=[ax eI 1 inp,rI 0]) rfl hB [] aM rfl rfl rfl
  ·rw[if_pos hz]at u';obtain⟨rfl,rfl⟩:=Prod.mk.inj u';have Rq:=eq_false hz;suffices key2:∀R2:RS,R2=R'->af prog 243 [.pt 0 0 0 0,.agg (bX (nth p.aa.nodes a.toNat)),rI a] (aI p inp 0 R' []) (fun r l=>r=.bt []/\l=aI p inp X.2 R2 []) from key2 R' rfl
   intro R2 Q9;refine aO func243 ntmps243 ?_;generalize hB:ids (aI p inp 0 R' [])=B;generalize hE:aI p inp X.2 R2 []=E;refine S ?_
   (have W:=Qj;repeat' (first|refine aq fun K hK=>?_|refine am ?_|(refine hK _ _ ?_;clear hK K)|(refine ao ?_ ?_<;>intro hc<;>try exact jz)|refine bz 4 ?_|refine bf 5 ?_|refine ap ?_|exact jI|(clear hK K)))
   have M':=hK;clear hK;refine de (S:=Unit) [(8,3),(14,14)] (fun _=>True) (fun _=>[(14,rI 0)]) (fun _=>⟨B,aI p inp 0 R' [(4,.var 78 (bX (nth p.aa.nodes a.toNat))),(5,.var 50 (bk v0))]⟩) (fun _=>0) () trivial (dc rfl bK) ?_;rintro _ _ Kr P9;refine S ?_
   (have W:=jA Qj (jA Qc (Rq));repeat' (first|refine aq fun K hK=>?_|refine am ?_|(refine hK _ _ ?_;clear hK K)|(refine ao ?_ ?_<;>intro hc<;>try exact jz)|refine bf 6 ?_|(refine cE (R:=R') (R':=R') (pre:=aK p) (post:=[ax eI 1 inp,rI 0]) (pre':=aK p) (post':=[ax eI 1 inp,rI X.2]) QB rfl jl jl rfl rfl aM rfl jD ?_;try refine S ?_)|refine M' _ _ ?_|refine ap ?_|exact jI|(clear hK K)))
   subst hE;subst Q9;exact c7 (R':=R2) (pre':=aK p) (post':=[ax eI 1 inp,rI X.2]) rfl hB [] aM rfl rfl rfl
end Go.Proofs.YtghoellpinmenaaGreatDoor