/- What expressions tell: the program's. What expressions tell: the program's, small parts. What expressions tell: the program's. What expressions tell: the program's, whole. No conditions. -/
import Derived.Test.YtfkgcobaheegbaaGreatDoorWd
import Derived.Test.YtfkgcobaheegbaaGreatDoorGdR
set_option linter.all false
namespace Go.Proofs.YtfkgcobaheegbaaGreatDoor
open Go Go.Gd
def jdb (p:GProg) (slots:List GValue) (heap:List (List Int)) (tr:Int):Row:=.var 274 (jaB p++[rSl slots,rHp heap,rI tr])
attribute [go_sem] jdb
@[go_sem] theorem jw7 (p:GProg) (l:List AV):jaB p++l=jal jaq 5 p.tree.nodes::jal ja8 5 p.tree.fns::jal eI 1 p.types::jal eI 1 p.slots::jal eI 1 p.fn::jal eI 1 p.size::l:=rfl
set_option maxHeartbeats 4000000 in
set_option maxRecDepth 10000 in
theorem jrV (p:GProg) (slots:List GValue) (heap:List (List Int)) (tr tr':Int) (v:GValue) {f:FuncId} {cs:List AV} {t1 t2 t3:TypeId} {c1 c2 c3:List AV} (hf:jad Tryz.prog f=true) (hcs:jaE (fun i=>i == 0 || (i == 1 || (i == 2 || (i == 3)))) cs=true) (h1:jaE (fun i=>i == 0 || (i == 1 || (i == 2 || (i == 3)))) c1=true) (h2:jaE (fun i=>i == 0 || (i == 1 || (i == 2 || (i == 3)))) c2=true) (h3:jaE (fun i=>i == 0 || (i == 1 || (i == 2 || (i == 3)))) c3=true)
  (hd:tr=0→ACalls Tryz.prog f cs [(0,jdb p slots heap tr),(1,.var t1 c1),(2,.var t2 c2),(3,.var t3 c3)] (fun r l'=>r=rV v∧l'=[(0,jdb p slots heap tr'),(1,.var t1 c1),(2,.var t2 c2),(3,.var t3 c3)])) :
  ACalls Tryz.prog 273 [.pt 0 0 0 0,.clo f cs] [(0,jdb p slots heap tr),(1,.var t1 c1),(2,.var t2 c2),(3,.var t3 c3)] (fun r l'=>r=rV (if tr=0 then v else v0)∧l'=[(0,jdb p slots heap (if tr=0 then tr' else tr)),(1,.var t1 c1),(2,.var t2 c2),(3,.var t3 c3)]):=by
 have hmq:∀ cs:List AV,jaE (jcQ (jei [0,1,2,3])) cs=jaE (fun i=>i == 0 || (i == 1 || (i == 2 || i == 3))) cs:=fun cs=>by congr 1;funext i;simp [jcQ,jei];rfl
 have g1:=(hmq c1).trans h1
 have g2:=(hmq c2).trans h2
 have g3:=(hmq c3).trans h3
 by_cases ht:tr=0
 ·rw [if_pos ht,if_pos ht]
  have hd:=hd ht
  refine jaK Tryz.func273 Tryz.ntmps273 ?_
  (refine S ?_;try exact True.intro)
  (have W:=And.intro hf (And.intro hcs (And.intro h1 (And.intro h2 (h3))));repeat' (first|refine jaa fun K hK=>?_|refine wkA ?_|(refine hK _ _ ?_;clear hK K)|(refine jae (fun hc=>?_) (fun hc=>?_)<;>first | contradiction | (exfalso;omega) | skip)|(refine cl (args:=[]) hd ?_)|refine wkB ?_|exact True.intro|(clear hK K)));all_goals (try clear W)
  have W:=And.intro g1 (And.intro g2 g3)
  (refine ja2 [.cell 4 59] ?_;try simp only [go_sem])
 ·rw [if_neg ht,if_neg ht]
  refine jaK Tryz.func273 Tryz.ntmps273 ?_
  (refine S ?_;try exact True.intro)
  (have W:=And.intro hf (And.intro hcs (And.intro h1 (And.intro h2 (h3))));repeat' (first|refine jaa fun K hK=>?_|refine wkA ?_|(refine hK _ _ ?_;clear hK K)|(refine jae (fun hc=>?_) (fun hc=>?_)<;>first | contradiction | (exfalso;omega) | skip)|refine wkB ?_|exact True.intro|(clear hK K)));all_goals (try clear W)
  have W:=And.intro g1 (And.intro g2 g3)
  (refine ja2 [.cell 4 59] ?_;try simp only [go_sem])
  rfl
set_option maxHeartbeats 4000000 in
set_option maxRecDepth 10000 in
theorem jnB (p:GProg) (slots:List GValue) (heap:List (List Int)) (tr tr':Int) (v:GValue) {f:FuncId} {cs:List AV} {t1 t2 t3 t4:TypeId} {c1 c2 c3 c4:List AV} (hf:jad Tryz.prog f=true) (hcs:jaE (fun i=>i == 0 || (i == 1 || (i == 2 || (i == 3 || (i == 4))))) cs=true) (h1:jaE (fun i=>i == 0 || (i == 1 || (i == 2 || (i == 3 || (i == 4))))) c1=true) (h2:jaE (fun i=>i == 0 || (i == 1 || (i == 2 || (i == 3 || (i == 4))))) c2=true) (h3:jaE (fun i=>i == 0 || (i == 1 || (i == 2 || (i == 3 || (i == 4))))) c3=true) (h4:jaE (fun i=>i == 0 || (i == 1 || (i == 2 || (i == 3 || (i == 4))))) c4=true)
  (hd:tr=0→ACalls Tryz.prog f cs [(0,jdb p slots heap tr),(1,.var t1 c1),(2,.var t2 c2),(3,.var t3 c3),(4,.var t4 c4)] (fun r l'=>r=rV v∧l'=[(0,jdb p slots heap tr'),(1,.var t1 c1),(2,.var t2 c2),(3,.var t3 c3),(4,.var t4 c4)])) :
  ACalls Tryz.prog 273 [.pt 0 0 0 0,.clo f cs] [(0,jdb p slots heap tr),(1,.var t1 c1),(2,.var t2 c2),(3,.var t3 c3),(4,.var t4 c4)] (fun r l'=>r=rV (if tr=0 then v else v0)∧l'=[(0,jdb p slots heap (if tr=0 then tr' else tr)),(1,.var t1 c1),(2,.var t2 c2),(3,.var t3 c3),(4,.var t4 c4)]):=by
 have hmq:∀ cs:List AV,jaE (jcQ (jei [0,1,2,3,4])) cs=jaE (fun i=>i == 0 || (i == 1 || (i == 2 || (i == 3 || i == 4)))) cs:=fun cs=>by congr 1;funext i;simp [jcQ,jei];rfl
 have g1:=(hmq c1).trans h1
 have g2:=(hmq c2).trans h2
 have g3:=(hmq c3).trans h3
 have g4:=(hmq c4).trans h4
 by_cases ht:tr=0
 ·rw [if_pos ht,if_pos ht]
  have hd:=hd ht
  refine jaK Tryz.func273 Tryz.ntmps273 ?_
  (refine S ?_;try exact True.intro)
  (have W:=And.intro hf (And.intro hcs (And.intro h1 (And.intro h2 (And.intro h3 (h4)))));repeat' (first|refine jaa fun K hK=>?_|refine wkA ?_|(refine hK _ _ ?_;clear hK K)|(refine jae (fun hc=>?_) (fun hc=>?_)<;>first | contradiction | (exfalso;omega) | skip)|(refine cl (args:=[]) hd ?_)|refine wkB ?_|exact True.intro|(clear hK K)));all_goals (try clear W)
  have W:=And.intro g1 (And.intro g2 (And.intro g3 g4))
  (refine ja2 [.cell 4 59] ?_;try simp only [go_sem])
 ·rw [if_neg ht,if_neg ht]
  refine jaK Tryz.func273 Tryz.ntmps273 ?_
  (refine S ?_;try exact True.intro)
  (have W:=And.intro hf (And.intro hcs (And.intro h1 (And.intro h2 (And.intro h3 (h4)))));repeat' (first|refine jaa fun K hK=>?_|refine wkA ?_|(refine hK _ _ ?_;clear hK K)|(refine jae (fun hc=>?_) (fun hc=>?_)<;>first | contradiction | (exfalso;omega) | skip)|refine wkB ?_|exact True.intro|(clear hK K)));all_goals (try clear W)
  have W:=And.intro g1 (And.intro g2 (And.intro g3 g4))
  (refine ja2 [.cell 4 59] ?_;try simp only [go_sem])
  rfl
set_option maxHeartbeats 4000000
set_option maxRecDepth 10000
theorem jn7 (p:GProg) (slots:List GValue) (heap:List (List Int)) (tr t:Int):ACalls Tryz.prog 287 [.pt 0 0 0 0,rI t] [(0,jdb p slots heap tr)] (fun r l'=>r=.tup []∧l'=[(0,jdb p slots heap (if tr=0 then t else tr))]):=by
 refine jaK Tryz.func287 Tryz.ntmps287 ?_
 (refine S ?_;try exact True.intro)
 (repeat' (first|refine jaa fun K hK=>?_|refine wkA ?_|(refine hK _ _ ?_;clear hK K)|(refine jae (fun hc=>?_) (fun hc=>?_)<;>first | contradiction | (exfalso;omega) | skip)|refine wkB ?_|exact True.intro|(clear hK K)))
 ·(refine jbS [] ?_ ?_<;>(try simp only [go_sem]))
  rw [if_pos hc]
 ·(refine jbS [] ?_ ?_<;>(try simp only [go_sem]))
  rw [if_neg hc]
def jq1 (heap:List (List Int)) (v:GValue):GValue:=if v.ty=3 then vI v.s.size else vI (jcn heap v).length
theorem jy2 (p:GProg) (slots:List GValue) (heap:List (List Int)) (hh:heap.length≤1000000) (tr:Int) (v:GValue):ACalls Tryz.prog 278 [.pt 0 0 0 0,rV v] [(0,jdb p slots heap tr)] (fun r l'=>r=rV (jq1 heap v)∧l'=[(0,jdb p slots heap tr)]):=by
 refine jaK Tryz.func278 Tryz.ntmps278 ?_
 (refine S ?_;try exact True.intro)
 (repeat' (first|refine jaa fun K hK=>?_|refine wkA ?_|(with_reducible refine gR 3 ?_);refine dE 3 [0,1,2,3,4,5,6,7,8] mixed ?_|(refine hK _ _ ?_;clear hK K)|(refine jae (fun hc=>?_) (fun hc=>?_)<;>first | contradiction | (exfalso;omega) | skip)|refine al 2 ?_|refine cp (jpD _) ?_|refine cp (juf _ _ hh) ?_|refine wkB ?_|exact True.intro|(clear hK K)))
 all_goals (refine ja2 [.cell 4 59] ?_;try simp only [go_sem])
 all_goals (unfold jq1;split<;>first | rfl | contradiction | skip)
def lkI (p:GProg) (slots:List GValue) (heap:List (List Int)) (tr a:Int) (x:GValue):List (Nat×Row):=[(0,jdb p slots heap tr),(1,.var 272 [.pt 0 0 0 0]),(2,.var 3 [rI a]),(3,.var 59 (jak x))]
attribute [go_sem] lkI
theorem js1 {p:GProg} (h:POk p) (slots:List GValue) (heap:List (List Int)) (hh:heap.length≤1000000) (x:GValue) (a:Int) (h0:0≤a) (h1:a < p.tree.nodes.length) :
  ACalls Tryz.prog 286 [.pt 1 0 0 0,.pt 2 0 0 0,.pt 3 0 0 0] (lkI p slots heap 0 a x) (fun r l'=>r=rV (jcK p slots heap (x,0) a).1∧l'=lkI p slots heap (jcK p slots heap (x,0) a).2 a x):=by
 have hsl:=h.slots
 have htr:=jn7 p slots heap 0 2
 refine jaK Tryz.func286 Tryz.ntmps286 ?_
 (refine S ?_;try exact True.intro)
 (repeat' (first|refine jaa fun K hK=>?_|refine wkA ?_|(with_reducible refine gR 1 ?_);refine dQ 1 mixed ?_|(refine hK _ _ ?_;clear hK K)|(refine jae (fun hc=>?_) (fun hc=>?_)<;>first | contradiction | (exfalso;omega) | skip)|refine cm (htr) ?_|refine cq (jvy _ _ _) ?_|refine cp (jpD _) ?_|refine cq (juf _ _ hh) ?_|refine wkB ?_|exact True.intro|(clear hK K)))
 ·have e:jcK p slots heap (x,0) a=(v0,2):=by unfold jcK;rw [if_neg (by simp),if_pos hc]
  rw [e]
  (refine ja2 [.cell 3 59] ?_;try simp only [go_sem])
  rfl
 ·have e:jcK p slots heap (x,0) a=(vI (nth (jcn heap (jfs slots (nth p.slots a.toNat) 4)) x.n.toNat),0):=by unfold jcK;rw [if_neg (by simp),if_neg (show ¬(x.n < 0∨((jcn heap (jfs slots (nth p.slots a.toNat) 4)).length:Int)≤x.n) by omega)]
  rw [e]
  (refine ja2 [.cell 3 59] ?_;try simp only [go_sem])
def lkB (p:GProg) (slots:List GValue) (heap:List (List Int)) (tr:Int) (nd:GNode) (x y:GValue):List (Nat×Row):=[(0,jdb p slots heap tr),(1,.var 272 [.pt 0 0 0 0]),(2,.var 53 (jaq nd)),(3,.var 59 (jak x)),(4,.var 59 (jak y))]
attribute [go_sem] lkB
theorem jx8 (p:GProg) (slots:List GValue) (heap:List (List Int)) (nd:GNode) (x y:GValue) (hx:x.s.size≤1000000) (hy:y.s.size≤1000000) :
  ACalls Tryz.prog 288 [.pt 2 0 0 0,.pt 3 0 0 0,.pt 4 0 0 0,.pt 1 0 0 0] (lkB p slots heap 0 nd x y) (fun r l'=>r=rV (jlF nd.name x y).1∧l'=lkB p slots heap (jlF nd.name x y).2 nd x y):=by
 have htr:=jn7 p slots heap 0 (jlF nd.name x y).2
 refine jaK Tryz.func288 Tryz.ntmps288 ?_
 (refine S ?_;try exact True.intro)
 (repeat' (first|refine jaa fun K hK=>?_|refine wkA ?_|(refine hK _ _ ?_;clear hK K)|(refine jae (fun hc=>?_) (fun hc=>?_)<;>first | contradiction | (exfalso;omega) | skip)|refine cm (htr) ?_|refine cp (j1v _ _ _ hx hy) ?_|refine wkB ?_|exact True.intro|(clear hK K)))
 (refine ja2 [.cell 4 59] ?_;try simp only [go_sem])
def jjK (heap:List (List Int)) (k:Int) (x:GValue):GValue:=if k=6 then jq1 heap x else if k=7 then jfm (⟨#[45]⟩:ByteArray) x else jfm (⟨#[33]⟩:ByteArray) x
def lkO (p:GProg) (slots:List GValue) (heap:List (List Int)) (tr a:Int) (nd:GNode) (x:GValue):List (Nat×Row):=[(0,jdb p slots heap tr),(1,.var 272 [.pt 0 0 0 0]),(2,.var 3 [rI a]),(3,.var 53 (jaq nd)),(4,.var 59 (jak x))]
attribute [go_sem] lkO
theorem jsN (p:GProg) (slots:List GValue) (heap:List (List Int)) (hh:heap.length≤1000000) (a:Int) (nd:GNode) (x:GValue) :
  ACalls Tryz.prog 277 [.pt 3 0 0 0,.pt 1 0 0 0,.pt 4 0 0 0] (lkO p slots heap 0 a nd x) (fun r l'=>r=rV (jjK heap nd.kind x)∧l'=lkO p slots heap 0 a nd x):=by
 have hl:=jy2 p slots heap hh 0 x
 refine jaK Tryz.func277 Tryz.ntmps277 ?_
 (refine S ?_;try exact True.intro)
 (repeat' (first|refine jaa fun K hK=>?_|refine wkA ?_|(refine hK _ _ ?_;clear hK K)|(refine jae (fun hc=>?_) (fun hc=>?_)<;>first | contradiction | (exfalso;omega) | skip)|refine cm (hl) ?_|refine cp (jtz _ _) ?_|refine wkB ?_|exact True.intro|(clear hK K)))
 ·have e:jjK heap nd.kind x=jq1 heap x:=by unfold jjK;rw [if_pos hc]
  rw [e]
  (refine ja2 [.cell 3 59] ?_;try simp only [go_sem])
 ·rename_i k6
  have e:jjK heap nd.kind x=jfm (⟨#[45]⟩:ByteArray) x:=by unfold jjK;rw [if_neg k6,if_pos hc]
  rw [e]
  (refine ja2 [.cell 3 59] ?_;try simp only [go_sem])
 ·rename_i k6
  have e:jjK heap nd.kind x=jfm (⟨#[33]⟩:ByteArray) x:=by unfold jjK;rw [if_neg k6,if_neg hc]
  rw [e]
  (refine ja2 [.cell 3 59] ?_;try simp only [go_sem])
def jnP (p:GProg) (slots:List GValue) (heap:List (List Int)) (n:Nat):Prop:=∀ (a tr:Int),0≤a→a < p.tree.nodes.length→a.toNat < n→isE (jaj p.tree.nodes a)→
 ACalls Tryz.prog 255 [.pt 0 0 0 0,rI a] [(0,jdb p slots heap tr)] (fun r l'=>r=rV (if tr=0 then (jbi p slots heap n a).1 else v0)∧l'=[(0,jdb p slots heap (if tr=0 then (jbi p slots heap n a).2 else tr))])
theorem jvA {p:GProg} (h:POk p) (slots:List GValue) (heap:List (List Int)) (hh:heap.length≤1000000) (n:Nat) (ih:jnP p slots heap n) (a:Int) (h0:0≤a) (h1:a < p.tree.nodes.length) (hn:a.toNat≤n) (hk:(nth p.tree.nodes a.toNat).kind=5) :
  ACalls Tryz.prog 275 [.pt 0 0 0 0,rI a] [(0,jdb p slots heap 0)] (fun r l'=>r=rV (jcK p slots heap (jbi p slots heap n (nth (nth p.tree.nodes a.toNat).l 0)) a).1∧l'=[(0,jdb p slots heap (jcK p slots heap (jbi p slots heap n (nth (nth p.tree.nodes a.toNat).l 0)) a).2)]):=by
 have sh:=h.tree.shape a.toNat (by omega)
 obtain ⟨x,hl,hx⟩:=sh.1.one (by omega)
 have hlen:(nth p.tree.nodes a.toNat).l.length=1:=by rw [hl];rfl
 have hx':nth (nth p.tree.nodes a.toNat).l 0=x:=by rw [hl];rfl
 have hb:=sh.2.1 x (by rw [hl];simp)
 have hc1:=ih x 0 hb.1 (by omega) (by omega) hx
 rw [hx']
 generalize jbi p slots heap n x=X at hc1 ⊢
 rw [if_pos rfl,if_pos rfl] at hc1
 have hth:=jrV p slots heap X.2 (jcK p slots heap (X.1,0) a).2 (jcK p slots heap (X.1,0) a).1 (f:=286) (cs:=[.pt 1 0 0 0,.pt 2 0 0 0,.pt 3 0 0 0]) (t1:=272) (c1:=[.pt 0 0 0 0]) (t2:=3) (c2:=[rI a]) (t3:=59) (c3:=jak X.1) Sd Sd Sd Sd Sd
  (fun e=>by rw [e];exact js1 h slots heap hh X.1 a h0 h1)
 have e1:(if X.2=0 then (jcK p slots heap (X.1,0) a).1 else v0)=(jcK p slots heap X a).1:=by
  obtain ⟨v,t⟩:=X
  by_cases ht:t=0
  ·subst ht;rfl
  ·show (if t=0 then _ else _)=_
   rw [if_neg ht];unfold jcK;rw [if_pos ht]
 have e2:(if X.2=0 then (jcK p slots heap (X.1,0) a).2 else X.2)=(jcK p slots heap X a).2:=by
  obtain ⟨v,t⟩:=X
  by_cases ht:t=0
  ·subst ht;rfl
  ·show (if t=0 then _ else _)=_
   rw [if_neg ht];unfold jcK;rw [if_pos ht]
 rw [e1,e2] at hth
 refine jaK Tryz.func275 Tryz.ntmps275 ?_
 (refine S ?_;try exact True.intro)
 (have W:=And.intro hlen (hx');repeat' (first|refine jaa fun K hK=>?_|refine wkA ?_|(with_reducible refine gR 1 ?_);refine dL 1 [] [14] [0,1,2,3,4,5,6,7,8,9,10,11,12,13,14,15] mixed ?_|(refine hK _ _ ?_;clear hK K)|(refine jae (fun hc=>?_) (fun hc=>?_)<;>first | contradiction | (exfalso;omega) | skip)|refine al 9 ?_|refine al 3 ?_|refine cm (hc1) ?_|refine cm (hth) ?_|refine wkB ?_|exact True.intro|(clear hK K)));all_goals (try clear W)
 (refine ja2 [.cell 4 59] ?_;try simp only [go_sem])
theorem jlG {s:ByteArray} {X Y:GValue×Int} (hX:X.2=0) (hne:¬((s=(⟨#[124,124]⟩:ByteArray)∧X.1.n=1)∨(s=(⟨#[38,38]⟩:ByteArray)∧X.1.n=0))):jqa s X Y=if Y.2≠0 then (v0,Y.2) else jlF s X.1 Y.1:=by unfold jqa;rw [if_neg (by omega),if_neg hne]
theorem juZ {p:GProg} (h:POk p) (slots:List GValue) (heap:List (List Int)) (n:Nat) (ih:jnP p slots heap n) (a:Int) (h0:0≤a) (h1:a < p.tree.nodes.length) (hn:a.toNat≤n) (hk:(nth p.tree.nodes a.toNat).kind=9) :
  ACalls Tryz.prog 276 [.pt 0 0 0 0,.agg (jaq (nth p.tree.nodes a.toNat))] [(0,jdb p slots heap 0)] (fun r l'=>r=rV (jqa (nth p.tree.nodes a.toNat).name (jbi p slots heap n (nth (nth p.tree.nodes a.toNat).l 0)) (jbi p slots heap n (nth (nth p.tree.nodes a.toNat).l 1))).1∧l'=[(0,jdb p slots heap (jqa (nth p.tree.nodes a.toNat).name (jbi p slots heap n (nth (nth p.tree.nodes a.toNat).l 0)) (jbi p slots heap n (nth (nth p.tree.nodes a.toNat).l 1))).2)]):=by
 have sh:=h.tree.shape a.toNat (by omega)
 obtain ⟨x,y,hl,hx,hy⟩:=sh.1.two (by omega)
 have hlen:(nth p.tree.nodes a.toNat).l.length=2:=by rw [hl];rfl
 have hx':nth (nth p.tree.nodes a.toNat).l 0=x:=by rw [hl];rfl
 have hy':nth (nth p.tree.nodes a.toNat).l 1=y:=by rw [hl];rfl
 have hb:=sh.2.1 x (by rw [hl];simp)
 have hb2:=sh.2.1 y (by rw [hl];simp)
 have hc1:=ih x 0 hb.1 (by omega) (by omega) hx
 have hc2:=ih y (jbi p slots heap n x).2 hb2.1 (by omega) (by omega) hy
 have o1:=jfB h slots heap n x hb.1 (by omega) (by omega) hx
 have o2:=jfB h slots heap n y hb2.1 (by omega) (by omega) hy
 have s1:=o1.size
 have s2:=o2.size
 rw [hx',hy']
 generalize jbi p slots heap n x=X at hc1 hc2 o1 s1 ⊢
 generalize jbi p slots heap n y=Y at hc2 o2 s2 ⊢
 rw [if_pos rfl,if_pos rfl] at hc1
 by_cases hX:X.2=0
 ·rw [if_pos hX,if_pos hX] at hc2
  rw [hX] at hc1 hc2
  have hth:=jnB p slots heap Y.2 (jlF (nth p.tree.nodes a.toNat).name X.1 Y.1).2 (jlF (nth p.tree.nodes a.toNat).name X.1 Y.1).1 (f:=288) (cs:=[.pt 2 0 0 0,.pt 3 0 0 0,.pt 4 0 0 0,.pt 1 0 0 0]) (t1:=272) (c1:=[.pt 0 0 0 0]) (t2:=53) (c2:=jaq (nth p.tree.nodes a.toNat)) (t3:=59) (c3:=jak X.1) (t4:=59) (c4:=jak Y.1) Sd Sd Sd Sd Sd Sd
   (fun e=>by rw [e];exact jx8 p slots heap (nth p.tree.nodes a.toNat) X.1 Y.1 (by omega) (by omega))
  have hE:((nth p.tree.nodes a.toNat).name=(⟨#[124,124]⟩:ByteArray)∧X.1=vB true∨(nth p.tree.nodes a.toNat).name=(⟨#[38,38]⟩:ByteArray)∧X.1=vB false)↔(((nth p.tree.nodes a.toNat).name=(⟨#[124,124]⟩:ByteArray)∧X.1.n=1)∨((nth p.tree.nodes a.toNat).name=(⟨#[38,38]⟩:ByteArray)∧X.1.n=0)):=by
   obtain ⟨t5,t6⟩:=(h.ty a.toNat (by omega) (by omega)).bin hk
   rw [t5,hx',hy'] at t6
   have key:((nth p.tree.nodes a.toNat).name=(⟨#[124,124]⟩:ByteArray)∨(nth p.tree.nodes a.toNat).name=(⟨#[38,38]⟩:ByteArray))→∀ b,X.1.n=(vB b).n→X.1=vB b:=fun hs b hb=>by
    obtain ⟨_,g2,_⟩:=jj0 hs t6
    obtain ⟨q1,q2⟩:=jfM o1 hX
    rw [g2] at q1
    unfold jhw at q2
    rw [if_neg (by omega),if_pos q1] at q2
    simp only [Bool.and_eq_true,decide_eq_true_eq] at q2
    obtain ⟨⟨ty,nn,ss⟩,tt⟩:=X
    simp only at q1 q2 hb
    rw [q1,hb,q2.1];rfl
   constructor
   ·rintro (⟨e1,e2⟩ | ⟨e1,e2⟩)
    ·exact .inl ⟨e1,by rw [e2];rfl⟩
    ·exact .inr ⟨e1,by rw [e2];rfl⟩
   ·rintro (⟨e1,e2⟩ | ⟨e1,e2⟩)
    ·exact .inl ⟨e1,key (.inl e1) true e2⟩
    ·exact .inr ⟨e1,key (.inr e1) false e2⟩
  refine jaK Tryz.func276 Tryz.ntmps276 ?_
  (refine S ?_;try exact True.intro)
  (have W:=And.intro hlen (And.intro hx' (hy'));repeat' (first|refine jaa fun K hK=>?_|refine wkA ?_|(with_reducible refine gR 1 ?_);refine dL 1 [] [6] [0,1,2,3,4,5,6,7] mixed ?_|(with_reducible refine gR 2 ?_);refine dE 2 [0,1,2,3,4,5,6,7,8,9,10,11,12,13,14,15,16,17] mixed ?_|(with_reducible refine gR 4 ?_);refine dL 4 [] [6] [0,1,2,3,4,5,6,7] mixed ?_|(refine hK _ _ ?_;clear hK K)|(refine jae (fun hc=>?_) (fun hc=>?_)<;>first | contradiction | (exfalso;omega) | skip)|refine al 9 ?_|refine al 3 ?_|refine al 4 ?_|refine cm (hc1) ?_|refine cm (hc2) ?_|(first | refine cg (jfW _) ?_ | refine cg' (jfW _) ?_)|refine cm (hth) ?_|refine wkB ?_|exact True.intro|(clear hK K)));all_goals (try clear W)
  ·rw [show jqa (nth p.tree.nodes a.toNat).name X Y=(X.1,0) from by unfold jqa;rw [if_neg (fun h=>h hX),if_pos (hE.1 hc)]]
   (refine ja2 [.cell 4 59] ?_;try simp only [go_sem])
  ·have hne:¬((nth p.tree.nodes a.toNat).name=(⟨#[124,124]⟩:ByteArray)∧X.1=vB true∨(nth p.tree.nodes a.toNat).name=(⟨#[38,38]⟩:ByteArray)∧X.1=vB false):=fun k=>(jvS hc k).elim
   have e1:(if Y.2=0 then (jlF (nth p.tree.nodes a.toNat).name X.1 Y.1).1 else v0)=(jqa (nth p.tree.nodes a.toNat).name X Y).1:=by
    rw [jlG hX fun k=>hne (hE.2 k)]
    by_cases hy0:Y.2=0
    ·rw [if_pos hy0,if_neg (fun h=>h hy0)]
    ·rw [if_neg hy0,if_pos hy0]
   have e2:(if Y.2=0 then (jlF (nth p.tree.nodes a.toNat).name X.1 Y.1).2 else Y.2)=(jqa (nth p.tree.nodes a.toNat).name X Y).2:=by
    rw [jlG hX fun k=>hne (hE.2 k)]
    by_cases hy0:Y.2=0
    ·rw [if_pos hy0,if_neg (fun h=>h hy0)]
    ·rw [if_neg hy0,if_pos hy0]
   rw [← e1,← e2]
   (refine ja2 [.cell 4 59] ?_;try simp only [go_sem])
 ·rw [if_neg hX,if_neg hX] at hc2
  have hX1:X.1=v0:=by
   rcases o1 with o | o
   ·exact (hX o.1).elim
   ·exact o.2
  have hth:=jnB p slots heap X.2 0 v0 (f:=288) (cs:=[.pt 2 0 0 0,.pt 3 0 0 0,.pt 4 0 0 0,.pt 1 0 0 0]) (t1:=272) (c1:=[.pt 0 0 0 0]) (t2:=53) (c2:=jaq (nth p.tree.nodes a.toNat)) (t3:=59) (c3:=jak v0) (t4:=59) (c4:=jak v0) Sd Sd Sd Sd Sd Sd (fun e=>(hX e).elim)
  rw [if_neg hX,if_neg hX] at hth
  rw [show jqa (nth p.tree.nodes a.toNat).name X Y=(v0,X.2) from by unfold jqa;rw [if_pos hX]]
  rw [hX1] at hc1
  refine jaK Tryz.func276 Tryz.ntmps276 ?_
  (refine S ?_;try exact True.intro)
  (have W:=And.intro hlen (And.intro hx' (hy'));repeat' (first|refine jaa fun K hK=>?_|refine wkA ?_|(with_reducible refine gR 1 ?_);refine dL 1 [] [6] [0,1,2,3,4,5,6,7] mixed ?_|(with_reducible refine gR 2 ?_);refine dE 2 [0,1,2,3,4,5,6,7,8,9,10,11,12,13,14,15,16,17] mixed ?_|(with_reducible refine gR 4 ?_);refine dL 4 [] [6] [0,1,2,3,4,5,6,7] mixed ?_|(refine hK _ _ ?_;clear hK K)|(refine jae (fun hc=>?_) (fun hc=>?_)<;>first | contradiction | (exfalso;omega) | skip)|refine al 9 ?_|refine al 3 ?_|refine al 4 ?_|refine cm (hc1) ?_|refine cm (hc2) ?_|(first | refine cg (jfW _) ?_ | refine cg' (jfW _) ?_)|refine cm (hth) ?_|refine wkB ?_|exact True.intro|(clear hK K)));all_goals (try clear W)
  ·exfalso;revert hc;rintro (⟨_,h⟩ | ⟨_,h⟩)<;>revert h<;>decide
  ·(refine ja2 [.cell 4 59] ?_;try simp only [go_sem])
theorem jvr {p:GProg} (h:POk p) (slots:List GValue) (heap:List (List Int)) (hh:heap.length≤1000000) (n:Nat) (ih:jnP p slots heap n) (a:Int) (h0:0≤a) (h1:a < p.tree.nodes.length) (hn:a.toNat≤n) (hk:isE (jaj p.tree.nodes a)) :
  ACalls Tryz.prog 274 [.pt 3 0 0 0,.pt 1 0 0 0,.pt 2 0 0 0] [(0,jdb p slots heap 0),(1,.var 272 [.pt 0 0 0 0]),(2,.var 3 [rI a]),(3,.var 53 (jaq (nth p.tree.nodes a.toNat)))]
   (fun r l'=>r=rV (jbi p slots heap (n+1) a).1∧l'=[(0,jdb p slots heap (jbi p slots heap (n+1) a).2),(1,.var 272 [.pt 0 0 0 0]),(2,.var 3 [rI a]),(3,.var 53 (jaq (nth p.tree.nodes a.toNat)))]):=by
 have sh:=h.tree.shape a.toNat (by omega)
 have hsl:=h.slots
 have hty:=h.types
 have hkr:(nth p.tree.nodes a.toNat).kind=1∨(nth p.tree.nodes a.toNat).kind=2∨(nth p.tree.nodes a.toNat).kind=3∨(nth p.tree.nodes a.toNat).kind=4∨(nth p.tree.nodes a.toNat).kind=5∨(nth p.tree.nodes a.toNat).kind=9∨((nth p.tree.nodes a.toNat).kind=6∨(nth p.tree.nodes a.toNat).kind=7∨(nth p.tree.nodes a.toNat).kind=8):=by
  have:isE (nth p.tree.nodes a.toNat).kind:=hk
  unfold isE at this
  omega
 rcases hkr with k | k | k | k | k | k | k
 ·rw [show jbi p slots heap (n+1) a=(vI (nth p.tree.nodes a.toNat).n,0) from by unfold jbi;simp only;rw [k];rfl]
  refine jaK Tryz.func274 Tryz.ntmps274 ?_
  (refine S ?_;try exact True.intro)
  (have W:=k;repeat' (first|refine jaa fun K hK=>?_|refine wkA ?_|(refine hK _ _ ?_;clear hK K)|(refine jae (fun hc=>?_) (fun hc=>?_)<;>first | contradiction | (exfalso;omega) | skip)|refine cp (jpD _) ?_|refine wkB ?_|exact True.intro|(clear hK K)));all_goals (try clear W)
  (refine ja2 [.cell 3 59] ?_;try simp only [go_sem])
 ·rw [show jbi p slots heap (n+1) a=(vB (decide ((nth p.tree.nodes a.toNat).n=1)),0) from by unfold jbi;simp only;rw [k];rfl]
  refine jaK Tryz.func274 Tryz.ntmps274 ?_
  (refine S ?_;try exact True.intro)
  (have W:=k;repeat' (first|refine jaa fun K hK=>?_|refine wkA ?_|(refine hK _ _ ?_;clear hK K)|(refine jae (fun hc=>?_) (fun hc=>?_)<;>first | contradiction | (exfalso;omega) | skip)|refine cp (jfW _) ?_|refine wkB ?_|exact True.intro|(clear hK K)));all_goals (try clear W)
  (refine ja2 [.cell 3 59] ?_;try simp only [go_sem])
 ·rw [show jbi p slots heap (n+1) a=(vT (nth p.tree.nodes a.toNat).name,0) from by unfold jbi;simp only;rw [k];rfl]
  refine jaK Tryz.func274 Tryz.ntmps274 ?_
  (refine S ?_;try exact True.intro)
  (have W:=k;repeat' (first|refine jaa fun K hK=>?_|refine wkA ?_|(refine hK _ _ ?_;clear hK K)|(refine jae (fun hc=>?_) (fun hc=>?_)<;>first | contradiction | (exfalso;omega) | skip)|refine cp (jr4 _) ?_|refine wkB ?_|exact True.intro|(clear hK K)));all_goals (try clear W)
  (refine ja2 [.cell 3 59] ?_;try simp only [go_sem])
 ·rw [show jbi p slots heap (n+1) a=(jfs slots (nth p.slots a.toNat) (nth p.types a.toNat),0) from by unfold jbi;simp only;rw [k];rfl]
  refine jaK Tryz.func274 Tryz.ntmps274 ?_
  (refine S ?_;try exact True.intro)
  (have W:=k;repeat' (first|refine jaa fun K hK=>?_|refine wkA ?_|(with_reducible refine gR 9 ?_);refine dE 9 [0,1,2,3,4,5,6,7,8,9,10,11,12,13,14,15,16,17,18,19,20,21] mixed ?_|(refine hK _ _ ?_;clear hK K)|(refine jae (fun hc=>?_) (fun hc=>?_)<;>first | contradiction | (exfalso;omega) | skip)|refine al 9 ?_|refine cp (jvy _ _ _) ?_|refine wkB ?_|exact True.intro|(clear hK K)));all_goals (try clear W)
  (refine ja2 [.cell 3 59] ?_;try simp only [go_sem])
 ·have hi:=jvA h slots heap hh n ih a h0 h1 (by omega) k
  rw [jyD slots heap n k]
  refine jaK Tryz.func274 Tryz.ntmps274 ?_
  (refine S ?_;try exact True.intro)
  (have W:=k;repeat' (first|refine jaa fun K hK=>?_|refine wkA ?_|(refine hK _ _ ?_;clear hK K)|(refine jae (fun hc=>?_) (fun hc=>?_)<;>first | contradiction | (exfalso;omega) | skip)|refine al 9 ?_|refine cm (hi) ?_|refine wkB ?_|exact True.intro|(clear hK K)));all_goals (try clear W)
  (refine ja2 [.cell 3 59] ?_;try simp only [go_sem])
 ·have hi:=juZ h slots heap n ih a h0 h1 (by omega) k
  rw [jyE slots heap n k]
  refine jaK Tryz.func274 Tryz.ntmps274 ?_
  (refine S ?_;try exact True.intro)
  (have W:=k;repeat' (first|refine jaa fun K hK=>?_|refine wkA ?_|(refine hK _ _ ?_;clear hK K)|(refine jae (fun hc=>?_) (fun hc=>?_)<;>first | contradiction | (exfalso;omega) | skip)|refine al 9 ?_|refine cm (hi) ?_|refine wkB ?_|exact True.intro|(clear hK K)));all_goals (try clear W)
  (refine ja2 [.cell 3 59] ?_;try simp only [go_sem])
 ·obtain ⟨x,hl,hx⟩:=sh.1.one (by omega)
  have hlen:(nth p.tree.nodes a.toNat).l.length=1:=by rw [hl];rfl
  have hx':nth (nth p.tree.nodes a.toNat).l 0=x:=by rw [hl];rfl
  have hb:=sh.2.1 x (by rw [hl];simp)
  have hc1:=ih x 0 hb.1 (by omega) (by omega) hx
  have k1:¬ (nth p.tree.nodes a.toNat).kind=1:=by omega
  have k2:¬ (nth p.tree.nodes a.toNat).kind=2:=by omega
  have k3:¬ (nth p.tree.nodes a.toNat).kind=3:=by omega
  have k4:¬ (nth p.tree.nodes a.toNat).kind=4:=by omega
  have k5:¬ (nth p.tree.nodes a.toNat).kind=5:=by omega
  have k9:¬ (nth p.tree.nodes a.toNat).kind=9:=by omega
  rw [jyC slots heap n k,hx']
  generalize jbi p slots heap n x=X at hc1 ⊢
  rw [if_pos rfl,if_pos rfl] at hc1
  have hth:=jnB p slots heap X.2 0 (jjK heap (nth p.tree.nodes a.toNat).kind X.1) (f:=277) (cs:=[.pt 3 0 0 0,.pt 1 0 0 0,.pt 4 0 0 0]) (t1:=272) (c1:=[.pt 0 0 0 0]) (t2:=3) (c2:=[rI a]) (t3:=53) (c3:=jaq (nth p.tree.nodes a.toNat)) (t4:=59) (c4:=jak X.1) Sd Sd Sd Sd Sd Sd
   (fun e=>by rw [e];exact jsN p slots heap hh a (nth p.tree.nodes a.toNat) X.1)
  have e1:(if X.2=0 then jjK heap (nth p.tree.nodes a.toNat).kind X.1 else v0)=(juq heap (nth p.tree.nodes a.toNat).kind X).1:=by
   by_cases hX:X.2=0
   ·rw [if_pos hX]
    unfold juq jjK jq1
    rw [if_neg (c:=X.2≠0) (fun h=>h hX)]
    rcases k with k | k | k<;>rw [k]<;>first | rfl | (rw [if_pos rfl,if_pos rfl];by_cases h3:X.1.ty=3;rw [if_pos h3,if_pos h3];rw [if_neg h3,if_neg h3])
   ·rw [if_neg hX]
    unfold juq
    rw [if_pos hX]
  have e2:(if X.2=0 then 0 else X.2)=(juq heap (nth p.tree.nodes a.toNat).kind X).2:=by
   by_cases hX:X.2=0
   ·rw [if_pos hX]
    unfold juq
    rw [if_neg (c:=X.2≠0) (fun h=>h hX)]
    (repeat' split)<;>rfl
   ·rw [if_neg hX]
    unfold juq
    rw [if_pos hX]
  rw [e1,e2] at hth
  refine jaK Tryz.func274 Tryz.ntmps274 ?_
  (refine S ?_;try exact True.intro)
  (have W:=And.intro k1 (And.intro k2 (And.intro k3 (And.intro k4 (And.intro k5 (And.intro k9 (And.intro hlen (hx')))))));repeat' (first|refine jaa fun K hK=>?_|refine wkA ?_|(with_reducible refine gR 14 ?_);refine dL 14 [] [6] [0,1,2,3,4,5,6,7] mixed ?_|(refine hK _ _ ?_;clear hK K)|(refine jae (fun hc=>?_) (fun hc=>?_)<;>first | contradiction | (exfalso;omega) | skip)|refine al 9 ?_|refine al 4 ?_|refine cm (hc1) ?_|refine cm (hth) ?_|refine wkB ?_|exact True.intro|(clear hK K)));all_goals (try clear W)
  (refine ja2 [.cell 3 59] ?_;try simp only [go_sem])
theorem jug {p:GProg} (h:POk p) (slots:List GValue) (heap:List (List Int)) (hh:heap.length≤1000000):∀ n,jnP p slots heap n
 | 0=>fun a tr _ _ hn _=>by omega
 | n+1=>fun a tr h0 h1 hn hk=>by
  have ih:=jug h slots heap hh n
  have hth:=jrV p slots heap tr (jbi p slots heap (n+1) a).2 (jbi p slots heap (n+1) a).1 (f:=274) (cs:=[.pt 3 0 0 0,.pt 1 0 0 0,.pt 2 0 0 0]) (t1:=272) (c1:=[.pt 0 0 0 0]) (t2:=3) (c2:=[rI a]) (t3:=53) (c3:=jaq (nth p.tree.nodes a.toNat)) Sd Sd Sd Sd Sd
   (fun e=>by rw [e];exact jvr h slots heap hh n ih a h0 h1 (by omega) hk)
  refine jaK Tryz.func255 Tryz.ntmps255 ?_
  (refine S ?_;try exact True.intro)
  (repeat' (first|refine jaa fun K hK=>?_|refine wkA ?_|(with_reducible refine gR 1 ?_);refine dE 1 [0,1,2,3,4,5,6,7,8,9,10] mixed ?_|(refine hK _ _ ?_;clear hK K)|(refine jae (fun hc=>?_) (fun hc=>?_)<;>first | contradiction | (exfalso;omega) | skip)|refine al 9 ?_|refine al 3 ?_|refine cm (hth) ?_|refine wkB ?_|exact True.intro|(clear hK K)))
  (refine ja2 [.cell 4 59] ?_;try simp only [go_sem])
theorem jxY {p:GProg} (h:POk p) (slots:List GValue) (heap:List (List Int)) (hh:heap.length≤1000000) (n:Nat) (a:Int) (h0:0≤a) (h1:a < p.tree.nodes.length) (hn:a.toNat < n) (hk:isE (jaj p.tree.nodes a)) :
  PCall Tryz.prog 217 [rP p,rI a,rSl slots,rHp heap] (.tup [rV (jbi p slots heap n a).1,rI (jbi p slots heap n a).2]):=by
 have hx:=jug h slots heap hh n a 0 h0 h1 hn hk
 rw [if_pos rfl,if_pos rfl] at hx
 have ok:=jfB h slots heap n a h0 h1 hn hk
 generalize jbi p slots heap n a=X at hx ok ⊢
 refine jb9 Tryz.func217 Tryz.ntmps217 ?_
 (repeat' (first|refine jaa fun K hK=>?_|refine wkA ?_|(with_reducible refine gR 4 ?_);refine dA 4 [9] [0,1,2,3,4,5,6] mixed ?_|(refine hK _ _ ?_;clear hK K)|(refine jae (fun hc=>?_) (fun hc=>?_)<;>first | contradiction | (exfalso;omega) | skip)|refine bx 7 ?_|refine bx 0 ?_|refine al 9 ?_|refine al 8 ?_|refine cm (hx) ?_|refine wkB ?_|exact True.intro|(clear hK K)))
 ·have e:X.1=v0:=by
   rcases ok with o | o
   ·exact (hc o.1).elim
   ·exact o.2
  rw [e]
  (refine ja2 [.cell 8 59,.tmp 9] ?_;try simp only [go_sem])
  rfl
 ·rw [hc]
  (refine ja2 [.cell 8 59,.tmp 9] ?_;try simp only [go_sem])
end Go.Proofs.YtfkgcobaheegbaaGreatDoor
