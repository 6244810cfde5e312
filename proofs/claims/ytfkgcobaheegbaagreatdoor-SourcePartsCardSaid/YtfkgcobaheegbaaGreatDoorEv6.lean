/- What expressions tell: the program's. What expressions tell: the program's, small parts. What expressions tell: the program's. What expressions tell: the program's, whole. No conditions. -/
import Derived.Test.YtfkgcobaheegbaaGreatDoorWd
import Derived.Test.YtfkgcobaheegbaaGreatDoorGdR
set_option linter.all false
namespace Go.Proofs.YtfkgcobaheegbaaGreatDoor
open Go Go.Gd
def jc7 (p:GProg) (slots:List GValue) (heap:List (List Int)) (tr:Int):Row:=.var 274 (jam p++[rSl slots,rHp heap,rI tr])
attribute [go_sem] jc7
@[go_sem] theorem jwj (p:GProg) (l:List AV):jam p++l=jal jao 5 p.tree.nodes::jal jbe 5 p.tree.fns::jal eI 1 p.types::jal eI 1 p.slots::jal eI 1 p.fn::jal eI 1 p.size::l:=rfl
set_option maxHeartbeats 4000000 in
set_option maxRecDepth 10000 in
theorem jrd (p:GProg) (slots:List GValue) (heap:List (List Int)) (tr tr':Int) (v:GValue) {f:FuncId} {cs:List AV} {t1 t2 t3:TypeId} {c1 c2 c3:List AV} (hf:jab Tryz.prog f=true) (hcs:jaB (fun i=>i == 0 || (i == 1 || (i == 2 || (i == 3)))) cs=true) (h1:jaB (fun i=>i == 0 || (i == 1 || (i == 2 || (i == 3)))) c1=true) (h2:jaB (fun i=>i == 0 || (i == 1 || (i == 2 || (i == 3)))) c2=true) (h3:jaB (fun i=>i == 0 || (i == 1 || (i == 2 || (i == 3)))) c3=true)
  (hd:tr=0→ACalls Tryz.prog f cs [(0,jc7 p slots heap tr),(1,.var t1 c1),(2,.var t2 c2),(3,.var t3 c3)] (fun r l'=>r=rV v∧l'=[(0,jc7 p slots heap tr'),(1,.var t1 c1),(2,.var t2 c2),(3,.var t3 c3)])) :
  ACalls Tryz.prog 273 [.pt 0 0 0 0,.clo f cs] [(0,jc7 p slots heap tr),(1,.var t1 c1),(2,.var t2 c2),(3,.var t3 c3)] (fun r l'=>r=rV (if tr=0 then v else v0)∧l'=[(0,jc7 p slots heap (if tr=0 then tr' else tr)),(1,.var t1 c1),(2,.var t2 c2),(3,.var t3 c3)]):=by
 have hmq:∀ cs:List AV,jaB (jcB (jd9 [0,1,2,3])) cs=jaB (fun i=>i == 0 || (i == 1 || (i == 2 || i == 3))) cs:=fun cs=>by congr 1;funext i;simp [jcB,jd9];rfl
 have g1:=(hmq c1).trans h1
 have g2:=(hmq c2).trans h2
 have g3:=(hmq c3).trans h3
 by_cases ht:tr=0
 ·rw [if_pos ht,if_pos ht]
  have hd:=hd ht
  refine jaw Tryz.func273 Tryz.ntmps273 ?_
  (refine S ?_;try exact True.intro)
  (have W:=And.intro hf (And.intro hcs (And.intro h1 (And.intro h2 (h3))));repeat' (first|refine jaa fun K hK=>?_|refine wkA ?_|(refine hK _ _ ?_;clear hK K)|(refine jad (fun hc=>?_) (fun hc=>?_)<;>first | contradiction | (exfalso;omega) | skip)|(refine cl (args:=[]) hd ?_)|refine wkB ?_|exact True.intro|(clear hK K)));all_goals (try clear W)
  have W:=And.intro g1 (And.intro g2 g3)
  (refine jaN [.cell 4 59] ?_;try simp only [go_sem])
 ·rw [if_neg ht,if_neg ht]
  refine jaw Tryz.func273 Tryz.ntmps273 ?_
  (refine S ?_;try exact True.intro)
  (have W:=And.intro hf (And.intro hcs (And.intro h1 (And.intro h2 (h3))));repeat' (first|refine jaa fun K hK=>?_|refine wkA ?_|(refine hK _ _ ?_;clear hK K)|(refine jad (fun hc=>?_) (fun hc=>?_)<;>first | contradiction | (exfalso;omega) | skip)|refine wkB ?_|exact True.intro|(clear hK K)));all_goals (try clear W)
  have W:=And.intro g1 (And.intro g2 g3)
  (refine jaN [.cell 4 59] ?_;try simp only [go_sem])
  rfl
set_option maxHeartbeats 4000000 in
set_option maxRecDepth 10000 in
theorem jmU (p:GProg) (slots:List GValue) (heap:List (List Int)) (tr tr':Int) (v:GValue) {f:FuncId} {cs:List AV} {t1 t2 t3 t4:TypeId} {c1 c2 c3 c4:List AV} (hf:jab Tryz.prog f=true) (hcs:jaB (fun i=>i == 0 || (i == 1 || (i == 2 || (i == 3 || (i == 4))))) cs=true) (h1:jaB (fun i=>i == 0 || (i == 1 || (i == 2 || (i == 3 || (i == 4))))) c1=true) (h2:jaB (fun i=>i == 0 || (i == 1 || (i == 2 || (i == 3 || (i == 4))))) c2=true) (h3:jaB (fun i=>i == 0 || (i == 1 || (i == 2 || (i == 3 || (i == 4))))) c3=true) (h4:jaB (fun i=>i == 0 || (i == 1 || (i == 2 || (i == 3 || (i == 4))))) c4=true)
  (hd:tr=0→ACalls Tryz.prog f cs [(0,jc7 p slots heap tr),(1,.var t1 c1),(2,.var t2 c2),(3,.var t3 c3),(4,.var t4 c4)] (fun r l'=>r=rV v∧l'=[(0,jc7 p slots heap tr'),(1,.var t1 c1),(2,.var t2 c2),(3,.var t3 c3),(4,.var t4 c4)])) :
  ACalls Tryz.prog 273 [.pt 0 0 0 0,.clo f cs] [(0,jc7 p slots heap tr),(1,.var t1 c1),(2,.var t2 c2),(3,.var t3 c3),(4,.var t4 c4)] (fun r l'=>r=rV (if tr=0 then v else v0)∧l'=[(0,jc7 p slots heap (if tr=0 then tr' else tr)),(1,.var t1 c1),(2,.var t2 c2),(3,.var t3 c3),(4,.var t4 c4)]):=by
 have hmq:∀ cs:List AV,jaB (jcB (jd9 [0,1,2,3,4])) cs=jaB (fun i=>i == 0 || (i == 1 || (i == 2 || (i == 3 || i == 4)))) cs:=fun cs=>by congr 1;funext i;simp [jcB,jd9];rfl
 have g1:=(hmq c1).trans h1
 have g2:=(hmq c2).trans h2
 have g3:=(hmq c3).trans h3
 have g4:=(hmq c4).trans h4
 by_cases ht:tr=0
 ·rw [if_pos ht,if_pos ht]
  have hd:=hd ht
  refine jaw Tryz.func273 Tryz.ntmps273 ?_
  (refine S ?_;try exact True.intro)
  (have W:=And.intro hf (And.intro hcs (And.intro h1 (And.intro h2 (And.intro h3 (h4)))));repeat' (first|refine jaa fun K hK=>?_|refine wkA ?_|(refine hK _ _ ?_;clear hK K)|(refine jad (fun hc=>?_) (fun hc=>?_)<;>first | contradiction | (exfalso;omega) | skip)|(refine cl (args:=[]) hd ?_)|refine wkB ?_|exact True.intro|(clear hK K)));all_goals (try clear W)
  have W:=And.intro g1 (And.intro g2 (And.intro g3 g4))
  (refine jaN [.cell 4 59] ?_;try simp only [go_sem])
 ·rw [if_neg ht,if_neg ht]
  refine jaw Tryz.func273 Tryz.ntmps273 ?_
  (refine S ?_;try exact True.intro)
  (have W:=And.intro hf (And.intro hcs (And.intro h1 (And.intro h2 (And.intro h3 (h4)))));repeat' (first|refine jaa fun K hK=>?_|refine wkA ?_|(refine hK _ _ ?_;clear hK K)|(refine jad (fun hc=>?_) (fun hc=>?_)<;>first | contradiction | (exfalso;omega) | skip)|refine wkB ?_|exact True.intro|(clear hK K)));all_goals (try clear W)
  have W:=And.intro g1 (And.intro g2 (And.intro g3 g4))
  (refine jaN [.cell 4 59] ?_;try simp only [go_sem])
  rfl
set_option maxHeartbeats 4000000
set_option maxRecDepth 10000
theorem jnm (p:GProg) (slots:List GValue) (heap:List (List Int)) (tr t:Int):ACalls Tryz.prog 287 [.pt 0 0 0 0,rI t] [(0,jc7 p slots heap tr)] (fun r l'=>r=.tup []∧l'=[(0,jc7 p slots heap (if tr=0 then t else tr))]):=by
 refine jaw Tryz.func287 Tryz.ntmps287 ?_
 (refine S ?_;try exact True.intro)
 (repeat' (first|refine jaa fun K hK=>?_|refine wkA ?_|(refine hK _ _ ?_;clear hK K)|(refine jad (fun hc=>?_) (fun hc=>?_)<;>first | contradiction | (exfalso;omega) | skip)|refine wkB ?_|exact True.intro|(clear hK K)))
 ·(refine jbM [] ?_ ?_<;>(try simp only [go_sem]))
  rw [if_pos hc]
 ·(refine jbM [] ?_ ?_<;>(try simp only [go_sem]))
  rw [if_neg hc]
def jqi (heap:List (List Int)) (v:GValue):GValue:=if v.ty=3 then vI v.s.size else vI (jb2 heap v).length
theorem jya (p:GProg) (slots:List GValue) (heap:List (List Int)) (hh:heap.length≤1000000) (tr:Int) (v:GValue):ACalls Tryz.prog 278 [.pt 0 0 0 0,rV v] [(0,jc7 p slots heap tr)] (fun r l'=>r=rV (jqi heap v)∧l'=[(0,jc7 p slots heap tr)]):=by
 refine jaw Tryz.func278 Tryz.ntmps278 ?_
 (refine S ?_;try exact True.intro)
 (repeat' (first|refine jaa fun K hK=>?_|refine wkA ?_|(with_reducible refine gR 3 ?_);refine dE 3 [0,1,2,3,4,5,6,7,8] mixed ?_|(refine hK _ _ ?_;clear hK K)|(refine jad (fun hc=>?_) (fun hc=>?_)<;>first | contradiction | (exfalso;omega) | skip)|refine al 2 ?_|refine cp (joL _) ?_|refine cp (jtF _ _ hh) ?_|refine wkB ?_|exact True.intro|(clear hK K)))
 all_goals (refine jaN [.cell 4 59] ?_;try simp only [go_sem])
 all_goals (unfold jqi;split<;>first | rfl | contradiction | skip)
def lkI (p:GProg) (slots:List GValue) (heap:List (List Int)) (tr a:Int) (x:GValue):List (Nat×Row):=[(0,jc7 p slots heap tr),(1,.var 272 [.pt 0 0 0 0]),(2,.var 3 [rI a]),(3,.var 59 (jag x))]
attribute [go_sem] lkI
theorem jsf {p:GProg} (h:POk p) (slots:List GValue) (heap:List (List Int)) (hh:heap.length≤1000000) (x:GValue) (a:Int) (h0:0≤a) (h1:a < p.tree.nodes.length) :
  ACalls Tryz.prog 286 [.pt 1 0 0 0,.pt 2 0 0 0,.pt 3 0 0 0] (lkI p slots heap 0 a x) (fun r l'=>r=rV (jcd p slots heap (x,0) a).1∧l'=lkI p slots heap (jcd p slots heap (x,0) a).2 a x):=by
 have hsl:=h.slots
 have htr:=jnm p slots heap 0 2
 refine jaw Tryz.func286 Tryz.ntmps286 ?_
 (refine S ?_;try exact True.intro)
 (repeat' (first|refine jaa fun K hK=>?_|refine wkA ?_|(with_reducible refine gR 1 ?_);refine dQ 1 mixed ?_|(refine hK _ _ ?_;clear hK K)|(refine jad (fun hc=>?_) (fun hc=>?_)<;>first | contradiction | (exfalso;omega) | skip)|refine cm (htr) ?_|refine cq (juO _ _ _) ?_|refine cp (joL _) ?_|refine cq (jtF _ _ hh) ?_|refine wkB ?_|exact True.intro|(clear hK K)))
 ·have e:jcd p slots heap (x,0) a=(v0,2):=by unfold jcd;rw [if_neg (by simp),if_pos hc]
  rw [e]
  (refine jaN [.cell 3 59] ?_;try simp only [go_sem])
  rfl
 ·have e:jcd p slots heap (x,0) a=(vI (nth (jb2 heap (jgh slots (nth p.slots a.toNat) 4)) x.n.toNat),0):=by unfold jcd;rw [if_neg (by simp),if_neg (show ¬(x.n < 0∨((jb2 heap (jgh slots (nth p.slots a.toNat) 4)).length:Int)≤x.n) by omega)]
  rw [e]
  (refine jaN [.cell 3 59] ?_;try simp only [go_sem])
def lkB (p:GProg) (slots:List GValue) (heap:List (List Int)) (tr:Int) (nd:GNode) (x y:GValue):List (Nat×Row):=[(0,jc7 p slots heap tr),(1,.var 272 [.pt 0 0 0 0]),(2,.var 53 (jao nd)),(3,.var 59 (jag x)),(4,.var 59 (jag y))]
attribute [go_sem] lkB
theorem jxn (p:GProg) (slots:List GValue) (heap:List (List Int)) (nd:GNode) (x y:GValue) (hx:x.s.size≤1000000) (hy:y.s.size≤1000000) :
  ACalls Tryz.prog 288 [.pt 2 0 0 0,.pt 3 0 0 0,.pt 4 0 0 0,.pt 1 0 0 0] (lkB p slots heap 0 nd x y) (fun r l'=>r=rV (jjf nd.name x y).1∧l'=lkB p slots heap (jjf nd.name x y).2 nd x y):=by
 have htr:=jnm p slots heap 0 (jjf nd.name x y).2
 refine jaw Tryz.func288 Tryz.ntmps288 ?_
 (refine S ?_;try exact True.intro)
 (repeat' (first|refine jaa fun K hK=>?_|refine wkA ?_|(refine hK _ _ ?_;clear hK K)|(refine jad (fun hc=>?_) (fun hc=>?_)<;>first | contradiction | (exfalso;omega) | skip)|refine cm (htr) ?_|refine cp (j0u _ _ _ hx hy) ?_|refine wkB ?_|exact True.intro|(clear hK K)))
 (refine jaN [.cell 4 59] ?_;try simp only [go_sem])
def ji0 (heap:List (List Int)) (k:Int) (x:GValue):GValue:=if k=6 then jqi heap x else if k=7 then jem (⟨#[45]⟩:ByteArray) x else jem (⟨#[33]⟩:ByteArray) x
def lkO (p:GProg) (slots:List GValue) (heap:List (List Int)) (tr a:Int) (nd:GNode) (x:GValue):List (Nat×Row):=[(0,jc7 p slots heap tr),(1,.var 272 [.pt 0 0 0 0]),(2,.var 3 [rI a]),(3,.var 53 (jao nd)),(4,.var 59 (jag x))]
attribute [go_sem] lkO
theorem jr5 (p:GProg) (slots:List GValue) (heap:List (List Int)) (hh:heap.length≤1000000) (a:Int) (nd:GNode) (x:GValue) :
  ACalls Tryz.prog 277 [.pt 3 0 0 0,.pt 1 0 0 0,.pt 4 0 0 0] (lkO p slots heap 0 a nd x) (fun r l'=>r=rV (ji0 heap nd.kind x)∧l'=lkO p slots heap 0 a nd x):=by
 have hl:=jya p slots heap hh 0 x
 refine jaw Tryz.func277 Tryz.ntmps277 ?_
 (refine S ?_;try exact True.intro)
 (repeat' (first|refine jaa fun K hK=>?_|refine wkA ?_|(refine hK _ _ ?_;clear hK K)|(refine jad (fun hc=>?_) (fun hc=>?_)<;>first | contradiction | (exfalso;omega) | skip)|refine cm (hl) ?_|refine cp (jsU _ _) ?_|refine wkB ?_|exact True.intro|(clear hK K)))
 ·have e:ji0 heap nd.kind x=jqi heap x:=by unfold ji0;rw [if_pos hc]
  rw [e]
  (refine jaN [.cell 3 59] ?_;try simp only [go_sem])
 ·rename_i k6
  have e:ji0 heap nd.kind x=jem (⟨#[45]⟩:ByteArray) x:=by unfold ji0;rw [if_neg k6,if_pos hc]
  rw [e]
  (refine jaN [.cell 3 59] ?_;try simp only [go_sem])
 ·rename_i k6
  have e:ji0 heap nd.kind x=jem (⟨#[33]⟩:ByteArray) x:=by unfold ji0;rw [if_neg k6,if_neg hc]
  rw [e]
  (refine jaN [.cell 3 59] ?_;try simp only [go_sem])
def jm6 (p:GProg) (slots:List GValue) (heap:List (List Int)) (n:Nat):Prop:=∀ (a tr:Int),0≤a→a < p.tree.nodes.length→a.toNat < n→isE (jan p.tree.nodes a)→
 ACalls Tryz.prog 255 [.pt 0 0 0 0,rI a] [(0,jc7 p slots heap tr)] (fun r l'=>r=rV (if tr=0 then (jaY p slots heap n a).1 else v0)∧l'=[(0,jc7 p slots heap (if tr=0 then (jaY p slots heap n a).2 else tr))])
theorem juQ {p:GProg} (h:POk p) (slots:List GValue) (heap:List (List Int)) (hh:heap.length≤1000000) (n:Nat) (ih:jm6 p slots heap n) (a:Int) (h0:0≤a) (h1:a < p.tree.nodes.length) (hn:a.toNat≤n) (hk:(nth p.tree.nodes a.toNat).kind=5) :
  ACalls Tryz.prog 275 [.pt 0 0 0 0,rI a] [(0,jc7 p slots heap 0)] (fun r l'=>r=rV (jcd p slots heap (jaY p slots heap n (nth (nth p.tree.nodes a.toNat).l 0)) a).1∧l'=[(0,jc7 p slots heap (jcd p slots heap (jaY p slots heap n (nth (nth p.tree.nodes a.toNat).l 0)) a).2)]):=by
 have sh:=h.tree.shape a.toNat (by omega)
 obtain ⟨x,hl,hx⟩:=sh.1.one (by omega)
 have hlen:(nth p.tree.nodes a.toNat).l.length=1:=by rw [hl];rfl
 have hx':nth (nth p.tree.nodes a.toNat).l 0=x:=by rw [hl];rfl
 have hb:=sh.2.1 x (by rw [hl];simp)
 have hc1:=ih x 0 hb.1 (by omega) (by omega) hx
 rw [hx']
 generalize jaY p slots heap n x=X at hc1 ⊢
 rw [if_pos rfl,if_pos rfl] at hc1
 have hth:=jrd p slots heap X.2 (jcd p slots heap (X.1,0) a).2 (jcd p slots heap (X.1,0) a).1 (f:=286) (cs:=[.pt 1 0 0 0,.pt 2 0 0 0,.pt 3 0 0 0]) (t1:=272) (c1:=[.pt 0 0 0 0]) (t2:=3) (c2:=[rI a]) (t3:=59) (c3:=jag X.1) Sd Sd Sd Sd Sd
  (fun e=>by rw [e];exact jsf h slots heap hh X.1 a h0 h1)
 have e1:(if X.2=0 then (jcd p slots heap (X.1,0) a).1 else v0)=(jcd p slots heap X a).1:=by
  obtain ⟨v,t⟩:=X
  by_cases ht:t=0
  ·subst ht;rfl
  ·show (if t=0 then _ else _)=_
   rw [if_neg ht];unfold jcd;rw [if_pos ht]
 have e2:(if X.2=0 then (jcd p slots heap (X.1,0) a).2 else X.2)=(jcd p slots heap X a).2:=by
  obtain ⟨v,t⟩:=X
  by_cases ht:t=0
  ·subst ht;rfl
  ·show (if t=0 then _ else _)=_
   rw [if_neg ht];unfold jcd;rw [if_pos ht]
 rw [e1,e2] at hth
 refine jaw Tryz.func275 Tryz.ntmps275 ?_
 (refine S ?_;try exact True.intro)
 (have W:=And.intro hlen (hx');repeat' (first|refine jaa fun K hK=>?_|refine wkA ?_|(with_reducible refine gR 1 ?_);refine dL 1 [] [14] [0,1,2,3,4,5,6,7,8,9,10,11,12,13,14,15] mixed ?_|(refine hK _ _ ?_;clear hK K)|(refine jad (fun hc=>?_) (fun hc=>?_)<;>first | contradiction | (exfalso;omega) | skip)|refine al 9 ?_|refine al 3 ?_|refine cm (hc1) ?_|refine cm (hth) ?_|refine wkB ?_|exact True.intro|(clear hK K)));all_goals (try clear W)
 (refine jaN [.cell 4 59] ?_;try simp only [go_sem])
theorem jkT {s:ByteArray} {X Y:GValue×Int} (hX:X.2=0) (hne:¬((s=(⟨#[124,124]⟩:ByteArray)∧X.1.n=1)∨(s=(⟨#[38,38]⟩:ByteArray)∧X.1.n=0))):jl9 s X Y=if Y.2≠0 then (v0,Y.2) else jjf s X.1 Y.1:=by unfold jl9;rw [if_neg (by omega),if_neg hne]
theorem juk {p:GProg} (h:POk p) (slots:List GValue) (heap:List (List Int)) (n:Nat) (ih:jm6 p slots heap n) (a:Int) (h0:0≤a) (h1:a < p.tree.nodes.length) (hn:a.toNat≤n) (hk:(nth p.tree.nodes a.toNat).kind=9) :
  ACalls Tryz.prog 276 [.pt 0 0 0 0,.agg (jao (nth p.tree.nodes a.toNat))] [(0,jc7 p slots heap 0)] (fun r l'=>r=rV (jl9 (nth p.tree.nodes a.toNat).name (jaY p slots heap n (nth (nth p.tree.nodes a.toNat).l 0)) (jaY p slots heap n (nth (nth p.tree.nodes a.toNat).l 1))).1∧l'=[(0,jc7 p slots heap (jl9 (nth p.tree.nodes a.toNat).name (jaY p slots heap n (nth (nth p.tree.nodes a.toNat).l 0)) (jaY p slots heap n (nth (nth p.tree.nodes a.toNat).l 1))).2)]):=by
 have sh:=h.tree.shape a.toNat (by omega)
 obtain ⟨x,y,hl,hx,hy⟩:=sh.1.two (by omega)
 have hlen:(nth p.tree.nodes a.toNat).l.length=2:=by rw [hl];rfl
 have hx':nth (nth p.tree.nodes a.toNat).l 0=x:=by rw [hl];rfl
 have hy':nth (nth p.tree.nodes a.toNat).l 1=y:=by rw [hl];rfl
 have hb:=sh.2.1 x (by rw [hl];simp)
 have hb2:=sh.2.1 y (by rw [hl];simp)
 have hc1:=ih x 0 hb.1 (by omega) (by omega) hx
 have hc2:=ih y (jaY p slots heap n x).2 hb2.1 (by omega) (by omega) hy
 have o1:=jeo h slots heap n x hb.1 (by omega) (by omega) hx
 have o2:=jeo h slots heap n y hb2.1 (by omega) (by omega) hy
 have s1:=o1.size
 have s2:=o2.size
 rw [hx',hy']
 generalize jaY p slots heap n x=X at hc1 hc2 o1 s1 ⊢
 generalize jaY p slots heap n y=Y at hc2 o2 s2 ⊢
 rw [if_pos rfl,if_pos rfl] at hc1
 by_cases hX:X.2=0
 ·rw [if_pos hX,if_pos hX] at hc2
  rw [hX] at hc1 hc2
  have hth:=jmU p slots heap Y.2 (jjf (nth p.tree.nodes a.toNat).name X.1 Y.1).2 (jjf (nth p.tree.nodes a.toNat).name X.1 Y.1).1 (f:=288) (cs:=[.pt 2 0 0 0,.pt 3 0 0 0,.pt 4 0 0 0,.pt 1 0 0 0]) (t1:=272) (c1:=[.pt 0 0 0 0]) (t2:=53) (c2:=jao (nth p.tree.nodes a.toNat)) (t3:=59) (c3:=jag X.1) (t4:=59) (c4:=jag Y.1) Sd Sd Sd Sd Sd Sd
   (fun e=>by rw [e];exact jxn p slots heap (nth p.tree.nodes a.toNat) X.1 Y.1 (by omega) (by omega))
  have hE:((nth p.tree.nodes a.toNat).name=(⟨#[124,124]⟩:ByteArray)∧X.1=vB true∨(nth p.tree.nodes a.toNat).name=(⟨#[38,38]⟩:ByteArray)∧X.1=vB false)↔(((nth p.tree.nodes a.toNat).name=(⟨#[124,124]⟩:ByteArray)∧X.1.n=1)∨((nth p.tree.nodes a.toNat).name=(⟨#[38,38]⟩:ByteArray)∧X.1.n=0)):=by
   obtain ⟨t5,t6⟩:=(h.ty a.toNat (by omega) (by omega)).bin hk
   rw [t5,hx',hy'] at t6
   have key:((nth p.tree.nodes a.toNat).name=(⟨#[124,124]⟩:ByteArray)∨(nth p.tree.nodes a.toNat).name=(⟨#[38,38]⟩:ByteArray))→∀ b,X.1.n=(vB b).n→X.1=vB b:=fun hs b hb=>by
    obtain ⟨_,g2,_⟩:=jje hs t6
    obtain ⟨q1,q2⟩:=jgN o1 hX
    rw [g2] at q1
    unfold jl1 at q2
    rw [if_neg (by omega),if_pos q1] at q2
    simp only [Bool.and_eq_true,decide_eq_true_eq] at q2
    obtain ⟨⟨ty,nn,ss⟩,tt⟩:=X
    simp only at q1 q2 hb
    rw [q1,hb,q2.1];rfl
   constructor
   ·rintro (⟨e1,e2⟩ | ⟨e1,e2⟩)
    ·exact .inl ⟨e1,by rw [e2];rfl⟩
    ·exact .inr ⟨e1,by rw [e2];rfl⟩
   ·rintro (⟨e1,e2⟩ | ⟨e1,e2⟩)
    ·exact .inl ⟨e1,key (.inl e1) true e2⟩
    ·exact .inr ⟨e1,key (.inr e1) false e2⟩
  refine jaw Tryz.func276 Tryz.ntmps276 ?_
  (refine S ?_;try exact True.intro)
  (have W:=And.intro hlen (And.intro hx' (hy'));repeat' (first|refine jaa fun K hK=>?_|refine wkA ?_|(with_reducible refine gR 1 ?_);refine dL 1 [] [6] [0,1,2,3,4,5,6,7] mixed ?_|(with_reducible refine gR 2 ?_);refine dE 2 [0,1,2,3,4,5,6,7,8,9,10,11,12,13,14,15,16,17] mixed ?_|(with_reducible refine gR 4 ?_);refine dL 4 [] [6] [0,1,2,3,4,5,6,7] mixed ?_|(refine hK _ _ ?_;clear hK K)|(refine jad (fun hc=>?_) (fun hc=>?_)<;>first | contradiction | (exfalso;omega) | skip)|refine al 9 ?_|refine al 3 ?_|refine al 4 ?_|refine cm (hc1) ?_|refine cm (hc2) ?_|(first | refine cg (jfB _) ?_ | refine cg' (jfB _) ?_)|refine cm (hth) ?_|refine wkB ?_|exact True.intro|(clear hK K)));all_goals (try clear W)
  ·rw [show jl9 (nth p.tree.nodes a.toNat).name X Y=(X.1,0) from by unfold jl9;rw [if_neg (fun h=>h hX),if_pos (hE.1 hc)]]
   (refine jaN [.cell 4 59] ?_;try simp only [go_sem])
  ·have hne:¬((nth p.tree.nodes a.toNat).name=(⟨#[124,124]⟩:ByteArray)∧X.1=vB true∨(nth p.tree.nodes a.toNat).name=(⟨#[38,38]⟩:ByteArray)∧X.1=vB false):=fun k=>(jqs hc k).elim
   have e1:(if Y.2=0 then (jjf (nth p.tree.nodes a.toNat).name X.1 Y.1).1 else v0)=(jl9 (nth p.tree.nodes a.toNat).name X Y).1:=by
    rw [jkT hX fun k=>hne (hE.2 k)]
    by_cases hy0:Y.2=0
    ·rw [if_pos hy0,if_neg (fun h=>h hy0)]
    ·rw [if_neg hy0,if_pos hy0]
   have e2:(if Y.2=0 then (jjf (nth p.tree.nodes a.toNat).name X.1 Y.1).2 else Y.2)=(jl9 (nth p.tree.nodes a.toNat).name X Y).2:=by
    rw [jkT hX fun k=>hne (hE.2 k)]
    by_cases hy0:Y.2=0
    ·rw [if_pos hy0,if_neg (fun h=>h hy0)]
    ·rw [if_neg hy0,if_pos hy0]
   rw [← e1,← e2]
   (refine jaN [.cell 4 59] ?_;try simp only [go_sem])
 ·rw [if_neg hX,if_neg hX] at hc2
  have hX1:X.1=v0:=by
   rcases o1 with o | o
   ·exact (hX o.1).elim
   ·exact o.2
  have hth:=jmU p slots heap X.2 0 v0 (f:=288) (cs:=[.pt 2 0 0 0,.pt 3 0 0 0,.pt 4 0 0 0,.pt 1 0 0 0]) (t1:=272) (c1:=[.pt 0 0 0 0]) (t2:=53) (c2:=jao (nth p.tree.nodes a.toNat)) (t3:=59) (c3:=jag v0) (t4:=59) (c4:=jag v0) Sd Sd Sd Sd Sd Sd (fun e=>(hX e).elim)
  rw [if_neg hX,if_neg hX] at hth
  rw [show jl9 (nth p.tree.nodes a.toNat).name X Y=(v0,X.2) from by unfold jl9;rw [if_pos hX]]
  rw [hX1] at hc1
  refine jaw Tryz.func276 Tryz.ntmps276 ?_
  (refine S ?_;try exact True.intro)
  (have W:=And.intro hlen (And.intro hx' (hy'));repeat' (first|refine jaa fun K hK=>?_|refine wkA ?_|(with_reducible refine gR 1 ?_);refine dL 1 [] [6] [0,1,2,3,4,5,6,7] mixed ?_|(with_reducible refine gR 2 ?_);refine dE 2 [0,1,2,3,4,5,6,7,8,9,10,11,12,13,14,15,16,17] mixed ?_|(with_reducible refine gR 4 ?_);refine dL 4 [] [6] [0,1,2,3,4,5,6,7] mixed ?_|(refine hK _ _ ?_;clear hK K)|(refine jad (fun hc=>?_) (fun hc=>?_)<;>first | contradiction | (exfalso;omega) | skip)|refine al 9 ?_|refine al 3 ?_|refine al 4 ?_|refine cm (hc1) ?_|refine cm (hc2) ?_|(first | refine cg (jfB _) ?_ | refine cg' (jfB _) ?_)|refine cm (hth) ?_|refine wkB ?_|exact True.intro|(clear hK K)));all_goals (try clear W)
  ·exfalso;revert hc;rintro (⟨_,h⟩ | ⟨_,h⟩)<;>revert h<;>decide
  ·(refine jaN [.cell 4 59] ?_;try simp only [go_sem])
theorem juL {p:GProg} (h:POk p) (slots:List GValue) (heap:List (List Int)) (hh:heap.length≤1000000) (n:Nat) (ih:jm6 p slots heap n) (a:Int) (h0:0≤a) (h1:a < p.tree.nodes.length) (hn:a.toNat≤n) (hk:isE (jan p.tree.nodes a)) :
  ACalls Tryz.prog 274 [.pt 3 0 0 0,.pt 1 0 0 0,.pt 2 0 0 0] [(0,jc7 p slots heap 0),(1,.var 272 [.pt 0 0 0 0]),(2,.var 3 [rI a]),(3,.var 53 (jao (nth p.tree.nodes a.toNat)))]
   (fun r l'=>r=rV (jaY p slots heap (n+1) a).1∧l'=[(0,jc7 p slots heap (jaY p slots heap (n+1) a).2),(1,.var 272 [.pt 0 0 0 0]),(2,.var 3 [rI a]),(3,.var 53 (jao (nth p.tree.nodes a.toNat)))]):=by
 have sh:=h.tree.shape a.toNat (by omega)
 have hsl:=h.slots
 have hty:=h.types
 have hkr:(nth p.tree.nodes a.toNat).kind=1∨(nth p.tree.nodes a.toNat).kind=2∨(nth p.tree.nodes a.toNat).kind=3∨(nth p.tree.nodes a.toNat).kind=4∨(nth p.tree.nodes a.toNat).kind=5∨(nth p.tree.nodes a.toNat).kind=9∨((nth p.tree.nodes a.toNat).kind=6∨(nth p.tree.nodes a.toNat).kind=7∨(nth p.tree.nodes a.toNat).kind=8):=by
  have:isE (nth p.tree.nodes a.toNat).kind:=hk
  unfold isE at this
  omega
 rcases hkr with k | k | k | k | k | k | k
 ·rw [show jaY p slots heap (n+1) a=(vI (nth p.tree.nodes a.toNat).n,0) from by unfold jaY;simp only;rw [k];rfl]
  refine jaw Tryz.func274 Tryz.ntmps274 ?_
  (refine S ?_;try exact True.intro)
  (have W:=k;repeat' (first|refine jaa fun K hK=>?_|refine wkA ?_|(refine hK _ _ ?_;clear hK K)|(refine jad (fun hc=>?_) (fun hc=>?_)<;>first | contradiction | (exfalso;omega) | skip)|refine cp (joL _) ?_|refine wkB ?_|exact True.intro|(clear hK K)));all_goals (try clear W)
  (refine jaN [.cell 3 59] ?_;try simp only [go_sem])
 ·rw [show jaY p slots heap (n+1) a=(vB (decide ((nth p.tree.nodes a.toNat).n=1)),0) from by unfold jaY;simp only;rw [k];rfl]
  refine jaw Tryz.func274 Tryz.ntmps274 ?_
  (refine S ?_;try exact True.intro)
  (have W:=k;repeat' (first|refine jaa fun K hK=>?_|refine wkA ?_|(refine hK _ _ ?_;clear hK K)|(refine jad (fun hc=>?_) (fun hc=>?_)<;>first | contradiction | (exfalso;omega) | skip)|refine cp (jfB _) ?_|refine wkB ?_|exact True.intro|(clear hK K)));all_goals (try clear W)
  (refine jaN [.cell 3 59] ?_;try simp only [go_sem])
 ·rw [show jaY p slots heap (n+1) a=(vT (nth p.tree.nodes a.toNat).name,0) from by unfold jaY;simp only;rw [k];rfl]
  refine jaw Tryz.func274 Tryz.ntmps274 ?_
  (refine S ?_;try exact True.intro)
  (have W:=k;repeat' (first|refine jaa fun K hK=>?_|refine wkA ?_|(refine hK _ _ ?_;clear hK K)|(refine jad (fun hc=>?_) (fun hc=>?_)<;>first | contradiction | (exfalso;omega) | skip)|refine cp (jro _) ?_|refine wkB ?_|exact True.intro|(clear hK K)));all_goals (try clear W)
  (refine jaN [.cell 3 59] ?_;try simp only [go_sem])
 ·rw [show jaY p slots heap (n+1) a=(jgh slots (nth p.slots a.toNat) (nth p.types a.toNat),0) from by unfold jaY;simp only;rw [k];rfl]
  refine jaw Tryz.func274 Tryz.ntmps274 ?_
  (refine S ?_;try exact True.intro)
  (have W:=k;repeat' (first|refine jaa fun K hK=>?_|refine wkA ?_|(with_reducible refine gR 9 ?_);refine dE 9 [0,1,2,3,4,5,6,7,8,9,10,11,12,13,14,15,16,17,18,19,20,21] mixed ?_|(refine hK _ _ ?_;clear hK K)|(refine jad (fun hc=>?_) (fun hc=>?_)<;>first | contradiction | (exfalso;omega) | skip)|refine al 9 ?_|refine cp (juO _ _ _) ?_|refine wkB ?_|exact True.intro|(clear hK K)));all_goals (try clear W)
  (refine jaN [.cell 3 59] ?_;try simp only [go_sem])
 ·have hi:=juQ h slots heap hh n ih a h0 h1 (by omega) k
  rw [jty slots heap n k]
  refine jaw Tryz.func274 Tryz.ntmps274 ?_
  (refine S ?_;try exact True.intro)
  (have W:=k;repeat' (first|refine jaa fun K hK=>?_|refine wkA ?_|(refine hK _ _ ?_;clear hK K)|(refine jad (fun hc=>?_) (fun hc=>?_)<;>first | contradiction | (exfalso;omega) | skip)|refine al 9 ?_|refine cm (hi) ?_|refine wkB ?_|exact True.intro|(clear hK K)));all_goals (try clear W)
  (refine jaN [.cell 3 59] ?_;try simp only [go_sem])
 ·have hi:=juk h slots heap n ih a h0 h1 (by omega) k
  rw [jtz slots heap n k]
  refine jaw Tryz.func274 Tryz.ntmps274 ?_
  (refine S ?_;try exact True.intro)
  (have W:=k;repeat' (first|refine jaa fun K hK=>?_|refine wkA ?_|(refine hK _ _ ?_;clear hK K)|(refine jad (fun hc=>?_) (fun hc=>?_)<;>first | contradiction | (exfalso;omega) | skip)|refine al 9 ?_|refine cm (hi) ?_|refine wkB ?_|exact True.intro|(clear hK K)));all_goals (try clear W)
  (refine jaN [.cell 3 59] ?_;try simp only [go_sem])
 ·obtain ⟨x,hl,hx⟩:=sh.1.one (by omega)
  have hlen:(nth p.tree.nodes a.toNat).l.length=1:=by rw [hl];rfl
  have hx':nth (nth p.tree.nodes a.toNat).l 0=x:=by rw [hl];rfl
  have hb:=sh.2.1 x (by rw [hl];simp)
  have hc1:=ih x 0 hb.1 (by omega) (by omega) hx
  have k1:¬ (nth p.tree.nodes a.toNat).kind=1:=by omega
  have k2:¬ (nth p.tree.nodes a.toNat).kind=2:=by omega
  have k3:¬ (nth p.tree.nodes a.toNat).kind=3:=by omega
  have k4:¬ (nth p.tree.nodes a.toNat).kind=4:=by omega
  have k5:¬ (nth p.tree.nodes a.toNat).kind=5:=by omega
  have k9:¬ (nth p.tree.nodes a.toNat).kind=9:=by omega
  rw [jtx slots heap n k,hx']
  generalize jaY p slots heap n x=X at hc1 ⊢
  rw [if_pos rfl,if_pos rfl] at hc1
  have hth:=jmU p slots heap X.2 0 (ji0 heap (nth p.tree.nodes a.toNat).kind X.1) (f:=277) (cs:=[.pt 3 0 0 0,.pt 1 0 0 0,.pt 4 0 0 0]) (t1:=272) (c1:=[.pt 0 0 0 0]) (t2:=3) (c2:=[rI a]) (t3:=53) (c3:=jao (nth p.tree.nodes a.toNat)) (t4:=59) (c4:=jag X.1) Sd Sd Sd Sd Sd Sd
   (fun e=>by rw [e];exact jr5 p slots heap hh a (nth p.tree.nodes a.toNat) X.1)
  have e1:(if X.2=0 then ji0 heap (nth p.tree.nodes a.toNat).kind X.1 else v0)=(jsy heap (nth p.tree.nodes a.toNat).kind X).1:=by
   by_cases hX:X.2=0
   ·rw [if_pos hX]
    unfold jsy ji0 jqi
    rw [if_neg (c:=X.2≠0) (fun h=>h hX)]
    rcases k with k | k | k<;>rw [k]<;>first | rfl | (rw [if_pos rfl,if_pos rfl];by_cases h3:X.1.ty=3;rw [if_pos h3,if_pos h3];rw [if_neg h3,if_neg h3])
   ·rw [if_neg hX]
    unfold jsy
    rw [if_pos hX]
  have e2:(if X.2=0 then 0 else X.2)=(jsy heap (nth p.tree.nodes a.toNat).kind X).2:=by
   by_cases hX:X.2=0
   ·rw [if_pos hX]
    unfold jsy
    rw [if_neg (c:=X.2≠0) (fun h=>h hX)]
    (repeat' split)<;>rfl
   ·rw [if_neg hX]
    unfold jsy
    rw [if_pos hX]
  rw [e1,e2] at hth
  refine jaw Tryz.func274 Tryz.ntmps274 ?_
  (refine S ?_;try exact True.intro)
  (have W:=And.intro k1 (And.intro k2 (And.intro k3 (And.intro k4 (And.intro k5 (And.intro k9 (And.intro hlen (hx')))))));repeat' (first|refine jaa fun K hK=>?_|refine wkA ?_|(with_reducible refine gR 14 ?_);refine dL 14 [] [6] [0,1,2,3,4,5,6,7] mixed ?_|(refine hK _ _ ?_;clear hK K)|(refine jad (fun hc=>?_) (fun hc=>?_)<;>first | contradiction | (exfalso;omega) | skip)|refine al 9 ?_|refine al 4 ?_|refine cm (hc1) ?_|refine cm (hth) ?_|refine wkB ?_|exact True.intro|(clear hK K)));all_goals (try clear W)
  (refine jaN [.cell 3 59] ?_;try simp only [go_sem])
theorem jtG {p:GProg} (h:POk p) (slots:List GValue) (heap:List (List Int)) (hh:heap.length≤1000000):∀ n,jm6 p slots heap n
 | 0=>fun a tr _ _ hn _=>by omega
 | n+1=>fun a tr h0 h1 hn hk=>by
  have ih:=jtG h slots heap hh n
  have hth:=jrd p slots heap tr (jaY p slots heap (n+1) a).2 (jaY p slots heap (n+1) a).1 (f:=274) (cs:=[.pt 3 0 0 0,.pt 1 0 0 0,.pt 2 0 0 0]) (t1:=272) (c1:=[.pt 0 0 0 0]) (t2:=3) (c2:=[rI a]) (t3:=53) (c3:=jao (nth p.tree.nodes a.toNat)) Sd Sd Sd Sd Sd
   (fun e=>by rw [e];exact juL h slots heap hh n ih a h0 h1 (by omega) hk)
  refine jaw Tryz.func255 Tryz.ntmps255 ?_
  (refine S ?_;try exact True.intro)
  (repeat' (first|refine jaa fun K hK=>?_|refine wkA ?_|(with_reducible refine gR 1 ?_);refine dE 1 [0,1,2,3,4,5,6,7,8,9,10] mixed ?_|(refine hK _ _ ?_;clear hK K)|(refine jad (fun hc=>?_) (fun hc=>?_)<;>first | contradiction | (exfalso;omega) | skip)|refine al 9 ?_|refine al 3 ?_|refine cm (hth) ?_|refine wkB ?_|exact True.intro|(clear hK K)))
  (refine jaN [.cell 4 59] ?_;try simp only [go_sem])
theorem jxd {p:GProg} (h:POk p) (slots:List GValue) (heap:List (List Int)) (hh:heap.length≤1000000) (n:Nat) (a:Int) (h0:0≤a) (h1:a < p.tree.nodes.length) (hn:a.toNat < n) (hk:isE (jan p.tree.nodes a)) :
  PCall Tryz.prog 217 [rP p,rI a,rSl slots,rHp heap] (.tup [rV (jaY p slots heap n a).1,rI (jaY p slots heap n a).2]):=by
 have hx:=jtG h slots heap hh n a 0 h0 h1 hn hk
 rw [if_pos rfl,if_pos rfl] at hx
 have ok:=jeo h slots heap n a h0 h1 hn hk
 generalize jaY p slots heap n a=X at hx ok ⊢
 refine jbA Tryz.func217 Tryz.ntmps217 ?_
 (repeat' (first|refine jaa fun K hK=>?_|refine wkA ?_|(with_reducible refine gR 4 ?_);refine dA 4 [9] [0,1,2,3,4,5,6] mixed ?_|(refine hK _ _ ?_;clear hK K)|(refine jad (fun hc=>?_) (fun hc=>?_)<;>first | contradiction | (exfalso;omega) | skip)|refine bx 7 ?_|refine bx 0 ?_|refine al 9 ?_|refine al 8 ?_|refine cm (hx) ?_|refine wkB ?_|exact True.intro|(clear hK K)))
 ·have e:X.1=v0:=by
   rcases ok with o | o
   ·exact (hc o.1).elim
   ·exact o.2
  rw [e]
  (refine jaN [.cell 8 59,.tmp 9] ?_;try simp only [go_sem])
  rfl
 ·rw [hc]
  (refine jaN [.cell 8 59,.tmp 9] ?_;try simp only [go_sem])
end Go.Proofs.YtfkgcobaheegbaaGreatDoor
