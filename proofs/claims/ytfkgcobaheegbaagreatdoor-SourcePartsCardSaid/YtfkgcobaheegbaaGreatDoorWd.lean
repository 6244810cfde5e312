/- Values: the program's. What expressions tell: variables, lists. What expressions tell: the document's. What expressions tell: the document's, whole. What a program means: what is told of a state, and small steps. Numbers and values as texts: what the library tells. No conditions. -/
import Derived.Test.YtfkgcobaheegbaaGreatDoorSoP
import Derived.Test.YtfkgcobaheegbaaGreatDoorEvS
import Derived.Test.YtfkgcobaheegbaaGreatDoorP5
import Derived.Test.YtfkgcobaheegbaaGreatDoorSoS
set_option linter.all false
namespace Go.Proofs.YtfkgcobaheegbaaGreatDoor
open Go Go.Gd
set_option maxHeartbeats 1000000
set_option maxRecDepth 10000
theorem joL (n:Int):PCall Tryz.prog 154 [rI n] (rV (vI n)):=by
 refine jbA Tryz.func154 Tryz.ntmps154 ?_
 (repeat' (first|refine jaa fun K hK=>?_|refine wkA ?_|(refine hK _ _ ?_;clear hK K)|(refine jad (fun hc=>?_) (fun hc=>?_)<;>first | contradiction | (exfalso;omega) | skip)|refine wkB ?_|exact True.intro|(clear hK K)))
 (refine jaN [.cell 2 59] ?_;try simp only [go_sem])
 rfl
theorem jrr (t:Int):PCall Tryz.prog 100 [rI t] (rV (vZ t)):=by
 refine jbA Tryz.func100 Tryz.ntmps100 ?_
 (repeat' (first|refine jaa fun K hK=>?_|refine wkA ?_|(refine hK _ _ ?_;clear hK K)|(refine jad (fun hc=>?_) (fun hc=>?_)<;>first | contradiction | (exfalso;omega) | skip)|refine wkB ?_|exact True.intro|(clear hK K)))
 (refine jaN [.cell 2 59] ?_;try simp only [go_sem])
 rfl
theorem jfB (b:Bool):PCall Tryz.prog 172 [rB b] (rV (vB b)):=by
 refine jbA Tryz.func172 Tryz.ntmps172 ?_
 (repeat' (first|refine jaa fun K hK=>?_|refine wkA ?_|(refine hK _ _ ?_;clear hK K)|(refine jad (fun hc=>?_) (fun hc=>?_)<;>first | contradiction | (exfalso;omega) | skip)|refine cp (jrr _) ?_|refine wkB ?_|exact True.intro|(clear hK K)))
 all_goals (refine jaN [.cell 2 59] ?_;try simp only [go_sem])
 all_goals simp_all [vB,vZ]
theorem jro (s:ByteArray):PCall Tryz.prog 173 [rS s] (rV (vT s)):=by
 refine jbA Tryz.func173 Tryz.ntmps173 ?_
 (repeat' (first|refine jaa fun K hK=>?_|refine wkA ?_|(refine hK _ _ ?_;clear hK K)|(refine jad (fun hc=>?_) (fun hc=>?_)<;>first | contradiction | (exfalso;omega) | skip)|refine wkB ?_|exact True.intro|(clear hK K)))
 (refine jaN [.cell 2 59] ?_;try simp only [go_sem])
 rfl
theorem jyf (v:GValue):PCall Tryz.prog 197 [rV v] (rB (jl1 v)):=by
 refine jbA Tryz.func197 Tryz.ntmps197 ?_
 (repeat' (first|refine jaa fun K hK=>?_|refine wkA ?_|(refine hK _ _ ?_;clear hK K)|(refine jad (fun hc=>?_) (fun hc=>?_)<;>first | contradiction | (exfalso;omega) | skip)|refine wkB ?_|exact True.intro|(clear hK K)))
 all_goals (refine jaN [.tmp 2] ?_;try simp only [go_sem])
 all_goals (unfold jl1;(repeat' split)<;>first | rfl | (exfalso;omega) | (exfalso;simp_all;done) | skip)
 all_goals (refine jo1 ?_;by_cases hs:v.s=sE<;>simp [hs]<;>omega)
def jnU (g:ByteArray) (a b:Int):GValue×Int:=if g=(⟨#[60]⟩:ByteArray) then (vB (decide (a < b)),0) else if g=(⟨#[60,61]⟩:ByteArray) then (vB (decide (a≤b)),0) else (v0,0)
theorem jvc (g:ByteArray) (a b:Int):PCall Tryz.prog 261 [rS g,rI a,rI b] (.tup [rV (jnU g a b).1,rI (jnU g a b).2]):=by
 refine jbA Tryz.func261 Tryz.ntmps261 ?_
 (repeat' (first|refine jaa fun K hK=>?_|refine wkA ?_|(refine hK _ _ ?_;clear hK K)|(refine jad (fun hc=>?_) (fun hc=>?_)<;>first | contradiction | (exfalso;omega) | skip)|refine cp (jfB _) ?_|refine wkB ?_|exact True.intro|(clear hK K)))
 all_goals (refine jaN [.cell 6 59,.tmp 7] ?_;try simp only [go_sem])
 all_goals (unfold jnU;(repeat' split)<;>first | rfl | (exfalso;omega) | (exfalso;simp_all;done) | (simp_all [jag,vB];done) | (exfalso;simp_all;omega) | skip)
theorem jqw (g:ByteArray) (a b:Int):PCall Tryz.prog 226 [rS g,rI a,rI b] (.tup [rV (jiX g a b).1,rI (jiX g a b).2]):=by
 refine jbA Tryz.func226 Tryz.ntmps226 ?_
 (repeat' (first|refine jaa fun K hK=>?_|refine wkA ?_|(refine hK _ _ ?_;clear hK K)|(refine jad (fun hc=>?_) (fun hc=>?_)<;>first | contradiction | (exfalso;omega) | skip)|refine cp (joL _) ?_|refine cp (jvc _ _ _) ?_|refine wkB ?_|exact True.intro|(clear hK K)))
 all_goals (refine jaN [.cell 6 59,.tmp 7] ?_;try simp only [go_sem])
 all_goals (try unfold jnU)
 all_goals (unfold jiX;(repeat' split)<;>first | rfl | (exfalso;omega) | (exfalso;simp_all;done) | (simp_all [jag,vB];done) | (exfalso;simp_all;omega) | skip)
def jrU (g:ByteArray) (a b:Bool):GValue×Int:=if g=(⟨#[124,124]⟩:ByteArray) then (vB (a || b),0) else if g=(⟨#[38,38]⟩:ByteArray) then (vB (a && b),0) else (v0,0)
theorem jxq (g:ByteArray) (a b:Bool):PCall Tryz.prog 227 [rS g,rB a,rB b] (.tup [rV (jrU g a b).1,rI (jrU g a b).2]):=by
 refine jbA Tryz.func227 Tryz.ntmps227 ?_
 (repeat' (first|refine jaa fun K hK=>?_|refine wkA ?_|(refine hK _ _ ?_;clear hK K)|(refine jad (fun hc=>?_) (fun hc=>?_)<;>first | contradiction | (exfalso;omega) | skip)|refine cp (jfB _) ?_|refine wkB ?_|exact True.intro|(clear hK K)))
 all_goals (refine jaN [.cell 6 59,.tmp 7] ?_;try simp only [go_sem])
 all_goals (unfold jrU;(repeat' split)<;>first | rfl | (exfalso;omega) | (exfalso;simp_all;done) | (simp_all [jag,vB];done) | (exfalso;simp_all;omega) | skip)
def jol (g a b:ByteArray):GValue×Int:=if g=(⟨#[43]⟩:ByteArray) then (if (a.size:Int)+b.size > 40 then (v0,6) else (vT (a++b),0)) else (v0,0)
theorem jvK (g a b:ByteArray) (ha:a.size≤1000000) (hb:b.size≤1000000):PCall Tryz.prog 228 [rS g,rS a,rS b] (.tup [rV (jol g a b).1,rI (jol g a b).2]):=by
 refine jbA Tryz.func228 Tryz.ntmps228 ?_
 (repeat' (first|refine jaa fun K hK=>?_|refine wkA ?_|(refine hK _ _ ?_;clear hK K)|(refine jad (fun hc=>?_) (fun hc=>?_)<;>first | contradiction | (exfalso;omega) | skip)|refine cp (jro _) ?_|refine wkB ?_|exact True.intro|(clear hK K)))
 all_goals (refine jaN [.cell 6 59,.tmp 7] ?_;try simp only [go_sem])
 all_goals (unfold jol;(repeat' split)<;>first | rfl | (exfalso;omega) | (exfalso;simp_all;done) | (simp_all [jag,vB];done) | (exfalso;simp_all;omega) | skip)
theorem j0u (g:ByteArray) (a b:GValue) (ha:a.s.size≤1000000) (hb:b.s.size≤1000000):PCall Tryz.prog 177 [rS g,rV a,rV b] (.tup [rV (jjf g a b).1,rI (jjf g a b).2]):=by
 refine jbA Tryz.func177 Tryz.ntmps177 ?_
 (repeat' (first|refine jaa fun K hK=>?_|refine wkA ?_|(refine hK _ _ ?_;clear hK K)|(refine jad (fun hc=>?_) (fun hc=>?_)<;>first | contradiction | (exfalso;omega) | skip)|refine cp (jfB _) ?_|refine cp (jqw _ _ _) ?_|refine cp (jxq _ _ _) ?_|refine cp (jvK _ _ _ ha hb) ?_|refine wkB ?_|exact True.intro|(clear hK K)))
 all_goals (refine jaN [.cell 6 59,.tmp 7] ?_;try simp only [go_sem])
 all_goals (try unfold jrU);all_goals (try unfold jol)
 all_goals (unfold jjf;(repeat' split)<;>first | rfl | (exfalso;omega) | (exfalso;simp_all;done) | (simp_all [jag,vB];done) | (exfalso;simp_all;omega) | skip)
theorem jsU (g:ByteArray) (a:GValue):PCall Tryz.prog 178 [rS g,rV a] (rV (jem g a)):=by
 refine jbA Tryz.func178 Tryz.ntmps178 ?_
 (repeat' (first|refine jaa fun K hK=>?_|refine wkA ?_|(refine hK _ _ ?_;clear hK K)|(refine jad (fun hc=>?_) (fun hc=>?_)<;>first | contradiction | (exfalso;omega) | skip)|refine cp (jfB _) ?_|refine cp (joL _) ?_|refine wkB ?_|exact True.intro|(clear hK K)))
 all_goals (refine jaN [.cell 4 59] ?_;try simp only [go_sem])
 all_goals (unfold jem;(repeat' split)<;>first | rfl | (exfalso;omega) | (exfalso;simp_all;done) | (simp_all [jag,vB];done) | (exfalso;simp_all;omega) | skip)
abbrev rSl (l:List GValue):AV:=jal jag 3 l
abbrev rHp (h:List (List Int)):AV:=jal eLI 1 h
theorem jpY (slots:List GValue) (k t:Int):PCall Tryz.prog 165 [rSl slots,rI k,rI t] (rV (jgh slots k t)):=by
 refine jbA Tryz.func165 Tryz.ntmps165 ?_
 (repeat' (first|refine jaa fun K hK=>?_|refine wkA ?_|(refine hK _ _ ?_;clear hK K)|(refine jad (fun hc=>?_) (fun hc=>?_)<;>first | contradiction | (exfalso;omega) | skip)|refine cp (jrq _) ?_|refine cp (jye _) ?_|refine wkB ?_|exact True.intro|(clear hK K)))
 all_goals (refine jaN [.cell 6 59] ?_;try simp only [go_sem])
 all_goals (unfold jgh;(repeat' split)<;>first | rfl | (exfalso;omega) | (exfalso;simp_all;done) | (simp_all;done) | skip)
theorem juO (slots:List GValue) (k t:Int):PCall Tryz.prog 158 [rSl slots,rI k,rI t] (rV (jgh slots k t)):=by
 refine jbA Tryz.func158 Tryz.ntmps158 ?_
 (repeat' (first|refine jaa fun K hK=>?_|refine wkA ?_|(refine hK _ _ ?_;clear hK K)|(refine jad (fun hc=>?_) (fun hc=>?_)<;>first | contradiction | (exfalso;omega) | skip)|refine cp (jrr _) ?_|(first | refine cg (jyf _) ?_ | refine cg' (jyf _) ?_)|refine wkB ?_|exact True.intro|(clear hK K)))
 all_goals (refine jaN [.cell 6 59] ?_;try simp only [go_sem])
 all_goals (unfold jgh;(repeat' split)<;>first | rfl | (exfalso;omega) | (exfalso;simp_all;done) | (simp_all;done) | skip)
theorem jqg (heap:List (List Int)) (v:GValue) (hh:heap.length≤1000000):PCall Tryz.prog 166 [rHp heap,rV v] (jal eI 1 (jb2 heap v)):=by
 by_cases h:v.ty≠4∨v.n < 1∨(heap.length:Int) < v.n
 ·rw [jb2,if_pos h]
  refine jbA Tryz.func166 Tryz.ntmps166 ?_
  (repeat' (first|refine jaa fun K hK=>?_|refine wkA ?_|(refine hK _ _ ?_;clear hK K)|(refine jad (fun hc=>?_) (fun hc=>?_)<;>first | contradiction | (exfalso;omega) | skip)|refine wkB ?_|exact True.intro|(clear hK K)))
  all_goals first | (exfalso;omega) | skip
  refine jlF [.tmp 4] ?_
  exact VTo.nil _ _
 ·rw [jb2,if_neg h]
  refine jbA Tryz.func166 Tryz.ntmps166 ?_
  (repeat' (first|refine jaa fun K hK=>?_|refine wkA ?_|(refine hK _ _ ?_;clear hK K)|(refine jad (fun hc=>?_) (fun hc=>?_)<;>first | contradiction | (exfalso;omega) | skip)|refine wkB ?_|exact True.intro|(clear hK K)))
  all_goals first | (exfalso;omega) | skip
  (refine jaN [.tmp 4] ?_;try simp only [go_sem])
theorem jtF (heap:List (List Int)) (v:GValue) (hh:heap.length≤1000000):PCall Tryz.prog 157 [rHp heap,rV v] (jal eI 1 (jb2 heap v)):=by
 by_cases h:v.ty≠4∨v.n < 1∨(heap.length:Int) < v.n
 ·rw [jb2,if_pos h]
  refine jbA Tryz.func157 Tryz.ntmps157 ?_
  (repeat' (first|refine jaa fun K hK=>?_|refine wkA ?_|(refine hK _ _ ?_;clear hK K)|(refine jad (fun hc=>?_) (fun hc=>?_)<;>first | contradiction | (exfalso;omega) | skip)|refine wkB ?_|exact True.intro|(clear hK K)))
  all_goals first | (exfalso;omega) | skip
  refine jlF [.tmp 4] ?_
  exact VTo.nil _ _
 ·rw [jb2,if_neg h]
  refine jbA Tryz.func157 Tryz.ntmps157 ?_
  (repeat' (first|refine jaa fun K hK=>?_|refine wkA ?_|(refine hK _ _ ?_;clear hK K)|(refine jad (fun hc=>?_) (fun hc=>?_)<;>first | contradiction | (exfalso;omega) | skip)|refine wkB ?_|exact True.intro|(clear hK K)))
  all_goals first | (exfalso;omega) | skip
  (refine jaN [.tmp 4] ?_;try simp only [go_sem])
abbrev rP (p:GProg):AV:=.agg (jam p)
def jpt (p:GProg) (slots:List GValue) (heap:List (List Int)) (n:Nat):Prop:=∀ (a:Int),0≤a→a < p.tree.nodes.length→a.toNat < n→isE (jan p.tree.nodes a)→
 PCall Tryz.prog 167 [rP p,rI a,rSl slots,rHp heap] (.tup [rV (jaY p slots heap n a).1,rI (jaY p slots heap n a).2])
def jcd (p:GProg) (slots:List GValue) (heap:List (List Int)) (x:GValue×Int) (a:Int):GValue×Int:=
 if x.2≠0 then (v0,x.2)
 else if x.1.n < 0∨((jb2 heap (jgh slots (nth p.slots a.toNat) 4)).length:Int)≤x.1.n then (v0,2)
 else (vI (nth (jb2 heap (jgh slots (nth p.slots a.toNat) 4)) x.1.n.toNat),0)
def jl9 (s:ByteArray) (x y:GValue×Int):GValue×Int:=
 if x.2≠0 then (v0,x.2)
 else if (s=(⟨#[124,124]⟩:ByteArray)∧x.1.n=1)∨(s=(⟨#[38,38]⟩:ByteArray)∧x.1.n=0) then (x.1,0)
 else if y.2≠0 then (v0,y.2)
 else jjf s x.1 y.1
theorem jqs {A B C D:Prop} (h:(¬A∨¬B)∧(¬C∨¬D)) (k:A∧B∨C∧D):False:=by
 rcases k with ⟨a,b⟩ | ⟨c,d⟩
 ·exact h.1.elim (fun h=>h a) (fun h=>h b)
 ·exact h.2.elim (fun h=>h c) (fun h=>h d)
theorem jty {p:GProg} (slots:List GValue) (heap:List (List Int)) (n:Nat) {a:Int} (k:(nth p.tree.nodes a.toNat).kind=5):jaY p slots heap (n+1) a=jcd p slots heap (jaY p slots heap n (nth (nth p.tree.nodes a.toNat).l 0)) a:=by
 conv=>lhs;unfold jaY
 unfold jcd
 simp only
 rw [if_neg (by omega),if_neg (by omega),if_neg (by omega),if_neg (by omega),if_pos k]
theorem jtz {p:GProg} (slots:List GValue) (heap:List (List Int)) (n:Nat) {a:Int} (k:(nth p.tree.nodes a.toNat).kind=9):jaY p slots heap (n+1) a=jl9 (nth p.tree.nodes a.toNat).name (jaY p slots heap n (nth (nth p.tree.nodes a.toNat).l 0)) (jaY p slots heap n (nth (nth p.tree.nodes a.toNat).l 1)):=by
 conv=>lhs;unfold jaY
 unfold jl9
 simp only
 rw [if_neg (by omega),if_neg (by omega),if_neg (by omega),if_neg (by omega),if_neg (c:=(nth p.tree.nodes a.toNat).kind=5) (by omega),if_pos k]
def jsy (heap:List (List Int)) (k:Int) (x:GValue×Int):GValue×Int:=
 if x.2≠0 then (v0,x.2)
 else if k=6 then (if x.1.ty=3 then (vI x.1.s.size,0) else (vI (jb2 heap x.1).length,0))
 else if k=7 then (jem (⟨#[45]⟩:ByteArray) x.1,0)
 else (jem (⟨#[33]⟩:ByteArray) x.1,0)
theorem jtx {p:GProg} (slots:List GValue) (heap:List (List Int)) (n:Nat) {a:Int} (k:(nth p.tree.nodes a.toNat).kind=6∨(nth p.tree.nodes a.toNat).kind=7∨(nth p.tree.nodes a.toNat).kind=8):jaY p slots heap (n+1) a=jsy heap (nth p.tree.nodes a.toNat).kind (jaY p slots heap n (nth (nth p.tree.nodes a.toNat).l 0)):=by
 conv=>lhs;unfold jaY
 unfold jsy
 simp only
 rw [if_neg (by omega),if_neg (by omega),if_neg (by omega),if_neg (by omega),if_neg (c:=(nth p.tree.nodes a.toNat).kind=5) (by omega),if_neg (c:=(nth p.tree.nodes a.toNat).kind=9) (by omega)]
set_option maxHeartbeats 4000000 in
set_option maxRecDepth 10000 in
theorem jsg {p:GProg} (h:POk p) (slots:List GValue) (heap:List (List Int)) (hh:heap.length≤1000000) (n:Nat) (ih:jpt p slots heap n) (a:Int) (h0:0≤a) (h1:a < p.tree.nodes.length) (hn:a.toNat≤n) (hk:(nth p.tree.nodes a.toNat).kind=5) :
  PCall Tryz.prog 221 [rP p,rI a,rSl slots,rHp heap] (.tup [rV (jcd p slots heap (jaY p slots heap n (nth (nth p.tree.nodes a.toNat).l 0)) a).1,rI (jcd p slots heap (jaY p slots heap n (nth (nth p.tree.nodes a.toNat).l 0)) a).2]):=by
 have sh:=h.tree.shape a.toNat (by omega)
 have hsl:=h.slots
 obtain ⟨x,hl,hx⟩:=sh.1.one (by omega)
 have hlen:(nth p.tree.nodes a.toNat).l.length=1:=by rw [hl];rfl
 have hx':nth (nth p.tree.nodes a.toNat).l 0=x:=by rw [hl];rfl
 have hb:=sh.2.1 x (by rw [hl];simp)
 have hc1:=ih x hb.1 (by omega) (by omega) hx
 refine jbA Tryz.func221 Tryz.ntmps221 ?_
 (have W:=And.intro hlen (hx');repeat' (first|refine jaa fun K hK=>?_|refine wkA ?_|(with_reducible refine gR 1 ?_);refine dL 1 [] [16] [0,1,2,3,4,5,6,7,8,9,10,11,12,13,14,15,16,17,18] mixed ?_|(refine hK _ _ ?_;clear hK K)|(refine jad (fun hc=>?_) (fun hc=>?_)<;>first | contradiction | (exfalso;omega) | skip)|refine cp (hc1) ?_|refine cp (jpY _ _ _) ?_|refine cp (jqg _ _ hh) ?_|refine cp (jjm _) ?_|refine wkB ?_|exact True.intro|(clear hK K)));all_goals (try clear W)
 all_goals (refine jaN [.cell 8 59,.tmp 9] ?_;try simp only [go_sem])
 all_goals (unfold jcd;simp only [hx'];(repeat' split)<;>first | rfl | (exfalso;omega) | (exfalso;simp_all;done) | (simp_all;done) | skip)
set_option maxHeartbeats 4000000 in
set_option maxRecDepth 10000 in
theorem jxp {p:GProg} (h:POk p) (slots:List GValue) (heap:List (List Int)) (n:Nat) (ih:jpt p slots heap n) (a:Int) (h0:0≤a) (h1:a < p.tree.nodes.length) (hn:a.toNat≤n) (hk:(nth p.tree.nodes a.toNat).kind=9) :
  PCall Tryz.prog 222 [rP p,.agg (jao (nth p.tree.nodes a.toNat)),rSl slots,rHp heap] (.tup [rV (jl9 (nth p.tree.nodes a.toNat).name (jaY p slots heap n (nth (nth p.tree.nodes a.toNat).l 0)) (jaY p slots heap n (nth (nth p.tree.nodes a.toNat).l 1))).1,rI (jl9 (nth p.tree.nodes a.toNat).name (jaY p slots heap n (nth (nth p.tree.nodes a.toNat).l 0)) (jaY p slots heap n (nth (nth p.tree.nodes a.toNat).l 1))).2]):=by
 have sh:=h.tree.shape a.toNat (by omega)
 obtain ⟨x,y,hl,hx,hy⟩:=sh.1.two (by omega)
 have hlen:(nth p.tree.nodes a.toNat).l.length=2:=by rw [hl];rfl
 have hx':nth (nth p.tree.nodes a.toNat).l 0=x:=by rw [hl];rfl
 have hy':nth (nth p.tree.nodes a.toNat).l 1=y:=by rw [hl];rfl
 have hb:=sh.2.1 x (by rw [hl];simp)
 have hb2:=sh.2.1 y (by rw [hl];simp)
 have hc1:=ih x hb.1 (by omega) (by omega) hx
 have hc2:=ih y hb2.1 (by omega) (by omega) hy
 have s1:=(jeo h slots heap n x hb.1 (by omega) (by omega) hx).size
 have s2:=(jeo h slots heap n y hb2.1 (by omega) (by omega) hy).size
 refine jbA Tryz.func222 Tryz.ntmps222 ?_
 (have W:=And.intro hlen (And.intro hx' (hy'));repeat' (first|refine jaa fun K hK=>?_|refine wkA ?_|(with_reducible refine gR 1 ?_);refine dL 1 [] [11] [0,1,2,3,4,5,6,7,8,9,10,11,12,13] mixed ?_|(with_reducible refine gR 6 ?_);refine dL 6 [] [11] [0,1,2,3,4,5,6,7,8,9,10,11,12,13] mixed ?_|(refine hK _ _ ?_;clear hK K)|(refine jad (fun hc=>?_) (fun hc=>?_)<;>first | contradiction | (exfalso;omega) | skip)|refine cp (hc1) ?_|refine cp (hc2) ?_|refine cp (jxo _ _ _ (by omega) (by omega)) ?_|refine wkB ?_|exact True.intro|(clear hK K)));all_goals (try clear W)
 all_goals (refine jaN [.cell 8 59,.tmp 9] ?_;try simp only [go_sem])
 all_goals (unfold jl9;simp only [hx',hy'];(repeat' split)<;>first | rfl | exact (jqs (by assumption) (by assumption)).elim | (exfalso;omega) | (exfalso;simp_all;done) | (simp_all;done) | skip)
set_option maxHeartbeats 8000000 in
set_option maxRecDepth 10000 in
theorem jpT {p:GProg} (h:POk p) (slots:List GValue) (heap:List (List Int)) (hh:heap.length≤1000000):∀ n,jpt p slots heap n
 | 0=>fun a _ _ hn _=>by omega
 | n+1=>fun a h0 h1 hn hk=>by
  have ih:=jpT h slots heap hh n
  have sh:=h.tree.shape a.toNat (by omega)
  have hsl:=h.slots
  have hty:=h.types
  have hkr:(nth p.tree.nodes a.toNat).kind=1∨(nth p.tree.nodes a.toNat).kind=2∨(nth p.tree.nodes a.toNat).kind=3∨(nth p.tree.nodes a.toNat).kind=4∨(nth p.tree.nodes a.toNat).kind=5∨(nth p.tree.nodes a.toNat).kind=9∨((nth p.tree.nodes a.toNat).kind=6∨(nth p.tree.nodes a.toNat).kind=7∨(nth p.tree.nodes a.toNat).kind=8):=by
   have:isE (nth p.tree.nodes a.toNat).kind:=hk
   unfold isE at this
   omega
  rcases hkr with k | k | k | k | k | k | k
  ·rw [show jaY p slots heap (n+1) a=(vI (nth p.tree.nodes a.toNat).n,0) from by unfold jaY;simp only;rw [k];rfl]
   refine jbA Tryz.func167 Tryz.ntmps167 ?_
   (have W:=k;repeat' (first|refine jaa fun K hK=>?_|refine wkA ?_|(refine hK _ _ ?_;clear hK K)|(refine jad (fun hc=>?_) (fun hc=>?_)<;>first | contradiction | (exfalso;omega) | skip)|refine cp (jjm _) ?_|refine wkB ?_|exact True.intro|(clear hK K)));all_goals (try clear W)
   (refine jaN [.cell 8 59,.tmp 9] ?_;try simp only [go_sem])
  ·rw [show jaY p slots heap (n+1) a=(vB (decide ((nth p.tree.nodes a.toNat).n=1)),0) from by unfold jaY;simp only;rw [k];rfl]
   refine jbA Tryz.func167 Tryz.ntmps167 ?_
   (have W:=k;repeat' (first|refine jaa fun K hK=>?_|refine wkA ?_|(refine hK _ _ ?_;clear hK K)|(refine jad (fun hc=>?_) (fun hc=>?_)<;>first | contradiction | (exfalso;omega) | skip)|refine cp (jjQ _) ?_|refine wkB ?_|exact True.intro|(clear hK K)));all_goals (try clear W)
   (refine jaN [.cell 8 59,.tmp 9] ?_;try simp only [go_sem])
  ·rw [show jaY p slots heap (n+1) a=(vT (nth p.tree.nodes a.toNat).name,0) from by unfold jaY;simp only;rw [k];rfl]
   refine jbA Tryz.func167 Tryz.ntmps167 ?_
   (have W:=k;repeat' (first|refine jaa fun K hK=>?_|refine wkA ?_|(refine hK _ _ ?_;clear hK K)|(refine jad (fun hc=>?_) (fun hc=>?_)<;>first | contradiction | (exfalso;omega) | skip)|refine cp (jrc _) ?_|refine wkB ?_|exact True.intro|(clear hK K)));all_goals (try clear W)
   (refine jaN [.cell 8 59,.tmp 9] ?_;try simp only [go_sem])
  ·rw [show jaY p slots heap (n+1) a=(jgh slots (nth p.slots a.toNat) (nth p.types a.toNat),0) from by unfold jaY;simp only;rw [k];rfl]
   refine jbA Tryz.func167 Tryz.ntmps167 ?_
   (have W:=k;repeat' (first|refine jaa fun K hK=>?_|refine wkA ?_|(with_reducible refine gR 10 ?_);refine dE 10 [0,1,2,3,4,5,6,7,8,9,10,11,12,13] mixed ?_|(refine hK _ _ ?_;clear hK K)|(refine jad (fun hc=>?_) (fun hc=>?_)<;>first | contradiction | (exfalso;omega) | skip)|refine cp (jpY _ _ _) ?_|refine wkB ?_|exact True.intro|(clear hK K)));all_goals (try clear W)
   (refine jaN [.cell 8 59,.tmp 9] ?_;try simp only [go_sem])
  ·have hi:=jsg h slots heap hh n ih a h0 h1 (by omega) k
   rw [jty slots heap n k]
   refine jbA Tryz.func167 Tryz.ntmps167 ?_
   (have W:=k;repeat' (first|refine jaa fun K hK=>?_|refine wkA ?_|(refine hK _ _ ?_;clear hK K)|(refine jad (fun hc=>?_) (fun hc=>?_)<;>first | contradiction | (exfalso;omega) | skip)|refine cp (hi) ?_|refine wkB ?_|exact True.intro|(clear hK K)));all_goals (try clear W)
   (refine jaN [.cell 8 59,.tmp 9] ?_;try simp only [go_sem])
  ·have hi:=jxp h slots heap n ih a h0 h1 (by omega) k
   rw [jtz slots heap n k]
   refine jbA Tryz.func167 Tryz.ntmps167 ?_
   (have W:=k;repeat' (first|refine jaa fun K hK=>?_|refine wkA ?_|(refine hK _ _ ?_;clear hK K)|(refine jad (fun hc=>?_) (fun hc=>?_)<;>first | contradiction | (exfalso;omega) | skip)|refine cp (hi) ?_|refine wkB ?_|exact True.intro|(clear hK K)));all_goals (try clear W)
   (refine jaN [.cell 8 59,.tmp 9] ?_;try simp only [go_sem])
  ·obtain ⟨x,hl,hx⟩:=sh.1.one (by omega)
   have hlen:(nth p.tree.nodes a.toNat).l.length=1:=by rw [hl];rfl
   have hx':nth (nth p.tree.nodes a.toNat).l 0=x:=by rw [hl];rfl
   have hb:=sh.2.1 x (by rw [hl];simp)
   have hc1:=ih x hb.1 (by omega) (by omega) hx
   have k1:¬ (nth p.tree.nodes a.toNat).kind=1:=by omega
   have k2:¬ (nth p.tree.nodes a.toNat).kind=2:=by omega
   have k3:¬ (nth p.tree.nodes a.toNat).kind=3:=by omega
   have k4:¬ (nth p.tree.nodes a.toNat).kind=4:=by omega
   have k5:¬ (nth p.tree.nodes a.toNat).kind=5:=by omega
   have k9:¬ (nth p.tree.nodes a.toNat).kind=9:=by omega
   rw [jtx slots heap n k,hx']
   refine jbA Tryz.func167 Tryz.ntmps167 ?_
   (have W:=And.intro k1 (And.intro k2 (And.intro k3 (And.intro k4 (And.intro k5 (And.intro k9 (And.intro hlen (hx')))))));repeat' (first|refine jaa fun K hK=>?_|refine wkA ?_|(with_reducible refine gR 15 ?_);refine dL 15 [] [11] [0,1,2,3,4,5,6,7,8,9,10,11,12,13] mixed ?_|(refine hK _ _ ?_;clear hK K)|(refine jad (fun hc=>?_) (fun hc=>?_)<;>first | contradiction | (exfalso;omega) | skip)|refine cp (hc1) ?_|refine cp (jjm _) ?_|refine cp (jvs _ _) ?_|refine cp (jqg _ _ hh) ?_|refine wkB ?_|exact True.intro|(clear hK K)));all_goals (try clear W)
   all_goals (refine jaN [.cell 8 59,.tmp 9] ?_;try simp only [go_sem])
   all_goals (unfold jsy;(repeat' split)<;>first | rfl | (exfalso;omega) | (exfalso;simp_all;done) | (simp_all;done) | skip)
end Go.Proofs.YtfkgcobaheegbaaGreatDoor
namespace Go.Gd
open Go
theorem RS.vtoS {D:Nat→Bool} {t:TypeId} {pre post:List AV} {R:RS} {B:List Nat} {tl:List (Nat×Row)} {k n:Nat} (hk:k < R.frs.length) (hD:∀ i,D i=true) (hn:n=(nth R.frs k).slots.length):VTo D ⟨B,R.e t pre post tl⟩ (.rs (fid 0 k) n 3 n) (jal jag 3 (nth R.frs k).slots):=.row _ (hD _) (RS.getS hk) hn
theorem RS.vtoH {D:Nat→Bool} {t:TypeId} {pre post:List AV} {R:RS} {B:List Nat} {tl:List (Nat×Row)} (hD:∀ i,D i=true):VTo D ⟨B,R.e t pre post tl⟩ (.rs 2 R.heap.length 1 R.heap.length) (jal eLI 1 R.heap):=by
 refine .rs _ 2 1 _ 22 _ _ (hD _) RS.get2 (by simp [go_sem]) (by simp [go_sem]) (fun ds hds=>?_) (jb7 (enc:=eLI) (sz:=1) _) fun k j c d hk h1 h2=>?_
 ·obtain ⟨x,_,rfl⟩:=List.mem_map.1 hds;rfl
 ·have hk:k < R.heap.length:=by simpa [go_sem] using hk
  rw [jgb _ _ _ hk] at h1
  have h2:((List.map eLI R.heap).getD k [])[j]?=some d:=h2
  rw [jdO _ _ _ hk] at h2
  match j with
  | 0=>cases h1;cases h2;exact .row _ (hD _) (RS.getH hk) rfl
  | j+1=>simp at h1
end Go.Gd
namespace Go.Proofs.YtfkgcobaheegbaaGreatDoor
open Go Go.Gd
theorem jsv {p:GProg} {s:GState} (h:¬ (s.status=2∨s.status=3)):jav p s=atV p s:=by unfold jav;rw [if_neg h]
theorem StInv.at_ {p:GProg} (hs:SOk p) {s:GState} (h:StInv p s) (h2:s.status≠2):StAt p s:=by
 have hd:=h.doing h2 0 (by decide)
 have:=hd.stAt hs
 rw [RS.of_st] at this
 exact ⟨this.fr,this.frs,this.pa,this.pas,this.b0,this.b1,this.a0,this.a1,this.ats,this.n0,this.n1,this.sl,this.s0⟩
set_option maxHeartbeats 1000000
set_option maxRecDepth 10000
theorem jki {p:GProg} (hs:SOk p) {s:GState} (h:StInv p s):PCall Tryz.prog 23 [.agg (jam p),.agg (jai s)] (rI (jav p s)):=by
 by_cases h2:s.status=2∨s.status=3
 ·have e:jav p s=-1:=by unfold jav;rw [if_pos h2]
  rw [e]
  refine jbA Tryz.func23 Tryz.ntmps23 ?_
  (repeat' (first|refine jaa fun K hK=>?_|refine wkA ?_|(refine hK _ _ ?_;clear hK K)|(refine jad (fun hc=>?_) (fun hc=>?_)<;>first | contradiction | (exfalso;omega) | skip)|refine wkB ?_|exact True.intro|(clear hK K)))
  all_goals (refine jaN [.tmp 4] ?_;try simp only [go_sem])
 ·have e:=jsv (p:=p) h2
  have hA:=h.at_ hs (fun e=>h2 (.inl e))
  rw [e]
  refine jbA Tryz.func23 Tryz.ntmps23 ?_
  (repeat' (first|refine jaa fun K hK=>?_|refine wkA ?_|(refine hK _ _ ?_;clear hK K)|(refine jad (fun hc=>?_) (fun hc=>?_)<;>first | contradiction | (exfalso;omega) | skip)|refine cp (jxi p s hA.fr hA.frs hA.pa hA.pas hA.b0 hA.b1 hA.a0 hA.a1) ?_|refine wkB ?_|exact True.intro|(clear hK K)))
  all_goals (refine jaN [.tmp 4] ?_;try simp only [go_sem])
theorem jeH (h:List (List Int)) (k:Nat) (hk:k < h.length) (n:Int):(h.take (k+1)).foldl jfv n=(h.take k).foldl jfv n+(nth h k).length:=by
 rw [jgc hk,List.foldl_append];rfl
theorem jnf (h:List (List Int)) (hh:jbh h≤1000000):PCall Tryz.prog 25 [rHp h] (rI (jbh h)):=by
 have hlen:=jaO h
 have hf:∀ k,(h.take k).foldl jfv (h.length:Int)≤jbh h∧0≤(h.take k).foldl jfv (h.length:Int):=fun k=>by
  have e:jbh h=(h.drop k).foldl jfv ((h.take k).foldl jfv (h.length:Int)):=by
   unfold jbh;rw [← List.foldl_append,List.take_append_drop]
  rw [e,ja2 (h.drop k),ja2 (h.take k)]
  have:=jfl (h.drop k);have:=jfl (h.take k);omega
 refine jbA Tryz.func25 Tryz.ntmps25 ?_
 (repeat' (first|refine jaa fun K hK=>?_|refine wkA ?_|(refine hK _ _ ?_;clear hK K)|(refine jad (fun hc=>?_) (fun hc=>?_)<;>first | contradiction | (exfalso;omega) | skip)|refine wkB ?_|exact True.intro|(clear hK K)))
 have hKo:=hK;clear hK
 refine jah (S:=Nat) [(3,2),(7,13)] (fun k=>k≤h.length) (fun k=>[(3,rI ((h.take k).foldl jfv (h.length:Int))),(4,rI k)]) (fun k=>⟨[],[]⟩) (fun k=>h.length - k) 0 (by omega) (jaE (by simp only [go_sem]) lle) ?_
 rintro k hk Kr hKr
 have h1:=hf k
 have h2:k < h.length→(h.take k).foldl jfv (h.length:Int)+(nth h k).length≤1000000:=fun hk=>by
  have:=hf (k+1)
  rw [jeH h k hk] at this;omega
 (refine S ?_;try exact True.intro)
 (repeat' (first|refine jaa fun K hK=>?_|refine wkA ?_|(refine hK _ _ ?_;clear hK K)|(refine jad (fun hc=>?_) (fun hc=>?_)<;>first | contradiction | (exfalso;omega) | skip)|(refine hKo _ _ ?_)|refine wkB ?_|exact True.intro|(clear hK K)))
 ·have e:=jeH h k (by omega) (h.length:Int)
  refine hKr _ _ (jau (k+1) (by omega) (by (try simp only);omega) (by simp only [go_sem]) ?_)
  rw [e]
  exact lle
 ·(refine jaN [.tmp 2] ?_;try simp only [go_sem])
  rw [show k=h.length by omega,List.take_length];rfl
theorem js5 (p:GProg) (node:Int) (v:GValue) (R:RS) (ho:OnOk R) (h0:0≤node) (h1:node < p.tree.nodes.length) (hsl:p.slots.length=p.tree.nodes.length) (hs:0≤nth p.slots node.toNat∧nth p.slots node.toNat < (nth R.frs (R.nf - 1)).slots.length) :
  ACalls Tryz.prog 163 [.agg (jam p),.pt 0 0 0 0,rI node,.agg (jag v)] (R.e 39 [] [] []) (fun r l=>r=.tup []∧l=(R.store p node v).e 39 [] [] []):=by
 have hnf:=ho.ok.nf
 have hn1:=ho.nf
 have hfr:=ho.frs
 have hs1:=hs.1
 have hs2:=hs.2
 have hk:R.nf - 1 < R.frs.length:=by omega
 have hon:=jmG (R.setS p node v) (ho.upd rfl)
 have hj:∀ j,(if j=R.nf - 1 then Row.vec 59 3 ((List.map jag (nth R.frs (R.nf - 1)).slots).set (nth p.slots node.toNat).toNat (jag v++List.drop 3 (jag (nth (nth R.frs (R.nf - 1)).slots (nth p.slots node.toNat).toNat)))) else Row.vec 59 3 (List.map jag (nth R.frs j).slots))=if j=R.nf - 1 then .vec 59 3 (((nth R.frs (R.nf - 1)).slots.set (nth p.slots node.toNat).toNat v).map jag) else R.sl j:=fun j=>by
  by_cases e:j=R.nf - 1
  ·rw [if_pos e,if_pos e,List.map_set];rfl
  ·rw [if_neg e,if_neg e];rfl
 have hlow:=fun (r s:Row)=>jgy (i:=4) (j:=5) (r:=r) (s:=s) (by omega) (by omega)
 refine jaw Tryz.func163 Tryz.ntmps163 ?_
 generalize hB:ids (R.e 39 [] [] [])=B
 generalize hE:(R.store p node v).e 39 [] [] []=E
 (refine S ?_;try exact True.intro)
 (repeat' (first|refine jaa fun K hK=>?_|refine wkA ?_|(with_reducible refine gR 1 ?_);refine dE 1 [0,1,2,3,4,5,6,7,8,9,10,11,12,13,14,15,16,17,18,19,20] mixed ?_|(refine hK _ _ ?_;clear hK K)|(refine jad (fun hc=>?_) (fun hc=>?_)<;>first | contradiction | (exfalso;omega) | skip)|refine bxF 4 ?_|refine bxF 5 ?_|(refine cE (R:=R.setS p node v) (R':=(R.setS p node v).on) (pre:=[]) (post:=[]) (pre':=[]) (post':=[]) hon (congrArg (Hp.mk B) (RS.e_slots (R:=R) (k:=R.nf - 1) hk (List.length_set ..) rfl hj)) (Nat.le_of_eq RS.upd_len) (Nat.le_refl _) rfl rfl (hlow _ _) rfl (by simp only [go_sem]) ?_;(refine S ?_;try exact True.intro))|refine wkB ?_|exact True.intro|(clear hK K)))
 subst hE
 exact jb8 (R':=(R.setS p node v).on) (tl:=[(4,.var 29 (jam p)),(5,.var 59 (jag v))]) rfl hB [] (hlow _ _) rfl rfl rfl
theorem jc9 {p:GProg} (h:SOk p) (R:RS) (hok:R.Ok) (h1:1≤R.nf) (h8:R.frs.length≤1000) (hh:R.heap.length≤1000000) (a:Int) (h0:0≤a) (hl:a.toNat < p.tree.nodes.length) (hk:isE (jan p.tree.nodes a)) :
  ACalls Tryz.prog 119 [.agg (jam p),.pt 0 0 0 0,rI a] (R.e 39 [] [] []) (fun r l=>r=.tup [rV (R.val p a).1,rI (R.val p a).2]∧l=R.e 39 [] [] []):=by
 have hnf:=hok.nf
 have hx:=jpT h.ok R.topF.slots R.heap hh p.tree.nodes.length a h0 (by omega) (by omega) hk
 have hkk:R.nf - 1 < R.frs.length:=by omega
 have hlow:=fun (r s:Row)=>jgy (i:=4) (j:=5) (r:=r) (s:=s) (by omega) (by omega)
 change PCall _ _ _ (.tup [rV (R.val p a).1,rI (R.val p a).2]) at hx
 generalize R.val p a=X at hx ⊢
 suffices key:∀ R':RS,R'=R→ACalls Tryz.prog 119 [.agg (jam p),.pt 0 0 0 0,rI a] (R.e 39 [] [] []) (fun r l=>r=.tup [rV X.1,rI X.2]∧l=R'.e 39 [] [] []) from key R rfl
 intro R' hR'
 refine jaw Tryz.func119 Tryz.ntmps119 ?_
 generalize hB:ids (R.e 39 [] [] [])=B
 generalize hE:R'.e 39 [] [] []=E
 (refine S ?_;try exact True.intro)
 (repeat' (first|refine jaa fun K hK=>?_|refine wkA ?_|(with_reducible refine gR 1 ?_);refine dE 1 [0,1,2,3,4,5,6,7,8,9,10,11,12,13,14,15,16,17,18,19,20,21,22,23] mixed ?_|(refine hK _ _ ?_;clear hK K)|(refine jad (fun hc=>?_) (fun hc=>?_)<;>first | contradiction | (exfalso;omega) | skip)|refine bxF 4 ?_|refine alF 5 ?_|(refine cL (args':=[rP p,rI a,rSl R.topF.slots,rHp R.heap]) hx (show VToL _ ⟨B,R.e 39 [] [] _⟩ _ _ from ⟨.same _ rfl,.same _ rfl,RS.vtoS hkk (fun _=>rfl) rfl,RS.vtoH (fun _=>rfl),trivial⟩) rfl (by simp only [go_sem]) ?_;(refine S ?_;try exact True.intro))|refine wkB ?_|exact True.intro|(clear hK K)))
 subst hE
 subst hR'
 exact jb8 (R':=R') (tl:=[(4,.var 29 (jam p)),(5,.var 59 (jag X.1))]) rfl hB [.cell 6 59,.tmp 7] (hlow _ _) rfl rfl rfl
end Go.Proofs.YtfkgcobaheegbaaGreatDoor
namespace Go.Gd
open Go
theorem jlv {P:Program} {f:FuncId} {args:List AV} {r:AV} (vals:List Value) (v:Value) (ha:args=vals.map .raw) (hr:∀ w:NW,RelV w r v) (h:∀ w:NW,Glob w→Calls P f vals.toArray w.toWorld fun e w'=>e=.returned v∧RowKit.Below w.heap.size w.toWorld w'):PCall P f args r:=by
 intro w vs h1 h2
 have hvs:vs=vals.toArray:=by
  apply Array.ext'
  apply List.ext_getElem?
  intro i
  obtain ⟨hl,hv⟩:=h2
  subst ha
  by_cases hi:i < vals.length
  ·have hi':i < vs.size:=by rw [← hl];simpa using hi
   have:=jar (hv i (.raw vals[i]) vs[i] (by simp [hi]) (by simp [hi']))
   simp [hi,hi',this]
  ·have hi':¬ i < vs.size:=by rw [← hl];simpa using hi
   rw [List.getElem?_eq_none (by simpa using hi'),List.getElem?_eq_none (by simpa using hi)]
 subst hvs
 refine (h w h1.glob).mono ?_
 rintro e W ⟨rfl,hb⟩
 have ex:Ext w (entry []) (w.to W) (entry []):={ size:=hb.size,free:=fun b hb' hO=>⟨hb.block b hb',hO⟩,names:=fun _ _ _ _ h=>h,os:=hb.os,tape:=hb.tape,output:=hb.output,rest:=fun b hb' hO hno=>⟨hb.block b hb',hO,hno⟩,base:=rfl }
 refine ⟨v,r,entry [],w.to W,rfl,rfl,⟨rfl,rfl⟩,{ rows:=fun i row hi=>(by cases hi),dom:=h1.dom,inj:=h1.inj,own:=h1.own,glob:=h1.glob.keep ex.toKeep,fin:=fun b hb'=>Nat.lt_of_lt_of_le (h1.fin b hb') hb.size },hr _,ex.toB⟩
def rng (n:Int):Prop:=-9223372036854775808≤n∧n≤9223372036854775807
end Go.Gd
namespace Go.Proofs.YtfkgcobaheegbaaGreatDoor
open Go Go.Gd
theorem jyF (w : NW) (hg : Glob w) : Lib.TabIs Tryz.prog w.toWorld "internal/strconv.uint64pow10" .u64 Lib.pow10Tab := by
 obtain ⟨⟨cur,el,fr,h1,h2⟩,_⟩:=hg 0 (Lib.pow10Tab.map (Value.int .u64)) (by unfold juP;simp)
 unfold Lib.TabIs World.var?
 rw [show Tryz.prog.globalNamed "internal/strconv.uint64pow10" = some 0 by kernel_rfl]
 simp only [Option.bind_some,h1,Option.some.injEq]
 apply Array.ext'
 simpa using h2
theorem jtD (n:Int) (h:rng n):PCall Tryz.prog 91 [rI n] (rS (juV n)):=by
 refine jlv [.int .i64 n] (.string (juV n)) rfl (fun w=>.raw _) fun w hg=>?_
 refine (Tryz.strconv_Itoa n h.1 h.2 w.toWorld (jyF w hg)).mono ?_
 rintro e W ⟨rfl,k,os,rfl⟩
 refine ⟨rfl,⟨rfl,rfl,rfl,?_,fun b hb=>?_⟩⟩
 ·show w.heap.size≤(w.heap++os).size
  simp
 ·show (w.heap++os)[b]?=w.heap[b]?
  rw [Array.getElem?_append_left hb]
theorem jrT (b:Bool):PCall Tryz.prog 218 [rB b] (rS (if b=true then (⟨#[116,114,117,101]⟩:ByteArray) else (⟨#[102,97,108,115,101]⟩:ByteArray))):=by
 refine jim [.bool b] (.string (if b=true then (⟨#[116,114,117,101]⟩:ByteArray) else (⟨#[102,97,108,115,101]⟩:ByteArray))) rfl (fun w=>.raw _) fun w=>?_
 refine (Tryz.strconv_FormatBool b w).mono ?_
 rintro e W ⟨rfl,rfl⟩
 refine ⟨?_,RowKit.Below.refl _ _⟩
 cases b<;>rfl
set_option maxHeartbeats 1000000
set_option maxRecDepth 10000
theorem jv2 (v:GValue) (h:rng v.n):PCall Tryz.prog 120 [rV v] (rS (jeh v)):=by
 refine jbA Tryz.func120 Tryz.ntmps120 ?_
 (repeat' (first|refine jaa fun K hK=>?_|refine wkA ?_|(refine hK _ _ ?_;clear hK K)|(refine jad (fun hc=>?_) (fun hc=>?_)<;>first | contradiction | (exfalso;omega) | skip)|refine cp (jtD _ h) ?_|refine wkB ?_|exact True.intro|(clear hK K)))
 all_goals (refine jaN [.tmp 2] ?_;try simp only [go_sem])
 all_goals (unfold jeh;(repeat' split)<;>first | rfl | (exfalso;omega) | contradiction | (simp_all;done) | skip)
theorem jv3 (v:GValue) (h:rng v.n):PCall Tryz.prog 160 [rV v] (rS (jeh v)):=by
 refine jbA Tryz.func160 Tryz.ntmps160 ?_
 (repeat' (first|refine jaa fun K hK=>?_|refine wkA ?_|(refine hK _ _ ?_;clear hK K)|(refine jad (fun hc=>?_) (fun hc=>?_)<;>first | contradiction | (exfalso;omega) | skip)|refine cp (jtD _ h) ?_|refine cp (jrT _) ?_|refine wkB ?_|exact True.intro|(clear hK K)))
 all_goals (refine jaN [.tmp 2] ?_;try simp only [go_sem])
 all_goals (unfold jeh;(repeat' split)<;>first | rfl | (exfalso;omega) | contradiction | (simp_all;done) | skip)
end Go.Proofs.YtfkgcobaheegbaaGreatDoor
