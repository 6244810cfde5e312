/- Values: the program's. What expressions tell: variables, lists. What expressions tell: the document's. What expressions tell: the document's, whole. What a program means: what is told of a state, and small steps. Numbers and values as texts: what the library tells. No conditions. -/
import Derived.Test.YtdekkklnfifphaaGreatDoorSoP
import Derived.Test.YtdekkklnfifphaaGreatDoorEvS
import Derived.Test.YtdekkklnfifphaaGreatDoorP5
import Derived.Test.YtdekkklnfifphaaGreatDoorViS
set_option linter.all false
namespace Go.Proofs.YtdekkklnfifphaaGreatDoor
open Go Go.Gd
set_option maxHeartbeats 1000000
set_option maxRecDepth 10000
theorem j0m (t:Int):PCall Tryz.prog 85 [rI t] (rV (vZ t)):=by
 refine jbO Tryz.func85 Tryz.ntmps85 ?_
 (repeat' (first|refine jaa fun K hK=>?_|refine wkA ?_|(refine hK _ _ ?_;clear hK K)|(refine jad (fun hc=>?_) (fun hc=>?_)<;>first | contradiction | (exfalso;omega) | skip)|refine wkB ?_|exact True.intro|(clear hK K)))
 (refine jaU [.cell 2 49] ?_;try simp only [go_sem])
 rfl
theorem j2v (v:GValue):PCall Tryz.prog 122 [rV v] (rB (jl7 v)):=by
 refine jbO Tryz.func122 Tryz.ntmps122 ?_
 (repeat' (first|refine jaa fun K hK=>?_|refine wkA ?_|(refine hK _ _ ?_;clear hK K)|(refine jad (fun hc=>?_) (fun hc=>?_)<;>first | contradiction | (exfalso;omega) | skip)|refine wkB ?_|exact True.intro|(clear hK K)))
 all_goals (refine jaU [.tmp 2] ?_;try simp only [go_sem])
 all_goals (unfold jl7;(repeat' split)<;>first | rfl | (exfalso;omega) | (exfalso;simp_all;done) | skip)
 all_goals (refine jpf ?_;by_cases hs:v.s=sE<;>simp [hs]<;>omega)
def j4R (g:ByteArray) (a b:Int):GValue×Int:=if g=(⟨#[60]⟩:ByteArray) then (vB (decide (a < b)),0) else if g=(⟨#[60,61]⟩:ByteArray) then (vB (decide (a≤b)),0) else (v0,0)
def j51 (g:ByteArray) (a b:Bool):GValue×Int:=if g=(⟨#[124,124]⟩:ByteArray) then (vB (a || b),0) else if g=(⟨#[38,38]⟩:ByteArray) then (vB (a && b),0) else (v0,0)
def j41 (g a b:ByteArray):GValue×Int:=if g=(⟨#[43]⟩:ByteArray) then (if (a.size:Int)+b.size > 40 then (v0,6) else (vT (a++b),0)) else (v0,0)
abbrev rSl (l:List GValue):AV:=jaI jan 3 l
abbrev rHp (h:List (List Int)):AV:=jaI eLI 1 h
theorem jnC (slots:List GValue) (k t:Int):PCall Tryz.prog 76 [rSl slots,rI k,rI t] (rV (jes slots k t)):=by
 refine jbO Tryz.func76 Tryz.ntmps76 ?_
 (repeat' (first|refine jaa fun K hK=>?_|refine wkA ?_|(refine hK _ _ ?_;clear hK K)|(refine jad (fun hc=>?_) (fun hc=>?_)<;>first | contradiction | (exfalso;omega) | skip)|refine cp (jr9 _) ?_|refine cp (jzo _) ?_|refine wkB ?_|exact True.intro|(clear hK K)))
 all_goals (refine jaU [.cell 6 49] ?_;try simp only [go_sem])
 all_goals (unfold jes;(repeat' split)<;>first | rfl | (exfalso;omega) | (exfalso;simp_all;done) | (simp_all;done) | skip)
theorem jqE (heap:List (List Int)) (v:GValue) (hh:heap.length≤1000000):PCall Tryz.prog 140 [rHp heap,rV v] (jaI eI 1 (jc7 heap v)):=by
 by_cases h:v.ty≠4∨v.n < 1∨(heap.length:Int) < v.n
 ·rw [jc7,if_pos h]
  refine jbO Tryz.func140 Tryz.ntmps140 ?_
  (repeat' (first|refine jaa fun K hK=>?_|refine wkA ?_|(refine hK _ _ ?_;clear hK K)|(refine jad (fun hc=>?_) (fun hc=>?_)<;>first | contradiction | (exfalso;omega) | skip)|refine wkB ?_|exact True.intro|(clear hK K)))
  all_goals first | (exfalso;omega) | skip
  refine jfG [.tmp 4] ?_
  exact VTo.nil _ _
 ·rw [jc7,if_neg h]
  refine jbO Tryz.func140 Tryz.ntmps140 ?_
  (repeat' (first|refine jaa fun K hK=>?_|refine wkA ?_|(refine hK _ _ ?_;clear hK K)|(refine jad (fun hc=>?_) (fun hc=>?_)<;>first | contradiction | (exfalso;omega) | skip)|refine wkB ?_|exact True.intro|(clear hK K)))
  all_goals first | (exfalso;omega) | skip
  (refine jaU [.tmp 4] ?_;try simp only [go_sem])
abbrev rP (p:GProg):AV:=.agg (jah p)
def jpO (p:GProg) (slots:List GValue) (heap:List (List Int)) (n:Nat):Prop:=∀ (a:Int),0≤a→a < p.tree.nodes.length→a.toNat < n→isE (jak p.tree.nodes a)→
 PCall Tryz.prog 141 [rP p,rI a,rSl slots,rHp heap] (.tup [rV (jbH p slots heap n a).1,rI (jbH p slots heap n a).2])
def jk3 (p:GProg) (slots:List GValue) (heap:List (List Int)) (x:GValue×Int) (a:Int):GValue×Int:=
 if x.2≠0 then (v0,x.2)
 else if x.1.n < 0∨((jc7 heap (jes slots (nth p.slots a.toNat) 4)).length:Int)≤x.1.n then (v0,2)
 else (vI (nth (jc7 heap (jes slots (nth p.slots a.toNat) 4)) x.1.n.toNat),0)
def jyb (s:ByteArray) (x y:GValue×Int):GValue×Int:=
 if x.2≠0 then (v0,x.2)
 else if (s=(⟨#[124,124]⟩:ByteArray)∧x.1.n=1)∨(s=(⟨#[38,38]⟩:ByteArray)∧x.1.n=0) then (x.1,0)
 else if y.2≠0 then (v0,y.2)
 else jp0 s x.1 y.1
theorem jvZ {A B C D:Prop} (h:(¬A∨¬B)∧(¬C∨¬D)) (k:A∧B∨C∧D):False:=by
 rcases k with ⟨a,b⟩ | ⟨c,d⟩
 ·exact h.1.elim (fun h=>h a) (fun h=>h b)
 ·exact h.2.elim (fun h=>h c) (fun h=>h d)
theorem jyW {p:GProg} (slots:List GValue) (heap:List (List Int)) (n:Nat) {a:Int} (k:(nth p.tree.nodes a.toNat).kind=5):jbH p slots heap (n+1) a=jk3 p slots heap (jbH p slots heap n (nth (nth p.tree.nodes a.toNat).l 0)) a:=by
 conv=>lhs;unfold jbH
 unfold jk3
 simp only
 rw [if_neg (by omega),if_neg (by omega),if_neg (by omega),if_neg (by omega),if_pos k]
theorem jyX {p:GProg} (slots:List GValue) (heap:List (List Int)) (n:Nat) {a:Int} (k:(nth p.tree.nodes a.toNat).kind=9):jbH p slots heap (n+1) a=jyb (nth p.tree.nodes a.toNat).name (jbH p slots heap n (nth (nth p.tree.nodes a.toNat).l 0)) (jbH p slots heap n (nth (nth p.tree.nodes a.toNat).l 1)):=by
 conv=>lhs;unfold jbH
 unfold jyb
 simp only
 rw [if_neg (by omega),if_neg (by omega),if_neg (by omega),if_neg (by omega),if_neg (c:=(nth p.tree.nodes a.toNat).kind=5) (by omega),if_pos k]
def j2w (heap:List (List Int)) (k:Int) (x:GValue×Int):GValue×Int:=
 if x.2≠0 then (v0,x.2)
 else if k=6 then (if x.1.ty=3 then (vI x.1.s.size,0) else (vI (jc7 heap x.1).length,0))
 else if k=7 then (jhk (⟨#[45]⟩:ByteArray) x.1,0)
 else (jhk (⟨#[33]⟩:ByteArray) x.1,0)
theorem jyV {p:GProg} (slots:List GValue) (heap:List (List Int)) (n:Nat) {a:Int} (k:(nth p.tree.nodes a.toNat).kind=6∨(nth p.tree.nodes a.toNat).kind=7∨(nth p.tree.nodes a.toNat).kind=8):jbH p slots heap (n+1) a=j2w heap (nth p.tree.nodes a.toNat).kind (jbH p slots heap n (nth (nth p.tree.nodes a.toNat).l 0)):=by
 conv=>lhs;unfold jbH
 unfold j2w
 simp only
 rw [if_neg (by omega),if_neg (by omega),if_neg (by omega),if_neg (by omega),if_neg (c:=(nth p.tree.nodes a.toNat).kind=5) (by omega),if_neg (c:=(nth p.tree.nodes a.toNat).kind=9) (by omega)]
set_option maxHeartbeats 4000000 in
set_option maxRecDepth 10000 in
theorem jsY {p:GProg} (h:POk p) (slots:List GValue) (heap:List (List Int)) (hh:heap.length≤1000000) (n:Nat) (ih:jpO p slots heap n) (a:Int) (h0:0≤a) (h1:a < p.tree.nodes.length) (hn:a.toNat≤n) (hk:(nth p.tree.nodes a.toNat).kind=5) :
  PCall Tryz.prog 167 [rP p,rI a,rSl slots,rHp heap] (.tup [rV (jk3 p slots heap (jbH p slots heap n (nth (nth p.tree.nodes a.toNat).l 0)) a).1,rI (jk3 p slots heap (jbH p slots heap n (nth (nth p.tree.nodes a.toNat).l 0)) a).2]):=by
 have sh:=h.tree.shape a.toNat (by omega)
 have hsl:=h.slots
 obtain ⟨x,hl,hx⟩:=sh.1.one (by omega)
 have hlen:(nth p.tree.nodes a.toNat).l.length=1:=by rw [hl];rfl
 have hx':nth (nth p.tree.nodes a.toNat).l 0=x:=by rw [hl];rfl
 have hb:=sh.2.1 x (by rw [hl];simp)
 have hc1:=ih x hb.1 (by omega) (by omega) hx
 refine jbO Tryz.func167 Tryz.ntmps167 ?_
 (have W:=And.intro hlen (hx');repeat' (first|refine jaa fun K hK=>?_|refine wkA ?_|(with_reducible refine gR 1 ?_);refine dL 1 [] [16] [0,1,2,3,4,5,6,7,8,9,10,11,12,13,14,15,16,17,18] mixed ?_|(refine hK _ _ ?_;clear hK K)|(refine jad (fun hc=>?_) (fun hc=>?_)<;>first | contradiction | (exfalso;omega) | skip)|refine cp (hc1) ?_|refine cp (jnC _ _ _) ?_|refine cp (jqE _ _ hh) ?_|refine cp (ji5 _) ?_|refine wkB ?_|exact True.intro|(clear hK K)));all_goals (try clear W)
 all_goals (refine jaU [.cell 8 49,.tmp 9] ?_;try simp only [go_sem])
 all_goals (unfold jk3;simp only [hx'];(repeat' split)<;>first | rfl | (exfalso;omega) | (exfalso;simp_all;done) | (simp_all;done) | skip)
set_option maxHeartbeats 4000000 in
set_option maxRecDepth 10000 in
theorem jya {p:GProg} (h:POk p) (slots:List GValue) (heap:List (List Int)) (n:Nat) (ih:jpO p slots heap n) (a:Int) (h0:0≤a) (h1:a < p.tree.nodes.length) (hn:a.toNat≤n) (hk:(nth p.tree.nodes a.toNat).kind=9) :
  PCall Tryz.prog 168 [rP p,.agg (jaH (nth p.tree.nodes a.toNat)),rSl slots,rHp heap] (.tup [rV (jyb (nth p.tree.nodes a.toNat).name (jbH p slots heap n (nth (nth p.tree.nodes a.toNat).l 0)) (jbH p slots heap n (nth (nth p.tree.nodes a.toNat).l 1))).1,rI (jyb (nth p.tree.nodes a.toNat).name (jbH p slots heap n (nth (nth p.tree.nodes a.toNat).l 0)) (jbH p slots heap n (nth (nth p.tree.nodes a.toNat).l 1))).2]):=by
 have sh:=h.tree.shape a.toNat (by omega)
 obtain ⟨x,y,hl,hx,hy⟩:=sh.1.two (by omega)
 have hlen:(nth p.tree.nodes a.toNat).l.length=2:=by rw [hl];rfl
 have hx':nth (nth p.tree.nodes a.toNat).l 0=x:=by rw [hl];rfl
 have hy':nth (nth p.tree.nodes a.toNat).l 1=y:=by rw [hl];rfl
 have hb:=sh.2.1 x (by rw [hl];simp)
 have hb2:=sh.2.1 y (by rw [hl];simp)
 have hc1:=ih x hb.1 (by omega) (by omega) hx
 have hc2:=ih y hb2.1 (by omega) (by omega) hy
 have s1:=(jhP h slots heap n x hb.1 (by omega) (by omega) hx).size
 have s2:=(jhP h slots heap n y hb2.1 (by omega) (by omega) hy).size
 refine jbO Tryz.func168 Tryz.ntmps168 ?_
 (have W:=And.intro hlen (And.intro hx' (hy'));repeat' (first|refine jaa fun K hK=>?_|refine wkA ?_|(with_reducible refine gR 1 ?_);refine dL 1 [] [11] [0,1,2,3,4,5,6,7,8,9,10,11,12,13] mixed ?_|(with_reducible refine gR 6 ?_);refine dL 6 [] [11] [0,1,2,3,4,5,6,7,8,9,10,11,12,13] mixed ?_|(refine hK _ _ ?_;clear hK K)|(refine jad (fun hc=>?_) (fun hc=>?_)<;>first | contradiction | (exfalso;omega) | skip)|refine cp (hc1) ?_|refine cp (hc2) ?_|refine cp (jx9 _ _ _ (by omega) (by omega)) ?_|refine wkB ?_|exact True.intro|(clear hK K)));all_goals (try clear W)
 all_goals (refine jaU [.cell 8 49,.tmp 9] ?_;try simp only [go_sem])
 all_goals (unfold jyb;simp only [hx',hy'];(repeat' split)<;>first | rfl | exact (jvZ (by assumption) (by assumption)).elim | (exfalso;omega) | (exfalso;simp_all;done) | (simp_all;done) | skip)
set_option maxHeartbeats 8000000 in
set_option maxRecDepth 10000 in
theorem jqd {p:GProg} (h:POk p) (slots:List GValue) (heap:List (List Int)) (hh:heap.length≤1000000):∀ n,jpO p slots heap n
 | 0=>fun a _ _ hn _=>by omega
 | n+1=>fun a h0 h1 hn hk=>by
  have ih:=jqd h slots heap hh n
  have sh:=h.tree.shape a.toNat (by omega)
  have hsl:=h.slots
  have hty:=h.types
  have hkr:(nth p.tree.nodes a.toNat).kind=1∨(nth p.tree.nodes a.toNat).kind=2∨(nth p.tree.nodes a.toNat).kind=3∨(nth p.tree.nodes a.toNat).kind=4∨(nth p.tree.nodes a.toNat).kind=5∨(nth p.tree.nodes a.toNat).kind=9∨((nth p.tree.nodes a.toNat).kind=6∨(nth p.tree.nodes a.toNat).kind=7∨(nth p.tree.nodes a.toNat).kind=8):=by
   have:isE (nth p.tree.nodes a.toNat).kind:=hk
   unfold isE at this
   omega
  rcases hkr with k | k | k | k | k | k | k
  ·rw [show jbH p slots heap (n+1) a=(vI (nth p.tree.nodes a.toNat).n,0) from by unfold jbH;simp only;rw [k];rfl]
   refine jbO Tryz.func141 Tryz.ntmps141 ?_
   (have W:=k;repeat' (first|refine jaa fun K hK=>?_|refine wkA ?_|(refine hK _ _ ?_;clear hK K)|(refine jad (fun hc=>?_) (fun hc=>?_)<;>first | contradiction | (exfalso;omega) | skip)|refine cp (ji5 _) ?_|refine wkB ?_|exact True.intro|(clear hK K)));all_goals (try clear W)
   (refine jaU [.cell 8 49,.tmp 9] ?_;try simp only [go_sem])
  ·rw [show jbH p slots heap (n+1) a=(vB (decide ((nth p.tree.nodes a.toNat).n=1)),0) from by unfold jbH;simp only;rw [k];rfl]
   refine jbO Tryz.func141 Tryz.ntmps141 ?_
   (have W:=k;repeat' (first|refine jaa fun K hK=>?_|refine wkA ?_|(refine hK _ _ ?_;clear hK K)|(refine jad (fun hc=>?_) (fun hc=>?_)<;>first | contradiction | (exfalso;omega) | skip)|refine cp (jjG _) ?_|refine wkB ?_|exact True.intro|(clear hK K)));all_goals (try clear W)
   (refine jaU [.cell 8 49,.tmp 9] ?_;try simp only [go_sem])
  ·rw [show jbH p slots heap (n+1) a=(vT (nth p.tree.nodes a.toNat).name,0) from by unfold jbH;simp only;rw [k];rfl]
   refine jbO Tryz.func141 Tryz.ntmps141 ?_
   (have W:=k;repeat' (first|refine jaa fun K hK=>?_|refine wkA ?_|(refine hK _ _ ?_;clear hK K)|(refine jad (fun hc=>?_) (fun hc=>?_)<;>first | contradiction | (exfalso;omega) | skip)|refine cp (jrO _) ?_|refine wkB ?_|exact True.intro|(clear hK K)));all_goals (try clear W)
   (refine jaU [.cell 8 49,.tmp 9] ?_;try simp only [go_sem])
  ·rw [show jbH p slots heap (n+1) a=(jes slots (nth p.slots a.toNat) (nth p.types a.toNat),0) from by unfold jbH;simp only;rw [k];rfl]
   refine jbO Tryz.func141 Tryz.ntmps141 ?_
   (have W:=k;repeat' (first|refine jaa fun K hK=>?_|refine wkA ?_|(with_reducible refine gR 10 ?_);refine dE 10 [0,1,2,3,4,5,6,7,8,9,10,11,12,13] mixed ?_|(refine hK _ _ ?_;clear hK K)|(refine jad (fun hc=>?_) (fun hc=>?_)<;>first | contradiction | (exfalso;omega) | skip)|refine cp (jnC _ _ _) ?_|refine wkB ?_|exact True.intro|(clear hK K)));all_goals (try clear W)
   (refine jaU [.cell 8 49,.tmp 9] ?_;try simp only [go_sem])
  ·have hi:=jsY h slots heap hh n ih a h0 h1 (by omega) k
   rw [jyW slots heap n k]
   refine jbO Tryz.func141 Tryz.ntmps141 ?_
   (have W:=k;repeat' (first|refine jaa fun K hK=>?_|refine wkA ?_|(refine hK _ _ ?_;clear hK K)|(refine jad (fun hc=>?_) (fun hc=>?_)<;>first | contradiction | (exfalso;omega) | skip)|refine cp (hi) ?_|refine wkB ?_|exact True.intro|(clear hK K)));all_goals (try clear W)
   (refine jaU [.cell 8 49,.tmp 9] ?_;try simp only [go_sem])
  ·have hi:=jya h slots heap n ih a h0 h1 (by omega) k
   rw [jyX slots heap n k]
   refine jbO Tryz.func141 Tryz.ntmps141 ?_
   (have W:=k;repeat' (first|refine jaa fun K hK=>?_|refine wkA ?_|(refine hK _ _ ?_;clear hK K)|(refine jad (fun hc=>?_) (fun hc=>?_)<;>first | contradiction | (exfalso;omega) | skip)|refine cp (hi) ?_|refine wkB ?_|exact True.intro|(clear hK K)));all_goals (try clear W)
   (refine jaU [.cell 8 49,.tmp 9] ?_;try simp only [go_sem])
  ·obtain ⟨x,hl,hx⟩:=sh.1.one (by omega)
   have hlen:(nth p.tree.nodes a.toNat).l.length=1:=by rw [hl];rfl
   have hx':nth (nth p.tree.nodes a.toNat).l 0=x:=by rw [hl];rfl
   have hb:=sh.2.1 x (by rw [hl];simp)
   have hc1:=ih x hb.1 (by omega) (by omega) hx
   have k1:¬ (nth p.tree.nodes a.toNat).kind=1:=by omega
   have k2:¬ (nth p.tree.nodes a.toNat).kind=2:=by omega
   have k3:¬ (nth p.tree.nodes a.toNat).kind=3:=by omega
   have k4:¬ (nth p.tree.nodes a.toNat).kind=4:=by omega
   have k5:¬ (nth p.tree.nodes a.toNat).kind=5:=by omega
   have k9:¬ (nth p.tree.nodes a.toNat).kind=9:=by omega
   rw [jyV slots heap n k,hx']
   refine jbO Tryz.func141 Tryz.ntmps141 ?_
   (have W:=And.intro k1 (And.intro k2 (And.intro k3 (And.intro k4 (And.intro k5 (And.intro k9 (And.intro hlen (hx')))))));repeat' (first|refine jaa fun K hK=>?_|refine wkA ?_|(with_reducible refine gR 15 ?_);refine dL 15 [] [11] [0,1,2,3,4,5,6,7,8,9,10,11,12,13] mixed ?_|(refine hK _ _ ?_;clear hK K)|(refine jad (fun hc=>?_) (fun hc=>?_)<;>first | contradiction | (exfalso;omega) | skip)|refine cp (hc1) ?_|refine cp (ji5 _) ?_|refine cp (jwk _ _) ?_|refine cp (jqE _ _ hh) ?_|refine wkB ?_|exact True.intro|(clear hK K)));all_goals (try clear W)
   all_goals (refine jaU [.cell 8 49,.tmp 9] ?_;try simp only [go_sem])
   all_goals (unfold j2w;(repeat' split)<;>first | rfl | (exfalso;omega) | (exfalso;simp_all;done) | (simp_all;done) | skip)
end Go.Proofs.YtdekkklnfifphaaGreatDoor
namespace Go.Gd
open Go
theorem RS.vtoS {D:Nat→Bool} {t:TypeId} {pre post:List AV} {R:RS} {B:List Nat} {tl:List (Nat×Row)} {k n:Nat} (hk:k < R.frs.length) (hD:∀ i,D i=true) (hn:n=(nth R.frs k).slots.length):VTo D ⟨B,R.e t pre post tl⟩ (.rs (fid 0 k) n 3 n) (jaI jan 3 (nth R.frs k).slots):=.row _ (hD _) (RS.getS hk) hn
theorem RS.vtoH {D:Nat→Bool} {t:TypeId} {pre post:List AV} {R:RS} {B:List Nat} {tl:List (Nat×Row)} (hD:∀ i,D i=true):VTo D ⟨B,R.e t pre post tl⟩ (.rs 2 R.heap.length 1 R.heap.length) (jaI eLI 1 R.heap):=by
 refine .rs _ 2 1 _ 22 _ _ (hD _) RS.get2 (by simp [go_sem]) (by simp [go_sem]) (fun ds hds=>?_) (jcB (enc:=eLI) (sz:=1) _) fun k j c d hk h1 h2=>?_
 ·obtain ⟨x,_,rfl⟩:=List.mem_map.1 hds;rfl
 ·have hk:k < R.heap.length:=by simpa [go_sem] using hk
  rw [jgg _ _ _ hk] at h1
  have h2:((List.map eLI R.heap).getD k [])[j]?=some d:=h2
  rw [jeC _ _ _ hk] at h2
  match j with
  | 0=>cases h1;cases h2;exact .row _ (hD _) (RS.getH hk) rfl
  | j+1=>simp at h1
end Go.Gd
namespace Go.Proofs.YtdekkklnfifphaaGreatDoor
open Go Go.Gd
theorem jtc {p:GProg} {s:GState} (h:¬ (s.status=2∨s.status=3)):jbp p s=atV p s:=by unfold jbp;rw [if_neg h]
theorem StInv.at_ {p:GProg} (hs:SOk p) {s:GState} (h:StInv p s) (h2:s.status≠2):StAt p s:=by
 have hd:=h.doing h2 0 (by decide)
 have:=hd.stAt hs
 rw [RS.of_st] at this
 exact ⟨this.fr,this.frs,this.pa,this.pas,this.b0,this.b1,this.a0,this.a1,this.ats,this.n0,this.n1,this.sl,this.s0⟩
set_option maxHeartbeats 1000000
set_option maxRecDepth 10000
theorem jmL {p:GProg} (hs:SOk p) {s:GState} (h:StInv p s):PCall Tryz.prog 36 [.agg (jah p),.agg (jal s)] (rI (jbp p s)):=by
 by_cases h2:s.status=2∨s.status=3
 ·have e:jbp p s=-1:=by unfold jbp;rw [if_pos h2]
  rw [e]
  refine jbO Tryz.func36 Tryz.ntmps36 ?_
  (repeat' (first|refine jaa fun K hK=>?_|refine wkA ?_|(refine hK _ _ ?_;clear hK K)|(refine jad (fun hc=>?_) (fun hc=>?_)<;>first | contradiction | (exfalso;omega) | skip)|refine wkB ?_|exact True.intro|(clear hK K)))
  all_goals (refine jaU [.tmp 4] ?_;try simp only [go_sem])
 ·have e:=jtc (p:=p) h2
  have hA:=h.at_ hs (fun e=>h2 (.inl e))
  rw [e]
  refine jbO Tryz.func36 Tryz.ntmps36 ?_
  (repeat' (first|refine jaa fun K hK=>?_|refine wkA ?_|(refine hK _ _ ?_;clear hK K)|(refine jad (fun hc=>?_) (fun hc=>?_)<;>first | contradiction | (exfalso;omega) | skip)|refine cp (jx4 p s hA.fr hA.frs hA.pa hA.pas hA.b0 hA.b1 hA.a0 hA.a1) ?_|refine wkB ?_|exact True.intro|(clear hK K)))
  all_goals (refine jaU [.tmp 4] ?_;try simp only [go_sem])
theorem jiW (h:List (List Int)) (k:Nat) (hk:k < h.length) (n:Int):(h.take (k+1)).foldl jhm n=(h.take k).foldl jhm n+(nth h k).length:=by
 rw [ja8 hk,List.foldl_append];rfl
theorem jsF (h:List (List Int)) (hh:jbB h≤1000000):PCall Tryz.prog 38 [rHp h] (rI (jbB h)):=by
 have hlen:=jbm h
 have hf:∀ k,(h.take k).foldl jhm (h.length:Int)≤jbB h∧0≤(h.take k).foldl jhm (h.length:Int):=fun k=>by
  have e:jbB h=(h.drop k).foldl jhm ((h.take k).foldl jhm (h.length:Int)):=by
   unfold jbB;rw [← List.foldl_append,List.take_append_drop]
  rw [e,ja9 (h.drop k),ja9 (h.take k)]
  have:=jhU (h.drop k);have:=jhU (h.take k);omega
 refine jbO Tryz.func38 Tryz.ntmps38 ?_
 (repeat' (first|refine jaa fun K hK=>?_|refine wkA ?_|(refine hK _ _ ?_;clear hK K)|(refine jad (fun hc=>?_) (fun hc=>?_)<;>first | contradiction | (exfalso;omega) | skip)|refine wkB ?_|exact True.intro|(clear hK K)))
 have hKo:=hK;clear hK
 refine jag (S:=Nat) [(3,2),(7,13)] (fun k=>k≤h.length) (fun k=>[(3,rI ((h.take k).foldl jhm (h.length:Int))),(4,rI k)]) (fun k=>⟨[],[]⟩) (fun k=>h.length - k) 0 (by omega) (jau (by simp only [go_sem]) lle) ?_
 rintro k hk Kr hKr
 have h1:=hf k
 have h2:k < h.length→(h.take k).foldl jhm (h.length:Int)+(nth h k).length≤1000000:=fun hk=>by
  have:=hf (k+1)
  rw [jiW h k hk] at this;omega
 (refine S ?_;try exact True.intro)
 (repeat' (first|refine jaa fun K hK=>?_|refine wkA ?_|(refine hK _ _ ?_;clear hK K)|(refine jad (fun hc=>?_) (fun hc=>?_)<;>first | contradiction | (exfalso;omega) | skip)|(refine hKo _ _ ?_)|refine wkB ?_|exact True.intro|(clear hK K)))
 ·have e:=jiW h k (by omega) (h.length:Int)
  refine hKr _ _ (jar (k+1) (by omega) (by (try simp only);omega) (by simp only [go_sem]) ?_)
  rw [e]
  exact lle
 ·(refine jaU [.tmp 2] ?_;try simp only [go_sem])
  rw [show k=h.length by omega,List.take_length];rfl
theorem jtI (p:GProg) (node:Int) (v:GValue) (R:RS) (ho:OnOk R) (h0:0≤node) (h1:node < p.tree.nodes.length) (hsl:p.slots.length=p.tree.nodes.length) (hs:0≤nth p.slots node.toNat∧nth p.slots node.toNat < (nth R.frs (R.nf - 1)).slots.length) :
  ACalls Tryz.prog 138 [.agg (jah p),.pt 0 0 0 0,rI node,.agg (jan v)] (R.e 42 [] [] []) (fun r l=>r=.tup []∧l=(R.store p node v).e 42 [] [] []):=by
 have hnf:=ho.ok.nf
 have hn1:=ho.nf
 have hfr:=ho.frs
 have hs1:=hs.1
 have hs2:=hs.2
 have hk:R.nf - 1 < R.frs.length:=by omega
 have hon:=jmN (R.setS p node v) (ho.upd rfl)
 have hj:∀ j,(if j=R.nf - 1 then Row.vec 49 3 ((List.map jan (nth R.frs (R.nf - 1)).slots).set (nth p.slots node.toNat).toNat (jan v++List.drop 3 (jan (nth (nth R.frs (R.nf - 1)).slots (nth p.slots node.toNat).toNat)))) else Row.vec 49 3 (List.map jan (nth R.frs j).slots))=if j=R.nf - 1 then .vec 49 3 (((nth R.frs (R.nf - 1)).slots.set (nth p.slots node.toNat).toNat v).map jan) else R.sl j:=fun j=>by
  by_cases e:j=R.nf - 1
  ·rw [if_pos e,if_pos e,List.map_set];rfl
  ·rw [if_neg e,if_neg e];rfl
 have hlow:=fun (r s:Row)=>jgF (i:=4) (j:=5) (r:=r) (s:=s) (by omega) (by omega)
 refine jaR Tryz.func138 Tryz.ntmps138 ?_
 generalize hB:ids (R.e 42 [] [] [])=B
 generalize hE:(R.store p node v).e 42 [] [] []=E
 (refine S ?_;try exact True.intro)
 (repeat' (first|refine jaa fun K hK=>?_|refine wkA ?_|(with_reducible refine gR 1 ?_);refine dE 1 [0,1,2,3,4,5,6,7,8,9,10,11,12,13,14,15,16,17,18,19,20] mixed ?_|(refine hK _ _ ?_;clear hK K)|(refine jad (fun hc=>?_) (fun hc=>?_)<;>first | contradiction | (exfalso;omega) | skip)|refine bxF 4 ?_|refine bxF 5 ?_|(refine cE (R:=R.setS p node v) (R':=(R.setS p node v).on) (pre:=[]) (post:=[]) (pre':=[]) (post':=[]) hon (congrArg (Hp.mk B) (RS.e_slots (R:=R) (k:=R.nf - 1) hk (List.length_set ..) rfl hj)) (Nat.le_of_eq RS.upd_len) (Nat.le_refl _) rfl rfl (hlow _ _) rfl (by simp only [go_sem]) ?_;(refine S ?_;try exact True.intro))|refine wkB ?_|exact True.intro|(clear hK K)))
 subst hE
 exact jeM (R':=(R.setS p node v).on) (tl:=[(4,.var 29 (jah p)),(5,.var 49 (jan v))]) rfl hB [] (hlow _ _) rfl rfl rfl
theorem jda {p:GProg} (h:SOk p) (R:RS) (hok:R.Ok) (h1:1≤R.nf) (h8:R.frs.length≤1000) (hh:R.heap.length≤1000000) (a:Int) (h0:0≤a) (hl:a.toNat < p.tree.nodes.length) (hk:isE (jak p.tree.nodes a)) :
  ACalls Tryz.prog 105 [.agg (jah p),.pt 0 0 0 0,rI a] (R.e 42 [] [] []) (fun r l=>r=.tup [rV (R.val p a).1,rI (R.val p a).2]∧l=R.e 42 [] [] []):=by
 have hnf:=hok.nf
 have hx:=jqd h.ok R.topF.slots R.heap hh p.tree.nodes.length a h0 (by omega) (by omega) hk
 have hkk:R.nf - 1 < R.frs.length:=by omega
 have hlow:=fun (r s:Row)=>jgF (i:=4) (j:=5) (r:=r) (s:=s) (by omega) (by omega)
 change PCall _ _ _ (.tup [rV (R.val p a).1,rI (R.val p a).2]) at hx
 generalize R.val p a=X at hx ⊢
 suffices key:∀ R':RS,R'=R→ACalls Tryz.prog 105 [.agg (jah p),.pt 0 0 0 0,rI a] (R.e 42 [] [] []) (fun r l=>r=.tup [rV X.1,rI X.2]∧l=R'.e 42 [] [] []) from key R rfl
 intro R' hR'
 refine jaR Tryz.func105 Tryz.ntmps105 ?_
 generalize hB:ids (R.e 42 [] [] [])=B
 generalize hE:R'.e 42 [] [] []=E
 (refine S ?_;try exact True.intro)
 (repeat' (first|refine jaa fun K hK=>?_|refine wkA ?_|(with_reducible refine gR 1 ?_);refine dE 1 [0,1,2,3,4,5,6,7,8,9,10,11,12,13,14,15,16,17,18,19,20,21,22,23] mixed ?_|(refine hK _ _ ?_;clear hK K)|(refine jad (fun hc=>?_) (fun hc=>?_)<;>first | contradiction | (exfalso;omega) | skip)|refine bxF 4 ?_|refine alF 5 ?_|(refine cL (args':=[rP p,rI a,rSl R.topF.slots,rHp R.heap]) hx (show VToL _ ⟨B,R.e 42 [] [] _⟩ _ _ from ⟨.same _ rfl,.same _ rfl,RS.vtoS hkk (fun _=>rfl) rfl,RS.vtoH (fun _=>rfl),trivial⟩) rfl (by simp only [go_sem]) ?_;(refine S ?_;try exact True.intro))|refine wkB ?_|exact True.intro|(clear hK K)))
 subst hE
 subst hR'
 exact jeM (R':=R') (tl:=[(4,.var 29 (jah p)),(5,.var 49 (jan X.1))]) rfl hB [.cell 6 49,.tmp 7] (hlow _ _) rfl rfl rfl
end Go.Proofs.YtdekkklnfifphaaGreatDoor
namespace Go.Gd
open Go
theorem jlw {P:Program} {f:FuncId} {args:List AV} {r:AV} (vals:List Value) (v:Value) (ha:args=vals.map .raw) (hr:∀ w:NW,RelV w r v) (h:∀ w:NW,Glob w→Calls P f vals.toArray w.toWorld fun e w'=>e=.returned v∧RowKit.Below w.heap.size w.toWorld w'):PCall P f args r:=by
 intro w vs h1 h2
 have hvs:vs=vals.toArray:=by
  apply Array.ext'
  apply List.ext_getElem?
  intro i
  obtain ⟨hl,hv⟩:=h2
  subst ha
  by_cases hi:i < vals.length
  ·have hi':i < vs.size:=by rw [← hl];simpa using hi
   have:=jap (hv i (.raw vals[i]) vs[i] (by simp [hi]) (by simp [hi']))
   simp [hi,hi',this]
  ·have hi':¬ i < vs.size:=by rw [← hl];simpa using hi
   rw [List.getElem?_eq_none (by simpa using hi'),List.getElem?_eq_none (by simpa using hi)]
 subst hvs
 refine (h w h1.glob).mono ?_
 rintro e W ⟨rfl,hb⟩
 have ex:Ext w (entry []) (w.to W) (entry []):={ size:=hb.size,free:=fun b hb' hO=>⟨hb.block b hb',hO⟩,names:=fun _ _ _ _ h=>h,os:=hb.os,tape:=hb.tape,output:=hb.output,rest:=fun b hb' hO hno=>⟨hb.block b hb',hO,hno⟩,base:=rfl }
 refine ⟨v,r,entry [],w.to W,rfl,rfl,⟨rfl,rfl⟩,{ rows:=fun i row hi=>(by cases hi),dom:=h1.dom,inj:=h1.inj,own:=h1.own,glob:=h1.glob.keep ex.toKeep,fin:=fun b hb'=>Nat.lt_of_lt_of_le (h1.fin b hb') hb.size },hr _,ex.toB⟩
def rng (n:Int):Prop:=-9223372036854775808≤n∧n≤9223372036854775807
end Go.Gd
namespace Go.Proofs.YtdekkklnfifphaaGreatDoor
open Go Go.Gd
theorem jzR (w : NW) (hg : Glob w) : Lib.TabIs Tryz.prog w.toWorld "internal/strconv.uint64pow10" .u64 Lib.pow10Tab := by
 obtain ⟨⟨cur,el,fr,h1,h2⟩,_⟩:=hg 0 (Lib.pow10Tab.map (Value.int .u64)) (by unfold jvD;simp)
 unfold Lib.TabIs World.var?
 rw [show Tryz.prog.globalNamed "internal/strconv.uint64pow10" = some 0 by kernel_rfl]
 simp only [Option.bind_some,h1,Option.some.injEq]
 apply Array.ext'
 simpa using h2
theorem jcY (n:Int) (h:rng n):PCall Tryz.prog 50 [rI n] (rS (jbJ n)):=by
 refine jlw [.int .i64 n] (.string (jbJ n)) rfl (fun w=>.raw _) fun w hg=>?_
 refine (Tryz.strconv_Itoa n h.1 h.2 w.toWorld (jzR w hg)).mono ?_
 rintro e W ⟨rfl,k,os,rfl⟩
 refine ⟨rfl,⟨rfl,rfl,rfl,?_,fun b hb=>?_⟩⟩
 ·show w.heap.size≤(w.heap++os).size
  simp
 ·show (w.heap++os)[b]?=w.heap[b]?
  rw [Array.getElem?_append_left hb]
theorem jsD (b:Bool):PCall Tryz.prog 164 [rB b] (rS (if b=true then (⟨#[116,114,117,101]⟩:ByteArray) else (⟨#[102,97,108,115,101]⟩:ByteArray))):=by
 refine jii [.bool b] (.string (if b=true then (⟨#[116,114,117,101]⟩:ByteArray) else (⟨#[102,97,108,115,101]⟩:ByteArray))) rfl (fun w=>.raw _) fun w=>?_
 refine (Tryz.strconv_FormatBool b w).mono ?_
 rintro e W ⟨rfl,rfl⟩
 refine ⟨?_,RowKit.Below.refl _ _⟩
 cases b<;>rfl
set_option maxHeartbeats 1000000
set_option maxRecDepth 10000
theorem jr8 (v:GValue) (h:rng v.n):PCall Tryz.prog 106 [rV v] (rS (jgl v)):=by
 refine jbO Tryz.func106 Tryz.ntmps106 ?_
 (repeat' (first|refine jaa fun K hK=>?_|refine wkA ?_|(refine hK _ _ ?_;clear hK K)|(refine jad (fun hc=>?_) (fun hc=>?_)<;>first | contradiction | (exfalso;omega) | skip)|refine cp (jcY _ h) ?_|refine wkB ?_|exact True.intro|(clear hK K)))
 all_goals (refine jaU [.tmp 2] ?_;try simp only [go_sem])
 all_goals (unfold jgl;(repeat' split)<;>first | rfl | (exfalso;omega) | contradiction | (simp_all;done) | skip)
theorem jwM (v:GValue) (h:rng v.n):PCall Tryz.prog 135 [rV v] (rS (jgl v)):=by
 refine jbO Tryz.func135 Tryz.ntmps135 ?_
 (repeat' (first|refine jaa fun K hK=>?_|refine wkA ?_|(refine hK _ _ ?_;clear hK K)|(refine jad (fun hc=>?_) (fun hc=>?_)<;>first | contradiction | (exfalso;omega) | skip)|refine cp (jcY _ h) ?_|refine cp (jsD _) ?_|refine wkB ?_|exact True.intro|(clear hK K)))
 all_goals (refine jaU [.tmp 2] ?_;try simp only [go_sem])
 all_goals (unfold jgl;(repeat' split)<;>first | rfl | (exfalso;omega) | contradiction | (simp_all;done) | skip)
end Go.Proofs.YtdekkklnfifphaaGreatDoor
