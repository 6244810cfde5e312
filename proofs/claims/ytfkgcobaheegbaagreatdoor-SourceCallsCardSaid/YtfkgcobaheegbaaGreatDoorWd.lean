/- Values: the program's. What expressions tell: variables, lists. What expressions tell: the document's. What expressions tell: the document's, whole. What a program means: what is told of a state, and small steps. Numbers and values as texts: what the library tells. No conditions. -/
import Derived.Test.YtfkgcobaheegbaaGreatDoorSoP
import Derived.Test.YtfkgcobaheegbaaGreatDoorEvS
import Derived.Test.YtfkgcobaheegbaaGreatDoorP5
import Derived.Test.YtfkgcobaheegbaaGreatDoorSoS
set_option linter.all false
namespace Go.Proofs.YtfkgcobaheegbaaGreatDoor
open Go Go.Gd
set_option maxHeartbeats 1000000
set_option maxRecDepth 10000
@[go_sem] theorem cb_104 : jad Tryz.prog 104 = true := by kernel_rfl
theorem jpD (n:Int):PCall Tryz.prog 154 [rI n] (rV (vI n)):=by
 refine jb9 Tryz.func154 Tryz.ntmps154 ?_
 (repeat' (first|refine jaa fun K hK=>?_|refine wkA ?_|(refine hK _ _ ?_;clear hK K)|(refine jae (fun hc=>?_) (fun hc=>?_)<;>first | contradiction | (exfalso;omega) | skip)|refine wkB ?_|exact True.intro|(clear hK K)))
 (refine ja2 [.cell 2 59] ?_;try simp only [go_sem])
 rfl
theorem jr8 (t:Int):PCall Tryz.prog 100 [rI t] (rV (vZ t)):=by
 refine jb9 Tryz.func100 Tryz.ntmps100 ?_
 (repeat' (first|refine jaa fun K hK=>?_|refine wkA ?_|(refine hK _ _ ?_;clear hK K)|(refine jae (fun hc=>?_) (fun hc=>?_)<;>first | contradiction | (exfalso;omega) | skip)|refine wkB ?_|exact True.intro|(clear hK K)))
 (refine ja2 [.cell 2 59] ?_;try simp only [go_sem])
 rfl
theorem jfW (b:Bool):PCall Tryz.prog 172 [rB b] (rV (vB b)):=by
 refine jb9 Tryz.func172 Tryz.ntmps172 ?_
 (repeat' (first|refine jaa fun K hK=>?_|refine wkA ?_|(refine hK _ _ ?_;clear hK K)|(refine jae (fun hc=>?_) (fun hc=>?_)<;>first | contradiction | (exfalso;omega) | skip)|refine cp (jr8 _) ?_|refine wkB ?_|exact True.intro|(clear hK K)))
 all_goals (refine ja2 [.cell 2 59] ?_;try simp only [go_sem])
 all_goals simp_all [vB,vZ]
theorem jr4 (s:ByteArray):PCall Tryz.prog 173 [rS s] (rV (vT s)):=by
 refine jb9 Tryz.func173 Tryz.ntmps173 ?_
 (repeat' (first|refine jaa fun K hK=>?_|refine wkA ?_|(refine hK _ _ ?_;clear hK K)|(refine jae (fun hc=>?_) (fun hc=>?_)<;>first | contradiction | (exfalso;omega) | skip)|refine wkB ?_|exact True.intro|(clear hK K)))
 (refine ja2 [.cell 2 59] ?_;try simp only [go_sem])
 rfl
theorem jy6 (v:GValue):PCall Tryz.prog 197 [rV v] (rB (jhw v)):=by
 refine jb9 Tryz.func197 Tryz.ntmps197 ?_
 (repeat' (first|refine jaa fun K hK=>?_|refine wkA ?_|(refine hK _ _ ?_;clear hK K)|(refine jae (fun hc=>?_) (fun hc=>?_)<;>first | contradiction | (exfalso;omega) | skip)|refine wkB ?_|exact True.intro|(clear hK K)))
 all_goals (refine ja2 [.tmp 2] ?_;try simp only [go_sem])
 all_goals (unfold jhw;(repeat' split)<;>first | rfl | (exfalso;omega) | (exfalso;simp_all;done) | skip)
 all_goals (refine jpU ?_;by_cases hs:v.s=sE<;>simp [hs]<;>omega)
def joM (g:ByteArray) (a b:Int):GValue×Int:=if g=(⟨#[60]⟩:ByteArray) then (vB (decide (a < b)),0) else if g=(⟨#[60,61]⟩:ByteArray) then (vB (decide (a≤b)),0) else (v0,0)
theorem jvW (g:ByteArray) (a b:Int):PCall Tryz.prog 261 [rS g,rI a,rI b] (.tup [rV (joM g a b).1,rI (joM g a b).2]):=by
 refine jb9 Tryz.func261 Tryz.ntmps261 ?_
 (repeat' (first|refine jaa fun K hK=>?_|refine wkA ?_|(refine hK _ _ ?_;clear hK K)|(refine jae (fun hc=>?_) (fun hc=>?_)<;>first | contradiction | (exfalso;omega) | skip)|refine cp (jfW _) ?_|refine wkB ?_|exact True.intro|(clear hK K)))
 all_goals (refine ja2 [.cell 6 59,.tmp 7] ?_;try simp only [go_sem])
 all_goals (unfold joM;(repeat' split)<;>first | rfl | (exfalso;omega) | (exfalso;simp_all;done) | (simp_all [jak,vB];done) | (exfalso;simp_all;omega) | skip)
theorem jre (g:ByteArray) (a b:Int):PCall Tryz.prog 226 [rS g,rI a,rI b] (.tup [rV (jnf g a b).1,rI (jnf g a b).2]):=by
 refine jb9 Tryz.func226 Tryz.ntmps226 ?_
 (repeat' (first|refine jaa fun K hK=>?_|refine wkA ?_|(refine hK _ _ ?_;clear hK K)|(refine jae (fun hc=>?_) (fun hc=>?_)<;>first | contradiction | (exfalso;omega) | skip)|refine cp (jpD _) ?_|refine cp (jvW _ _ _) ?_|refine wkB ?_|exact True.intro|(clear hK K)))
 all_goals (refine ja2 [.cell 6 59,.tmp 7] ?_;try simp only [go_sem])
 all_goals (try unfold joM)
 all_goals (unfold jnf;(repeat' split)<;>first | rfl | (exfalso;omega) | (exfalso;simp_all;done) | (simp_all [jak,vB];done) | (exfalso;simp_all;omega) | skip)
def jsC (g:ByteArray) (a b:Bool):GValue×Int:=if g=(⟨#[124,124]⟩:ByteArray) then (vB (a || b),0) else if g=(⟨#[38,38]⟩:ByteArray) then (vB (a && b),0) else (v0,0)
theorem jya (g:ByteArray) (a b:Bool):PCall Tryz.prog 227 [rS g,rB a,rB b] (.tup [rV (jsC g a b).1,rI (jsC g a b).2]):=by
 refine jb9 Tryz.func227 Tryz.ntmps227 ?_
 (repeat' (first|refine jaa fun K hK=>?_|refine wkA ?_|(refine hK _ _ ?_;clear hK K)|(refine jae (fun hc=>?_) (fun hc=>?_)<;>first | contradiction | (exfalso;omega) | skip)|refine cp (jfW _) ?_|refine wkB ?_|exact True.intro|(clear hK K)))
 all_goals (refine ja2 [.cell 6 59,.tmp 7] ?_;try simp only [go_sem])
 all_goals (unfold jsC;(repeat' split)<;>first | rfl | (exfalso;omega) | (exfalso;simp_all;done) | (simp_all [jak,vB];done) | (exfalso;simp_all;omega) | skip)
def jo9 (g a b:ByteArray):GValue×Int:=if g=(⟨#[43]⟩:ByteArray) then (if (a.size:Int)+b.size > 40 then (v0,6) else (vT (a++b),0)) else (v0,0)
theorem jww (g a b:ByteArray) (ha:a.size≤1000000) (hb:b.size≤1000000):PCall Tryz.prog 228 [rS g,rS a,rS b] (.tup [rV (jo9 g a b).1,rI (jo9 g a b).2]):=by
 refine jb9 Tryz.func228 Tryz.ntmps228 ?_
 (repeat' (first|refine jaa fun K hK=>?_|refine wkA ?_|(refine hK _ _ ?_;clear hK K)|(refine jae (fun hc=>?_) (fun hc=>?_)<;>first | contradiction | (exfalso;omega) | skip)|refine cp (jr4 _) ?_|refine wkB ?_|exact True.intro|(clear hK K)))
 all_goals (refine ja2 [.cell 6 59,.tmp 7] ?_;try simp only [go_sem])
 all_goals (unfold jo9;(repeat' split)<;>first | rfl | (exfalso;omega) | (exfalso;simp_all;done) | (simp_all [jak,vB];done) | (exfalso;simp_all;omega) | skip)
theorem j1v (g:ByteArray) (a b:GValue) (ha:a.s.size≤1000000) (hb:b.s.size≤1000000):PCall Tryz.prog 177 [rS g,rV a,rV b] (.tup [rV (jlF g a b).1,rI (jlF g a b).2]):=by
 refine jb9 Tryz.func177 Tryz.ntmps177 ?_
 (repeat' (first|refine jaa fun K hK=>?_|refine wkA ?_|(refine hK _ _ ?_;clear hK K)|(refine jae (fun hc=>?_) (fun hc=>?_)<;>first | contradiction | (exfalso;omega) | skip)|refine cp (jfW _) ?_|refine cp (jre _ _ _) ?_|refine cp (jya _ _ _) ?_|refine cp (jww _ _ _ ha hb) ?_|refine wkB ?_|exact True.intro|(clear hK K)))
 all_goals (refine ja2 [.cell 6 59,.tmp 7] ?_;try simp only [go_sem])
 all_goals (try unfold jsC);all_goals (try unfold jo9)
 all_goals (unfold jlF;(repeat' split)<;>first | rfl | (exfalso;omega) | (exfalso;simp_all;done) | (simp_all [jak,vB];done) | (exfalso;simp_all;omega) | skip)
theorem jtz (g:ByteArray) (a:GValue):PCall Tryz.prog 178 [rS g,rV a] (rV (jfm g a)):=by
 refine jb9 Tryz.func178 Tryz.ntmps178 ?_
 (repeat' (first|refine jaa fun K hK=>?_|refine wkA ?_|(refine hK _ _ ?_;clear hK K)|(refine jae (fun hc=>?_) (fun hc=>?_)<;>first | contradiction | (exfalso;omega) | skip)|refine cp (jfW _) ?_|refine cp (jpD _) ?_|refine wkB ?_|exact True.intro|(clear hK K)))
 all_goals (refine ja2 [.cell 4 59] ?_;try simp only [go_sem])
 all_goals (unfold jfm;(repeat' split)<;>first | rfl | (exfalso;omega) | (exfalso;simp_all;done) | (simp_all [jak,vB];done) | (exfalso;simp_all;omega) | skip)
abbrev rSl (l:List GValue):AV:=jal jak 3 l
abbrev rHp (h:List (List Int)):AV:=jal eLI 1 h
theorem j4E (slots:List GValue) (k t:Int):PCall Tryz.prog 165 [rSl slots,rI k,rI t] (rV (jfs slots k t)):=by
 refine jb9 Tryz.func165 Tryz.ntmps165 ?_
 (repeat' (first|refine jaa fun K hK=>?_|refine wkA ?_|(refine hK _ _ ?_;clear hK K)|(refine jae (fun hc=>?_) (fun hc=>?_)<;>first | contradiction | (exfalso;omega) | skip)|refine cp (jwS _) ?_|refine cp (jul _) ?_|refine wkB ?_|exact True.intro|(clear hK K)))
 all_goals (refine ja2 [.cell 6 59] ?_;try simp only [go_sem])
 all_goals (unfold jfs;(repeat' split)<;>first | rfl | (exfalso;omega) | (exfalso;simp_all;done) | (simp_all;done) | skip)
theorem jvy (slots:List GValue) (k t:Int):PCall Tryz.prog 158 [rSl slots,rI k,rI t] (rV (jfs slots k t)):=by
 refine jb9 Tryz.func158 Tryz.ntmps158 ?_
 (repeat' (first|refine jaa fun K hK=>?_|refine wkA ?_|(refine hK _ _ ?_;clear hK K)|(refine jae (fun hc=>?_) (fun hc=>?_)<;>first | contradiction | (exfalso;omega) | skip)|refine cp (jr8 _) ?_|(first | refine cg (jy6 _) ?_ | refine cg' (jy6 _) ?_)|refine wkB ?_|exact True.intro|(clear hK K)))
 all_goals (refine ja2 [.cell 6 59] ?_;try simp only [go_sem])
 all_goals (unfold jfs;(repeat' split)<;>first | rfl | (exfalso;omega) | (exfalso;simp_all;done) | (simp_all;done) | skip)
theorem j2e (heap:List (List Int)) (v:GValue) (hh:heap.length≤1000000):PCall Tryz.prog 166 [rHp heap,rV v] (jal eI 1 (jcn heap v)):=by
 by_cases h:v.ty≠4∨v.n < 1∨(heap.length:Int) < v.n
 ·rw [jcn,if_pos h]
  refine jb9 Tryz.func166 Tryz.ntmps166 ?_
  (repeat' (first|refine jaa fun K hK=>?_|refine wkA ?_|(refine hK _ _ ?_;clear hK K)|(refine jae (fun hc=>?_) (fun hc=>?_)<;>first | contradiction | (exfalso;omega) | skip)|refine wkB ?_|exact True.intro|(clear hK K)))
  all_goals first | (exfalso;omega) | skip
  refine jlx [.tmp 4] ?_
  exact VTo.nil _ _
 ·rw [jcn,if_neg h]
  refine jb9 Tryz.func166 Tryz.ntmps166 ?_
  (repeat' (first|refine jaa fun K hK=>?_|refine wkA ?_|(refine hK _ _ ?_;clear hK K)|(refine jae (fun hc=>?_) (fun hc=>?_)<;>first | contradiction | (exfalso;omega) | skip)|refine wkB ?_|exact True.intro|(clear hK K)))
  all_goals first | (exfalso;omega) | skip
  (refine ja2 [.tmp 4] ?_;try simp only [go_sem])
theorem juf (heap:List (List Int)) (v:GValue) (hh:heap.length≤1000000):PCall Tryz.prog 157 [rHp heap,rV v] (jal eI 1 (jcn heap v)):=by
 by_cases h:v.ty≠4∨v.n < 1∨(heap.length:Int) < v.n
 ·rw [jcn,if_pos h]
  refine jb9 Tryz.func157 Tryz.ntmps157 ?_
  (repeat' (first|refine jaa fun K hK=>?_|refine wkA ?_|(refine hK _ _ ?_;clear hK K)|(refine jae (fun hc=>?_) (fun hc=>?_)<;>first | contradiction | (exfalso;omega) | skip)|refine wkB ?_|exact True.intro|(clear hK K)))
  all_goals first | (exfalso;omega) | skip
  refine jlx [.tmp 4] ?_
  exact VTo.nil _ _
 ·rw [jcn,if_neg h]
  refine jb9 Tryz.func157 Tryz.ntmps157 ?_
  (repeat' (first|refine jaa fun K hK=>?_|refine wkA ?_|(refine hK _ _ ?_;clear hK K)|(refine jae (fun hc=>?_) (fun hc=>?_)<;>first | contradiction | (exfalso;omega) | skip)|refine wkB ?_|exact True.intro|(clear hK K)))
  all_goals first | (exfalso;omega) | skip
  (refine ja2 [.tmp 4] ?_;try simp only [go_sem])
abbrev rP (p:GProg):AV:=.agg (jaB p)
def j2X (p:GProg) (slots:List GValue) (heap:List (List Int)) (n:Nat):Prop:=∀ (a:Int),0≤a→a < p.tree.nodes.length→a.toNat < n→isE (jaj p.tree.nodes a)→
 PCall Tryz.prog 167 [rP p,rI a,rSl slots,rHp heap] (.tup [rV (jbi p slots heap n a).1,rI (jbi p slots heap n a).2])
def jcK (p:GProg) (slots:List GValue) (heap:List (List Int)) (x:GValue×Int) (a:Int):GValue×Int:=
 if x.2≠0 then (v0,x.2)
 else if x.1.n < 0∨((jcn heap (jfs slots (nth p.slots a.toNat) 4)).length:Int)≤x.1.n then (v0,2)
 else (vI (nth (jcn heap (jfs slots (nth p.slots a.toNat) 4)) x.1.n.toNat),0)
def jqa (s:ByteArray) (x y:GValue×Int):GValue×Int:=
 if x.2≠0 then (v0,x.2)
 else if (s=(⟨#[124,124]⟩:ByteArray)∧x.1.n=1)∨(s=(⟨#[38,38]⟩:ByteArray)∧x.1.n=0) then (x.1,0)
 else if y.2≠0 then (v0,y.2)
 else jlF s x.1 y.1
theorem jvS {A B C D:Prop} (h:(¬A∨¬B)∧(¬C∨¬D)) (k:A∧B∨C∧D):False:=by
 rcases k with ⟨a,b⟩ | ⟨c,d⟩
 ·exact h.1.elim (fun h=>h a) (fun h=>h b)
 ·exact h.2.elim (fun h=>h c) (fun h=>h d)
theorem jyD {p:GProg} (slots:List GValue) (heap:List (List Int)) (n:Nat) {a:Int} (k:(nth p.tree.nodes a.toNat).kind=5):jbi p slots heap (n+1) a=jcK p slots heap (jbi p slots heap n (nth (nth p.tree.nodes a.toNat).l 0)) a:=by
 conv=>lhs;unfold jbi
 unfold jcK
 simp only
 rw [if_neg (by omega),if_neg (by omega),if_neg (by omega),if_neg (by omega),if_pos k]
theorem jyE {p:GProg} (slots:List GValue) (heap:List (List Int)) (n:Nat) {a:Int} (k:(nth p.tree.nodes a.toNat).kind=9):jbi p slots heap (n+1) a=jqa (nth p.tree.nodes a.toNat).name (jbi p slots heap n (nth (nth p.tree.nodes a.toNat).l 0)) (jbi p slots heap n (nth (nth p.tree.nodes a.toNat).l 1)):=by
 conv=>lhs;unfold jbi
 unfold jqa
 simp only
 rw [if_neg (by omega),if_neg (by omega),if_neg (by omega),if_neg (by omega),if_neg (c:=(nth p.tree.nodes a.toNat).kind=5) (by omega),if_pos k]
def juq (heap:List (List Int)) (k:Int) (x:GValue×Int):GValue×Int:=
 if x.2≠0 then (v0,x.2)
 else if k=6 then (if x.1.ty=3 then (vI x.1.s.size,0) else (vI (jcn heap x.1).length,0))
 else if k=7 then (jfm (⟨#[45]⟩:ByteArray) x.1,0)
 else (jfm (⟨#[33]⟩:ByteArray) x.1,0)
theorem jyC {p:GProg} (slots:List GValue) (heap:List (List Int)) (n:Nat) {a:Int} (k:(nth p.tree.nodes a.toNat).kind=6∨(nth p.tree.nodes a.toNat).kind=7∨(nth p.tree.nodes a.toNat).kind=8):jbi p slots heap (n+1) a=juq heap (nth p.tree.nodes a.toNat).kind (jbi p slots heap n (nth (nth p.tree.nodes a.toNat).l 0)):=by
 conv=>lhs;unfold jbi
 unfold juq
 simp only
 rw [if_neg (by omega),if_neg (by omega),if_neg (by omega),if_neg (by omega),if_neg (c:=(nth p.tree.nodes a.toNat).kind=5) (by omega),if_neg (c:=(nth p.tree.nodes a.toNat).kind=9) (by omega)]
end Go.Proofs.YtfkgcobaheegbaaGreatDoor
namespace Go.Gd
open Go
theorem RS.vtoS {D:Nat→Bool} {t:TypeId} {pre post:List AV} {R:RS} {B:List Nat} {tl:List (Nat×Row)} {k n:Nat} (hk:k < R.frs.length) (hD:∀ i,D i=true) (hn:n=(nth R.frs k).slots.length):VTo D ⟨B,R.e t pre post tl⟩ (.rs (fid 0 k) n 3 n) (jal jak 3 (nth R.frs k).slots):=.row _ (hD _) (RS.getS hk) hn
theorem RS.vtoH {D:Nat→Bool} {t:TypeId} {pre post:List AV} {R:RS} {B:List Nat} {tl:List (Nat×Row)} (hD:∀ i,D i=true):VTo D ⟨B,R.e t pre post tl⟩ (.rs 2 R.heap.length 1 R.heap.length) (jal eLI 1 R.heap):=by
 refine .rs _ 2 1 _ 22 _ _ (hD _) RS.get2 (by simp [go_sem]) (by simp [go_sem]) (fun ds hds=>?_) (jcf (enc:=eLI) (sz:=1) _) fun k j c d hk h1 h2=>?_
 ·obtain ⟨x,_,rfl⟩:=List.mem_map.1 hds;rfl
 ·have hk:k < R.heap.length:=by simpa [go_sem] using hk
  rw [jgu _ _ _ hk] at h1
  have h2:((List.map eLI R.heap).getD k [])[j]?=some d:=h2
  rw [jdU _ _ _ hk] at h2
  match j with
  | 0=>cases h1;cases h2;exact .row _ (hD _) (RS.getH hk) rfl
  | j+1=>simp at h1
end Go.Gd
namespace Go.Proofs.YtfkgcobaheegbaaGreatDoor
open Go Go.Gd
theorem StInv.at_ {p:GProg} (hs:SOk p) {s:GState} (h:StInv p s) (h2:s.status≠2):StAt p s:=by
 have hd:=h.doing h2 0 (by decide)
 have:=hd.stAt hs
 rw [RS.of_st] at this
 exact ⟨this.fr,this.frs,this.pa,this.pas,this.b0,this.b1,this.a0,this.a1,this.ats,this.n0,this.n1,this.sl,this.s0⟩
set_option maxHeartbeats 1000000
set_option maxRecDepth 10000
theorem jj1 (h:List (List Int)) (k:Nat) (hk:k < h.length) (n:Int):(h.take (k+1)).foldl jh0 n=(h.take k).foldl jh0 n+(nth h k).length:=by
 rw [jgv hk,List.foldl_append];rfl
end Go.Proofs.YtfkgcobaheegbaaGreatDoor
namespace Go.Gd
open Go
theorem jmh {P:Program} {f:FuncId} {args:List AV} {r:AV} (vals:List Value) (v:Value) (ha:args=vals.map .raw) (hr:∀ w:NW,RelV w r v) (h:∀ w:NW,Glob w→Calls P f vals.toArray w.toWorld fun e w'=>e=.returned v∧RowKit.Below w.heap.size w.toWorld w'):PCall P f args r:=by
 intro w vs h1 h2
 have hvs:vs=vals.toArray:=by
  apply Array.ext'
  apply List.ext_getElem?
  intro i
  obtain ⟨hl,hv⟩:=h2
  subst ha
  by_cases hi:i < vals.length
  ·have hi':i < vs.size:=by rw [← hl];simpa using hi
   have:=jas (hv i (.raw vals[i]) vs[i] (by simp [hi]) (by simp [hi']))
   simp [hi,hi',this]
  ·have hi':¬ i < vs.size:=by rw [← hl];simpa using hi
   rw [List.getElem?_eq_none (by simpa using hi'),List.getElem?_eq_none (by simpa using hi)]
 subst hvs
 refine (h w h1.glob).mono ?_
 rintro e W ⟨rfl,hb⟩
 have ex:Ext w (entry []) (w.to W) (entry []):={ size:=hb.size,free:=fun b hb' hO=>⟨hb.block b hb',hO⟩,names:=fun _ _ _ _ h=>h,os:=hb.os,tape:=hb.tape,output:=hb.output,rest:=fun b hb' hO hno=>⟨hb.block b hb',hO,hno⟩,base:=rfl }
 refine ⟨v,r,entry [],w.to W,rfl,rfl,⟨rfl,rfl⟩,{ rows:=fun i row hi=>(by cases hi),dom:=h1.dom,inj:=h1.inj,own:=h1.own,glob:=h1.glob.keep ex.toKeep,fin:=fun b hb'=>Nat.lt_of_lt_of_le (h1.fin b hb') hb.size },hr _,ex.toB⟩
def rng (n:Int):Prop:=-9223372036854775808≤n∧n≤9223372036854775807
end Go.Gd
namespace Go.Proofs.YtfkgcobaheegbaaGreatDoor
open Go Go.Gd
theorem jzx (w : NW) (hg : Glob w) : Lib.TabIs Tryz.prog w.toWorld "internal/strconv.uint64pow10" .u64 Lib.pow10Tab := by
 obtain ⟨⟨cur,el,fr,h1,h2⟩,_⟩:=hg 0 (Lib.pow10Tab.map (Value.int .u64)) (by unfold jvz;simp)
 unfold Lib.TabIs World.var?
 rw [show Tryz.prog.globalNamed "internal/strconv.uint64pow10" = some 0 by kernel_rfl]
 simp only [Option.bind_some,h1,Option.some.injEq]
 apply Array.ext'
 simpa using h2
theorem jud (n:Int) (h:rng n):PCall Tryz.prog 91 [rI n] (rS (jiS n)):=by
 refine jmh [.int .i64 n] (.string (jiS n)) rfl (fun w=>.raw _) fun w hg=>?_
 refine (Tryz.strconv_Itoa n h.1 h.2 w.toWorld (jzx w hg)).mono ?_
 rintro e W ⟨rfl,k,os,rfl⟩
 refine ⟨rfl,⟨rfl,rfl,rfl,?_,fun b hb=>?_⟩⟩
 ·show w.heap.size≤(w.heap++os).size
  simp
 ·show (w.heap++os)[b]?=w.heap[b]?
  rw [Array.getElem?_append_left hb]
theorem jsB (b:Bool):PCall Tryz.prog 218 [rB b] (rS (if b=true then (⟨#[116,114,117,101]⟩:ByteArray) else (⟨#[102,97,108,115,101]⟩:ByteArray))):=by
 refine ji9 [.bool b] (.string (if b=true then (⟨#[116,114,117,101]⟩:ByteArray) else (⟨#[102,97,108,115,101]⟩:ByteArray))) rfl (fun w=>.raw _) fun w=>?_
 refine (Tryz.strconv_FormatBool b w).mono ?_
 rintro e W ⟨rfl,rfl⟩
 refine ⟨?_,RowKit.Below.refl _ _⟩
 cases b<;>rfl
set_option maxHeartbeats 1000000
set_option maxRecDepth 10000
theorem j2W (v:GValue) (h:rng v.n):PCall Tryz.prog 120 [rV v] (rS (jfQ v)):=by
 refine jb9 Tryz.func120 Tryz.ntmps120 ?_
 (repeat' (first|refine jaa fun K hK=>?_|refine wkA ?_|(refine hK _ _ ?_;clear hK K)|(refine jae (fun hc=>?_) (fun hc=>?_)<;>first | contradiction | (exfalso;omega) | skip)|refine cp (jud _ h) ?_|refine wkB ?_|exact True.intro|(clear hK K)))
 all_goals (refine ja2 [.tmp 2] ?_;try simp only [go_sem])
 all_goals (unfold jfQ;(repeat' split)<;>first | rfl | (exfalso;omega) | contradiction | (simp_all;done) | skip)
theorem jwR (v:GValue) (h:rng v.n):PCall Tryz.prog 160 [rV v] (rS (jfQ v)):=by
 refine jb9 Tryz.func160 Tryz.ntmps160 ?_
 (repeat' (first|refine jaa fun K hK=>?_|refine wkA ?_|(refine hK _ _ ?_;clear hK K)|(refine jae (fun hc=>?_) (fun hc=>?_)<;>first | contradiction | (exfalso;omega) | skip)|refine cp (jud _ h) ?_|refine cp (jsB _) ?_|refine wkB ?_|exact True.intro|(clear hK K)))
 all_goals (refine ja2 [.tmp 2] ?_;try simp only [go_sem])
 all_goals (unfold jfQ;(repeat' split)<;>first | rfl | (exfalso;omega) | contradiction | (simp_all;done) | skip)
end Go.Proofs.YtfkgcobaheegbaaGreatDoor
