/- A law's arguments as they are read, and what a law's row asks behind the call. A slice that is made; arrays of two numbers as arguments. Families of things: as many as are asked for, each with a number of its own. Maps as things of one's own. Things of one's own are given up where another thing holds them. A slice of one's own that grows by zeros. A copy into a row of one's own. No conditions. -/
import Derived.Test.YtoclmdkhgfghbaaGreatDoorGdS
import Derived.ProofKit
import Derived.Deep.Slices
import Derived.Carry
import Derived.Laws.MakeOwn
import Derived.OpenShut
import Derived.MapKept
set_option linter.all false
namespace Go.Gd
open Go Go.ChangeShapes Go.WideShapes Go.ChangeAt Go.RowKit Go.Deep
@[reducible] def n0 (w:World):NW:={ toWorld:=w,O:=fun _=>False,nm:=fun _ _=>none }
def Dec (P:Program) (t:TypeId) (S:List AV→Prop):Prop:=
 ∀ (T:Type) (enc:TypeId×Value→T) (w:World) (fuel:Nat) (cs:List Value) (x:DataW T×List MemPlace),
  DataW.trod enc P w 0 (fun _=>true) true fuel t cs=some x→∃ us,S us∧RelL (n0 w) us cs
section
variable {P:Program} {t:TypeId}
theorem Dec.mono {S S':List AV→Prop} (h:Dec P t S) (hs:∀ us,S us→S' us):Dec P t S':=fun T enc w fuel cs x hx=>by
 obtain ⟨us,h1,h2⟩:=h T enc w fuel cs x hx
 exact ⟨us,hs us h1,h2⟩
theorem jfS {w:NW} {a:AV} {v:Value} (h:RelV w a v):RelL w [a] [v]:=⟨rfl,fun i b u hb hu=>by
 cases i with
 | zero=>simp at hb hu;subst hb hu;exact h
 | succ i=>simp at hb⟩
def jkq (P:Program):List Field→List (List AV→Prop)→Prop
 | [],[]=>True
 | f::l,S::Ss=>Dec P f.type S∧jkq P l Ss
 | _,_=>False
-- arguments
variable {T:Type} {enc:TypeId×Value→T} {w:World} {v:Value} {d:DataW T} {ps:List MemPlace} {base:Nat}
end
section
variable {P:Program} {T:Type} {enc:TypeId×Value→T}
theorem jci (hl:laidOutB P=true) {W W':World} (hb:Below W.heap.size W W'):∀ (ts:List TypeId) (vs:List Value) (ds:List (DataW T)) (ps:List MemPlace),(∀ t∈ts,P.readableRec t=true∧t < P.types.size)→
  DataW.TrodAll enc P W 0 (fun _=>true) true ts vs ds ps→(∀ x∈ps,x.block < W.heap.size)→DataW.TrodAll enc P W' 0 (fun b=>decide (b < W.heap.size)) true ts vs ds ps
 | [],[],[],ps,_,h,_=>h
 | t::ts,v::vs,d::ds,ps,hr,h,hlt=>by
  obtain ⟨p,q,h1,h2,rfl⟩:=h
  exact ⟨p,q,Below.trod hl (hr t (by simp)).1 (hr t (by simp)).2 h1 hb fun x hx=>hlt x (by simp [hx]),jci hl hb ts vs ds q (fun t ht=>hr t (by simp [ht])) h2 fun x hx=>hlt x (by simp [hx]),rfl⟩
 | [],_::_,_,_,_,h,_=>h.elim
 | [],[],_::_,_,_,h,_=>h.elim
 | _::_,[],_,_,_,h,_=>h.elim
 | _::_,_::_,[],_,_,h,_=>h.elim
theorem jib {fn:Func} {s:ChangeSpec} {apart je5 handsOn:Bool} {W W':World} {args:Array Value} {ds:List (DataW T)} {before:List MemPlace} {tb:TypeId} (hW:DataW.Whole enc P fn.params.toList s.vars apart W args.toList ds [] before)
  (hx:Below W.heap.size W W') (hl:laidOutB P=true) (hr:∀ t∈fn.params.toList,P.readableRec t=true∧t < P.types.size) (hrt:fn.resultTypes=#[tb]) (hb:P.underlying tb=some .bool) (hv:s.vars=[])
  (e1:(s.fn T (ds++[])).results=[.lit (.bool true)]) (e2:(s.fn T (ds++[])).args=ds) (e3:(s.fn T (ds++[])).vars=[]):s.post enc P fn apart je5 handsOn false W args (.bool true) W':=by
 have hW':=hW
 obtain ⟨p,q,hA,hV,rfl,hfz,hnd⟩:=hW
 rw [hv] at hV
 have hq:q=[]:=hV
 subst hq
 refine ⟨ds,[],_,[],p,[],hW',?_,?_,?_,hx.frame _,fun h=>by cases h⟩
 ·rw [hrt,e1]
  exact trodAll_mk1 (shut_bool hb true)
 ·rw [e2]
  exact jci hl hx _ _ _ _ hr hA fun x hx'=>by simpa using hW'.lt x (by simpa using hx')
 ·rw [hv,e3]
  exact rfl
theorem jhc (W:World) (hg:Glob (n0 W)):RelW (n0 W) (entry []):={
 glob:=hg
 rows:=fun i r h=>(by cases h)
 dom:=fun i m z h=>(by cases h)
 inj:=fun i m j n b t s t' s' h _=>(by cases h)
 own:=fun i m b t s h=>(by cases h)
 fin:=fun b h=>h.elim }
theorem jgT {f:FuncId} {avs:List AV} {args:Array Value} {W:World} (hg:Glob (n0 W)) (h:jax P f avs (.raw (.bool true))) (ha:RelL (n0 W) avs args.toList):Calls P f args W fun e W'=>e=.returned (.bool true)∧Below W.heap.size W W':=by
 refine (h (n0 W) args (jhc W hg) ⟨by rw [ha.1];simp,fun i a v h1 h2=>ha.2 i a v h1 (by rw [Array.getElem?_toList];exact h2)⟩).mono ?_
 rintro e w' ⟨v,r,H',w2,rfl,rfl,⟨rfl,_⟩,_,g2,g3⟩
 have:=jab g2
 subst this
 exact ⟨rfl,⟨g3.os,g3.tape,g3.output,g3.size,fun k hk=>(g3.free k hk (fun h=>h)).1⟩⟩
end
section
variable {P:Program} {f:FuncId} {args cs:List AV} {H:Hp} {K:AV→Hp→Prop} {q:Prop}
theorem cq {R:AV→Prop} {r0:AV} (hc:jax P f args r0) (k:q) (h0:jae P f=true:=by first | (simp (disch:=first | omega | assumption | fail) only [go_sem,jaa,W,↓reduceIte,Int.reduceEq,Int.reduceLE,Int.reduceLT,Int.reduceNe,Int.reduceToNat,Nat.reduceMul,Nat.reduceAdd,Nat.reduceLeDiff,Nat.reduceSub,Nat.reduceEqDiff,Nat.reduceBEq,List.nodup_cons,List.nodup_nil,List.mem_cons,List.not_mem_nil,List.mem_nil_iff];done) | (simp (disch:=first | omega | assumption | fail) only [go_sem,jaa,↓reduceIte,Int.reduceEq,Int.reduceLE,Int.reduceLT,Int.reduceNe,Int.reduceToNat,Nat.reduceMul,Nat.reduceAdd,Nat.reduceLeDiff,Nat.reduceSub,Nat.reduceEqDiff,Nat.reduceBEq,List.nodup_cons,List.nodup_nil,List.mem_cons,List.not_mem_nil,List.mem_nil_iff];done) | fail) (h2:jaV noQ args=true:=by first | (simp (disch:=first | omega | assumption | fail) only [go_sem,jaa,W,↓reduceIte,Int.reduceEq,Int.reduceLE,Int.reduceLT,Int.reduceNe,Int.reduceToNat,Nat.reduceMul,Nat.reduceAdd,Nat.reduceLeDiff,Nat.reduceSub,Nat.reduceEqDiff,Nat.reduceBEq,List.nodup_cons,List.nodup_nil,List.mem_cons,List.not_mem_nil,List.mem_nil_iff];done) | (simp (disch:=first | omega | assumption | fail) only [go_sem,jaa,↓reduceIte,Int.reduceEq,Int.reduceLE,Int.reduceLT,Int.reduceNe,Int.reduceToNat,Nat.reduceMul,Nat.reduceAdd,Nat.reduceLeDiff,Nat.reduceSub,Nat.reduceEqDiff,Nat.reduceBEq,List.nodup_cons,List.nodup_nil,List.mem_cons,List.not_mem_nil,List.mem_nil_iff];done) | fail) (e:R r0=q:=by first | (simp (disch:=first | omega | assumption | fail) only [go_sem,jaa,W,↓reduceIte,Int.reduceEq,Int.reduceLE,Int.reduceLT,Int.reduceNe,Int.reduceToNat,Nat.reduceMul,Nat.reduceAdd,Nat.reduceLeDiff,Nat.reduceSub,Nat.reduceEqDiff,Nat.reduceBEq,List.nodup_cons,List.nodup_nil,List.mem_cons,List.not_mem_nil,List.mem_nil_iff];rfl) | (simp (disch:=first | omega | assumption | fail) only [go_sem,jaa,↓reduceIte,Int.reduceEq,Int.reduceLE,Int.reduceLT,Int.reduceNe,Int.reduceToNat,Nat.reduceMul,Nat.reduceAdd,Nat.reduceLeDiff,Nat.reduceSub,Nat.reduceEqDiff,Nat.reduceBEq,List.nodup_cons,List.nodup_nil,List.mem_cons,List.not_mem_nil,List.mem_nil_iff];rfl) | rfl | fail) :
  ∃ r,(jaU P (.raw (.func (.func f) #[] #[])) args H fun r' H'=>r'=r∧H'=H)∧R r:=⟨r0,jbC h0 (jbe hc h2 ⟨rfl,rfl⟩),e ▸ k⟩
end
def Sub (a' a:AV):Prop:=∀ (w:NW) v,RelV w a' v→RelV w a v
def SubL:List AV→List AV→Prop
 | [],[]=>True
 | a::l,b::m=>Sub a b∧SubL l m
 | _,_=>False
theorem Sub.refl (a:AV):Sub a a:=fun _ _ h=>h
theorem Sub.nil (sz:Nat) (d:List AV):Sub (.raw (.slice none 0 0)) (.sl false sz [] d):=fun w v h=>by
 have:=jab h
 subst this
 exact .sl0 _ _ _ _ (by simp)
theorem Sub.lit (sz:Nat) (css:List (List AV)) (d d':List AV):Sub (.sl true sz css d) (.sl false sz css d'):=fun w v h=>by
 cases h with
 | sl0 _ _ A c _=>exact .sl0 _ _ _ _ (by simp)
 | sl _ _ _ a c vs hn hc hx hsz hb hH hcell h=>exact .sl false sz css a c vs hn hc (by simp) hsz hb hH hcell h
theorem SubL.get:∀ {l m:List AV},SubL l m→l.length=m.length∧∀ (i:Nat) a b,l[i]?=some a→m[i]?=some b→Sub a b
 | [],[],_=>⟨rfl,fun i a b h=>by simp at h⟩
 | x::l,y::m,h=>by
  have ih:=SubL.get h.2
  refine ⟨by simp [ih.1],fun i a b ha hb=>?_⟩
  cases i with
  | zero=>simp at ha hb;subst ha hb;exact h.1
  | succ i=>exact ih.2 i a b (by simpa using ha) (by simpa using hb)
 | [],_::_,h=>h.elim
 | _::_,[],h=>h.elim
end Go.Gd
namespace Go.Gd
open Go
@[go_sem] theorem jeN {P:Program} {ev:Operand→AV} {H:Hp} {ty:TypeId} {K:AV→Hp→Prop} (t:TypeId) (l c:Operand):vc P ev H ty K (.makeSlice t l c)=jcK P (.makeSlice t l c) ty ev H K:=by simp [vc,jac]
theorem jh7 {w:NW} {z:Array Value} {zs:List Value} {n sz:Nat} (hz:z.toList=zs) (hl:zs.length=sz) (h0:0 < sz) (k:Nat) (a:AV) (v:Value) (ha:(List.replicate n (zs.map AV.raw)).flatten[k]?=some a) (hv:(madeCells z (n * sz))[k]?=some v):RelV w a v:=by
 have hzs:z.size=sz:=by rw [← hl,← hz];simp
 have hk:k < n * sz:=by
  have:=(Array.getElem?_eq_some_iff.1 hv).1
  rwa [size_madeCells] at this
 obtain ⟨i,j,hi,hj,rfl⟩:=jbf hk
 have hcs:∀ cs∈List.replicate n (zs.map AV.raw),cs.length=sz:=fun cs hcs=>by
  rw [(List.mem_replicate.1 hcs).2];simpa using hl
 have hg:=jar hcs (i:=i) (j:=j) (by simpa using hi) hj
 rw [hg] at ha
 have:(List.replicate n (zs.map AV.raw)).getD i []=zs.map AV.raw:=by simp [List.getD_eq_getElem?_getD,hi]
 rw [this] at ha
 simp only [List.getElem?_map,Option.map_eq_some_iff] at ha
 obtain ⟨x,hx,rfl⟩:=ha
 have e:(i * sz+j) % sz=j:=by rw [Nat.add_comm,Nat.add_mul_mod_self_right];exact Nat.mod_eq_of_lt hj
 have:v=x:=by
  have hv2:(madeCells z (n * sz))[i * sz+j]?=some (z[(i * sz+j) % z.size]!):=by simp [madeCells,hk]
  rw [hv2] at hv
  have hv:=Option.some.inj hv
  rw [← hv,hzs,e]
  have hjz:j < z.size:=by omega
  rw [getElem!_pos z j hjz]
  have hx':z.toList[j]?=some x:=by rw [hz];exact hx
  rw [Array.getElem?_toList] at hx'
  exact Option.some.inj ((Array.getElem?_eq_getElem hjz).symm.trans hx')
 subst this
 exact .raw _
theorem mkS {P:Program} {ev:Operand→AV} {H:Hp} {ty:TypeId} {K:AV→Hp→Prop} {q:Prop} (i:Nat) {t et:TypeId} {sz n:Nat} {zs:List Value} {l c:Operand} (k:q) (hl:ev l=.raw (.int .i64 (n:Int)):=by rfl) (hc:ev c=.raw (.int .i64 (n:Int)):=by rfl) (ht:elT P t=some et:=by (simp only [go_sem];rfl)) (hs:jba P et=some sz:=by (simp only [go_sem];rfl)) (hz:jaG P et=some zs:=by (simp only [go_sem];rfl)) (hzl:zs.length=sz:=by rfl) (h0:0 < sz:=by decide) (hr:jhM (jca P et) n:=by (simp only [go_sem];omega)) (hi:H.get i=none:=by rfl)
  (e:K (.rs i n sz n) (H.put i (.vec et sz (List.replicate n (zs.map .raw))))=q:=by first | (simp (disch:=first | omega | assumption | fail) only [go_sem,jaa,W,↓reduceIte,Int.reduceEq,Int.reduceLE,Int.reduceLT,Int.reduceNe,Int.reduceToNat,Nat.reduceMul,Nat.reduceAdd,Nat.reduceLeDiff,Nat.reduceSub,Nat.reduceEqDiff,Nat.reduceBEq,List.nodup_cons,List.nodup_nil,List.mem_cons,List.not_mem_nil,List.mem_nil_iff];rfl) | (simp (disch:=first | omega | assumption | fail) only [go_sem,jaa,↓reduceIte,Int.reduceEq,Int.reduceLE,Int.reduceLT,Int.reduceNe,Int.reduceToNat,Nat.reduceMul,Nat.reduceAdd,Nat.reduceLeDiff,Nat.reduceSub,Nat.reduceEqDiff,Nat.reduceBEq,List.nodup_cons,List.nodup_nil,List.mem_cons,List.not_mem_nil,List.mem_nil_iff];rfl) | rfl | fail):jcK P (.makeSlice t l c) ty ev H K:=fun w ρ dst pos after guard hw hρ=>by
 have h1:=hρ l (by simp [Op.operands])
 have h2:=hρ c (by simp [Op.operands])
 rw [hl] at h1
 rw [hc] at h2
 have e1:=jab h1
 have e2:=jab h2
 have hu:P.underlying t=some (.slice et):=jdU ht
 unfold jba at hs
 cases hf:P.info? et with
 | none=>rw [hf] at hs;cases hs
 | some inf=>
  rw [hf] at hs
  have hsz:inf.size=sz:=by simpa using hs
  have hz':=hz
  unfold jaG at hz'
  rw [hf] at hz'
  simp only [Option.bind_some,Option.map_eq_some_iff] at hz'
  obtain ⟨z,hzz,hzl'⟩:=hz'
  have hby:jca P et=inf.bytes:=by unfold jca;rw [hf];rfl
  obtain ⟨r1,r2⟩:=hr
  rw [hby] at r1
  have hrun:=run_make (P:=P) w.toWorld t et inf z hu hf hzz .i64 .i64 (n:Int) (n:Int) (by omega) (by omega) (by
   have h:((n * inf.bytes:Nat):Int)≤140737488355328:=by omega
   rw [Int.natCast_mul,Int.mul_comm] at h
   omega) (by omega)
  simp only [Int.toNat_natCast] at hrun
  rw [hsz] at hrun
  have hcs:∀ cs∈List.replicate n (zs.map AV.raw),cs.length=sz:=fun cs hcs=>by rw [(List.mem_replicate.1 hcs).2];simpa using hzl
  have hfl:=jaf hcs
  simp only [List.length_replicate] at hfl
  obtain ⟨q1,q2⟩:=jcs (row:=.vec et sz (List.replicate n (zs.map AV.raw))) hw (hw.none hi _) (fun r' hr=>by rw [hi] at hr;cases hr) ⟨h0,hcs⟩ (madeCells z.cells (n * sz)) ⟨rfl,by show (List.replicate n (zs.map AV.raw)).flatten.length≤_;rw [hfl,size_madeCells];exact Nat.le_refl _⟩ (fun k a v ha hv=>jh7 hzl' hzl h0 k a v ha hv)
  refine ⟨_,_,.rs i n sz n,e ▸ k,q1,q2,.inl ⟨.slice (some ⟨w.heap.size,0,none⟩) n n,?_,?_⟩⟩
  ·simp only [execOp,e1,e2]
   simp [hrun]
   rfl
  ·have hnm:(((w.to (w.alloc (.cells (madeCells z.cells (n * sz)) et))).seize w.heap.size).name i n (.at w.heap.size (n * sz) sz)).nm i n=some (.at w.heap.size (n * sz) sz):=NW.name_same _ _ _ _
   have:=RelV.rs (w:=((w.to (w.alloc (.cells (madeCells z.cells (n * sz)) et))).seize w.heap.size).name i n (.at w.heap.size (n * sz) sz)) i n sz n w.heap.size (n * sz) n hnm rfl (Nat.le_refl _) h0
   have e3:(Row.vec et sz (List.replicate n (zs.map AV.raw))).ver=n:=by show (List.replicate n (zs.map AV.raw)).length=n;simp
   have e4:(madeCells z.cells (n * sz)).size=n * sz:=size_madeCells _ _
   rw [e3,e4]
   exact this
open Go.ChangeShapes Go.WideShapes Go.ChangeAt Go.RowKit
end Go.Gd
namespace Go.Gd
open Go
structure Lays (E:List (Nat×Row)→List (Nat×Row)) (tl:List (Nat×Row)):Prop where
 get:∀ i,jaQ (E tl) i=(jaQ (E []) i).or (jaQ tl i)
 apart:∀ i r,jaQ tl i=some r→jaQ (E []) i=none
theorem alF {P:Program} (i:Nat) {t:TypeId} {H:Hp} {K:AV→Hp→Prop} {zs:List Value} {q:Prop} (k:q) (hi:H.get i=none:=by first | rfl | first | (simp (disch:=first | omega | assumption | fail) only [go_sem,jaa,W,↓reduceIte,Int.reduceEq,Int.reduceLE,Int.reduceLT,Int.reduceNe,Int.reduceToNat,Nat.reduceMul,Nat.reduceAdd,Nat.reduceLeDiff,Nat.reduceSub,Nat.reduceEqDiff,Nat.reduceBEq,List.nodup_cons,List.nodup_nil,List.mem_cons,List.not_mem_nil,List.mem_nil_iff];done) | (simp (disch:=first | omega | assumption | fail) only [go_sem,jaa,↓reduceIte,Int.reduceEq,Int.reduceLE,Int.reduceLT,Int.reduceNe,Int.reduceToNat,Nat.reduceMul,Nat.reduceAdd,Nat.reduceLeDiff,Nat.reduceSub,Nat.reduceEqDiff,Nat.reduceBEq,List.nodup_cons,List.nodup_nil,List.mem_cons,List.not_mem_nil,List.mem_nil_iff];done) | fail) (hz:jaG P t=some zs:=by (simp only [go_sem];rfl)) (e:K (.pt i 0 0 0) (H.put i (.var t (zs.map .raw)))=q:=by first | (simp (disch:=first | omega | assumption | fail) only [go_sem,jaa,W,↓reduceIte,Int.reduceEq,Int.reduceLE,Int.reduceLT,Int.reduceNe,Int.reduceToNat,Nat.reduceMul,Nat.reduceAdd,Nat.reduceLeDiff,Nat.reduceSub,Nat.reduceEqDiff,Nat.reduceBEq,List.nodup_cons,List.nodup_nil,List.mem_cons,List.not_mem_nil,List.mem_nil_iff];rfl) | (simp (disch:=first | omega | assumption | fail) only [go_sem,jaa,↓reduceIte,Int.reduceEq,Int.reduceLE,Int.reduceLT,Int.reduceNe,Int.reduceToNat,Nat.reduceMul,Nat.reduceAdd,Nat.reduceLeDiff,Nat.reduceSub,Nat.reduceEqDiff,Nat.reduceBEq,List.nodup_cons,List.nodup_nil,List.mem_cons,List.not_mem_nil,List.mem_nil_iff];rfl) | rfl | fail):ja5 P H t K:=jcG i hz hi (e ▸ k)
theorem bxF (i:Nat) {t:TypeId} {x:AV} {H:Hp} {K:AV→Hp→Prop} {q:Prop} (k:q) (hi:H.get i=none:=by first | rfl | first | (simp (disch:=first | omega | assumption | fail) only [go_sem,jaa,W,↓reduceIte,Int.reduceEq,Int.reduceLE,Int.reduceLT,Int.reduceNe,Int.reduceToNat,Nat.reduceMul,Nat.reduceAdd,Nat.reduceLeDiff,Nat.reduceSub,Nat.reduceEqDiff,Nat.reduceBEq,List.nodup_cons,List.nodup_nil,List.mem_cons,List.not_mem_nil,List.mem_nil_iff];done) | (simp (disch:=first | omega | assumption | fail) only [go_sem,jaa,↓reduceIte,Int.reduceEq,Int.reduceLE,Int.reduceLT,Int.reduceNe,Int.reduceToNat,Nat.reduceMul,Nat.reduceAdd,Nat.reduceLeDiff,Nat.reduceSub,Nat.reduceEqDiff,Nat.reduceBEq,List.nodup_cons,List.nodup_nil,List.mem_cons,List.not_mem_nil,List.mem_nil_iff];done) | fail) (ho:ones x.cells=true:=by simp only [go_sem]) (e:K (.pt i 0 0 0) (H.put i (.var t x.cells))=q:=by first | (simp (disch:=first | omega | assumption | fail) only [go_sem,jaa,W,↓reduceIte,Int.reduceEq,Int.reduceLE,Int.reduceLT,Int.reduceNe,Int.reduceToNat,Nat.reduceMul,Nat.reduceAdd,Nat.reduceLeDiff,Nat.reduceSub,Nat.reduceEqDiff,Nat.reduceBEq,List.nodup_cons,List.nodup_nil,List.mem_cons,List.not_mem_nil,List.mem_nil_iff];rfl) | (simp (disch:=first | omega | assumption | fail) only [go_sem,jaa,↓reduceIte,Int.reduceEq,Int.reduceLE,Int.reduceLT,Int.reduceNe,Int.reduceToNat,Nat.reduceMul,Nat.reduceAdd,Nat.reduceLeDiff,Nat.reduceSub,Nat.reduceEqDiff,Nat.reduceBEq,List.nodup_cons,List.nodup_nil,List.mem_cons,List.not_mem_nil,List.mem_nil_iff];rfl) | rfl | fail):jiY H t x K:=jdL i ho hi (e ▸ k)
section
variable {α:Type} [DecidableEq α]
def jiO (n:α):List α→List AV→Option AV
 | k::ks,v::vs=>if n=k then some v else jiO n ks vs
 | _,_=>none
def jfb (n:α) (x:AV):List α→List AV→List AV
 | k::ks,v::vs=>if n=k then x::vs else v::jfb n x ks vs
 | _,_=>[x]
def jfa (n:α):List α→List α
 | k::ks=>if n=k then k::ks else k::jfa n ks
 | []=>[n]
theorem jfO (n:α) (x:AV):∀ (ks:List α) (vs:List AV),ks.length=vs.length→(jfa n ks).length=(jfb n x ks vs).length
 | [],[],_=>rfl
 | [],_::_,h=>by simp at h
 | _::_,[],h=>by simp at h
 | k::ks,v::vs,h=>by
  have h:ks.length=vs.length:=by simpa using h
  unfold jfa jfb
  split
  ·simp [h]
  ·simp [jfO n x ks vs h]
structure KeyOf (P:Program) (kt:TypeId) (enc:α→Value):Prop where
 und:∃ d,P.underlying kt=some d∧∀ a b,Instr.sameNow d (enc a) (enc b)=some (decide (a=b))
 chk:∀ (w:World) a e,(Instr.checkKey e 10000 kt (enc a)).run P w=.ok () w
 bits:∀ a,Instr.sameBits 10000 (enc a) (enc a)=true
theorem jkU {P:Program} {kt:TypeId} (h:P.underlying kt=some (.int .i64)):KeyOf P kt (Value.int .i64):=⟨⟨_,h,fun a b=>by simp [Instr.sameNow];rfl⟩,fun w a e=>MapKept.run_checkKey h (by simp [MapKept.IsKey]) e 9999,fun a=>by unfold Instr.sameBits;simp⟩
def fnd (n:α):List α→List Value→Nat→Option (Nat×Value)
 | k::ks,v::vs,i=>if n=k then some (i,v) else fnd n ks vs (i+1)
 | _,_,_=>none
theorem jcz {d:TypeDesc} {enc:α→Value} (h:∀ a b,Instr.sameNow d (enc a) (enc b)=some (decide (a=b))) (n:α):∀ (ks:List α) (vs:List Value) (b i:Nat),Instr.findNow d (enc n) (jco b (ks.map enc) vs) i=some (fnd n ks vs i)
 | [],vs,b,i=>by simp [jco,fnd,Instr.findNow]
 | k::ks,[],b,i=>by simp [jco,fnd,Instr.findNow]
 | k::ks,v::vs,b,i=>by
  simp only [List.map_cons,jco,fnd,Instr.findNow,h]
  by_cases e:n=k
  ·simp [e]
  ·simp [e,jcz h n ks vs (b+1) (i+1)]
theorem jdY {n:α}:∀ {ks:List α} {vs:List Value} {i j:Nat} {v:Value},fnd n ks vs i=some (j,v)→∃ k,j=i+k∧vs[k]?=some v∧ks[k]?=some n∧k < ks.length∧
  (∀ zl:List AV,zl.length=ks.length→jiO n ks zl=zl[k]?∧(∀ x,jfb n x ks zl=zl.set k x))∧jfa n ks=ks
 | [],_,_,_,_,h=>by simp [fnd] at h
 | _::_,[],_,_,_,h=>by simp [fnd] at h
 | k::ks,v'::vs,i,j,v,h=>by
  unfold fnd at h
  split at h
  ·rename_i e
   cases h
   refine ⟨0,rfl,rfl,by simp [e],by simp,fun zl hl=>?_,by simp [jfa,e]⟩
   cases zl with
   | nil=>simp at hl
   | cons a zl=>exact ⟨by simp [jiO,e],fun x=>by simp [jfb,e]⟩
  ·rename_i e
   obtain ⟨q,h1,h2,h3,h5,h4,h6⟩:=jdY h
   refine ⟨q+1,by omega,by simpa using h2,by simpa using h3,by simpa using h5,fun zl hl=>?_,by unfold jfa;rw [if_neg e,h6]⟩
   cases zl with
   | nil=>simp at hl
   | cons a zl=>
    obtain ⟨g1,g2⟩:=h4 zl (by simpa using hl)
    exact ⟨by unfold jiO;rw [if_neg e,g1];rfl,fun x=>by unfold jfb;rw [if_neg e,g2];rfl⟩
theorem jdX {n:α}:∀ {ks:List α} {vs:List Value} {i:Nat},ks.length=vs.length→fnd n ks vs i=none→(∀ zl:List AV,zl.length=ks.length→jiO n ks zl=none∧∀ x,jfb n x ks zl=zl++[x])∧jfa n ks=ks++[n]
 | [],_,_,_,_=>⟨fun zl hl=>by
   have:zl=[]:=by simpa using hl
   subst this;exact ⟨rfl,fun x=>rfl⟩,rfl⟩
 | _::_,[],_,h,_=>by simp at h
 | k::ks,v'::vs,i,hl,h=>by
  unfold fnd at h
  split at h
  ·cases h
  ·rename_i e
   obtain ⟨g1,g2⟩:=jdX (by simpa using hl) h
   refine ⟨fun zl hla=>?_,by unfold jfa;rw [if_neg e,g2];rfl⟩
   cases zl with
   | nil=>simp at hla
   | cons a zl=>
    obtain ⟨q1,q2⟩:=g1 zl (by simpa using hla)
    exact ⟨by unfold jiO;rw [if_neg e,q1],fun x=>by unfold jfb;rw [if_neg e,q2];rfl⟩
theorem jeo:∀ (b:Nat) (ks vs:List Value) (k v:Value),ks.length=vs.length→jco b (ks++[k]) (vs++[v])=jco b ks vs++[⟨k,v,b+ks.length⟩]
 | b,[],[],k,v,_=>by simp [jco]
 | b,[],_::_,k,v,h=>by simp at h
 | b,_::_,[],k,v,h=>by simp at h
 | b,k'::ks,v'::vs,k,v,h=>by
  have:=jeo (b+1) ks vs k v (by simpa using h)
  simp only [List.cons_append,jco,this,List.length_cons]
  rw [show b+1+ks.length=b+(ks.length+1) by omega]
theorem jfE:∀ (b:Nat) (ks vs:List Value) (j:Nat) (k v:Value),ks[j]?=some k→vs[j]?=some v→(jco b ks vs)[j]?=some ⟨k,v,b+j⟩
 | b,[],_,j,k,v,h,_=>by simp at h
 | b,_::_,[],j,k,v,_,h=>by simp at h
 | b,k'::ks,v'::vs,0,k,v,h1,h2=>by simp at h1 h2;subst h1 h2;rfl
 | b,k'::ks,v'::vs,j+1,k,v,h1,h2=>by
  have:=jfE (b+1) ks vs j k v (by simpa using h1) (by simpa using h2)
  simp only [jco,List.getElem?_cons_succ,this]
  rw [show b+1+j=b+(j+1) by omega]
theorem jfF:∀ (b:Nat) (ks vs:List Value) (j:Nat) (k v:Value),ks[j]?=some k→j < vs.length→jco b ks (vs.set j v)=(jco b ks vs).modify j fun e=>{ e with key:=k,val:=v }
 | b,[],_,j,k,v,h,_=>by simp at h
 | b,_::_,[],j,k,v,_,h=>by simp at h
 | b,k'::ks,v'::vs,0,k,v,h1,_=>by simp at h1;subst h1;simp [jco]
 | b,k'::ks,v'::vs,j+1,k,v,h1,h2=>by
  have:=jfF (b+1) ks vs j k v (by simpa using h1) (by simpa using h2)
  simp [jco,this]
theorem jfN {P:Program} {kt:TypeId} {enc:α→Value} (K:KeyOf P kt enc) (w:World) (n:α) (ks:List α) (vs:List Value) (b:Nat):(Instr.findKey kt (enc n) (jco b (ks.map enc) vs)).run P w=.ok (fnd n ks vs 0) w:=by
 obtain ⟨d,h1,h2⟩:=K.und
 simp [Instr.findKey,run_underlying h1,jcz h2,Result.andThen]
end
section
variable {P:Program} {H:Hp} {α:Type} [DecidableEq α]
theorem jgW {w:NW} (hw:RelW w H) {i:Nat} {ks:List Value} {vs:List AV} {b t s:Nat} (hi:H.get i=some (.mp ks vs)) (hn:w.nm i 0=some (.at b t s)) :
  s=0∧ks.length=vs.length∧∃ cur:Array Value,w.heap[b]?=some (.map (jco 0 ks cur.toList).toArray ks.length)∧cur.size=vs.length∧∀ (k:Nat) a v,vs[k]?=some a→cur[k]?=some v→RelV w a v:=by
 obtain ⟨hok,z,hz,hrow⟩:=hw.rows _ _ hi
 have:z=.at b t s:=by have hz:w.nm i 0=some z:=hz;rw [hn] at hz;cases hz;rfl
 subst this
 obtain ⟨h1,cur,hh,hfit,hr⟩:=hrow
 exact ⟨h1,hok,cur,hh,hfit,hr⟩
theorem mkM (i:Nat) {ev:Operand→AV} {ty:TypeId} {K:AV→Hp→Prop} {t:TypeId} {q:Prop} (k:q) (hi:H.get i=none:=by first | rfl | first | (simp (disch:=first | omega | assumption | fail) only [go_sem,jaa,W,↓reduceIte,Int.reduceEq,Int.reduceLE,Int.reduceLT,Int.reduceNe,Int.reduceToNat,Nat.reduceMul,Nat.reduceAdd,Nat.reduceLeDiff,Nat.reduceSub,Nat.reduceEqDiff,Nat.reduceBEq,List.nodup_cons,List.nodup_nil,List.mem_cons,List.not_mem_nil,List.mem_nil_iff];done) | (simp (disch:=first | omega | assumption | fail) only [go_sem,jaa,↓reduceIte,Int.reduceEq,Int.reduceLE,Int.reduceLT,Int.reduceNe,Int.reduceToNat,Nat.reduceMul,Nat.reduceAdd,Nat.reduceLeDiff,Nat.reduceSub,Nat.reduceEqDiff,Nat.reduceBEq,List.nodup_cons,List.nodup_nil,List.mem_cons,List.not_mem_nil,List.mem_nil_iff];done) | fail) (e:K (.mr i) (H.put i (.mp [] []))=q:=by first | (simp (disch:=first | omega | assumption | fail) only [go_sem,jaa,W,↓reduceIte,Int.reduceEq,Int.reduceLE,Int.reduceLT,Int.reduceNe,Int.reduceToNat,Nat.reduceMul,Nat.reduceAdd,Nat.reduceLeDiff,Nat.reduceSub,Nat.reduceEqDiff,Nat.reduceBEq,List.nodup_cons,List.nodup_nil,List.mem_cons,List.not_mem_nil,List.mem_nil_iff];rfl) | (simp (disch:=first | omega | assumption | fail) only [go_sem,jaa,↓reduceIte,Int.reduceEq,Int.reduceLE,Int.reduceLT,Int.reduceNe,Int.reduceToNat,Nat.reduceMul,Nat.reduceAdd,Nat.reduceLeDiff,Nat.reduceSub,Nat.reduceEqDiff,Nat.reduceBEq,List.nodup_cons,List.nodup_nil,List.mem_cons,List.not_mem_nil,List.mem_nil_iff];rfl) | rfl | fail):jcK P (.makeMap t none) ty ev H K:=fun w ρ dst pos after guard hw hρ=>by
 obtain ⟨q1,q2⟩:=jcs (row:=.mp [] []) hw (hw.none hi _) (fun r' hr=>by rw [hi] at hr;cases hr) rfl #[] rfl (fun k a v ha hv=>by
  have ha:([]:List AV)[k]?=some a:=ha
  simp at ha)
 refine ⟨_,_,.mr i,e ▸ k,q1,q2,.inl ⟨.map (some w.heap.size),?_,.mr _ _ _ _ (NW.name_same _ _ _ _)⟩⟩
 simp [execOp,Instr.makeMap,newObj,Result.andThen]
 rfl
theorem jnX {ev:Operand→AV} {ty:TypeId} {K:AV→Hp→Prop} {t kt et:TypeId} {om ok ox:Operand} {op:Op} {i:Nat} {ks:List α} {vs:List AV} {n:α} {x:AV} {enc:α→Value} {q:Prop} (hop:op=.insert t om ok ox∨op=.mapUpdate t om ok ox) (hK:KeyOf P kt enc) (ht:P.underlying t=some (.map kt et))
  (hm:ev om=.mr i) (hk:ev ok=.raw (enc n)) (hx:ev ox=x) (hi:H.get i=some (.mp (ks.map enc) vs)) (k:q) (e:K .any (H.put i (.mp ((jfa n ks).map enc) (jfb n x ks vs)))=q):jcK P op ty ev H K:=fun w ρ dst pos after guard hw hρ=>by
 have ho:om∈op.operands.toList∧ok∈op.operands.toList∧ox∈op.operands.toList:=by rcases hop with rfl | rfl<;>simp [Op.operands]
 have h1:=hρ om ho.1
 have h2:=hρ ok ho.2.1
 have h3:=hρ ox ho.2.2
 rw [hm] at h1
 rw [hk] at h2
 rw [hx] at h3
 have e2:=jab h2
 cases e1:ρ om with
 | map r=>
  rw [e1] at h1
  cases h1 with
  | mr _ b u s hn=>
  obtain ⟨rfl,hl,cur,hh,hsz,hr⟩:=jgW hw hi hn
  have hl:ks.length=vs.length:=by simpa using hl
  have hcl:ks.length=cur.toList.length:=by simp;omega
  have hb:b < w.heap.size:=hw.lt hn
  have run:∀ (vs':List Value) (ks':List α),ks'.length=vs'.length→(jfb n x ks vs).length=vs'.length→jfa n ks=ks'→
    (Instr.mapUpdate t (ρ om) (ρ ok) (ρ ox)).run P w.toWorld=.ok () { w.toWorld with heap:=w.heap.setIfInBounds b (.map (jco 0 (ks'.map enc) vs').toArray ks'.length) }→
    (∀ (k:Nat) a v,(jfb n x ks vs)[k]?=some a→vs'[k]?=some v→RelV w a v)→∃ (w':NW) (H':Hp) (r:AV),K r H'∧RelW w' H'∧Ext w H w' H'∧((∃ v,(execOp ρ ⟨dst,op,ty,pos,after,guard⟩).run P w.toWorld=.ok (.value v) w'.toWorld∧RelV w' r v)∨((execOp ρ ⟨dst,op,ty,pos,after,guard⟩).run P w.toWorld=.ok .skip w'.toWorld∧r=.any)):=fun vs' ks' hl' hl2 hkk hrun hrel=>by
   obtain ⟨g1,g2⟩:=jey (W:={ w.toWorld with heap:=w.heap.setIfInBounds b (.map (jco 0 (ks'.map enc) vs').toArray ks'.length) }) (row:=.mp (ks.map enc) vs) (row':=.mp ((jfa n ks).map enc) (jfb n x ks vs)) hw hi hn rfl (Nat.le_refl _) (by show ((jfa n ks).map enc).length=_;rw [List.length_map];exact jfO n x ks vs hl) rfl rfl rfl (by simp) (fun c hc=>by
    show (w.heap.setIfInBounds b _)[c]?=_
    rw [Array.getElem?_setIfInBounds,if_neg (fun h=>hc h.symm)]) vs'.toArray (by
    show (w.heap.setIfInBounds b _)[b]?=_
    rw [Array.getElem?_setIfInBounds,if_pos rfl,if_pos hb,hkk]
    simp [Row.obj]) (by show vs'.toArray.size=_;simp;omega) (fun k a v ha hv=>hrel k a v ha (by simpa using hv))
   refine ⟨_,_,.any,e ▸ k,g1,g2,.inr ⟨?_,rfl⟩⟩
   rcases hop with rfl | rfl
   ·simp only [execOp,hrun];simp [hrun,Result.andThen];rfl
   ·simp only [execOp,hrun];simp [hrun,Result.andThen];rfl
  have hfind:=jfN hK w.toWorld n ks cur.toList 0
  cases hf:fnd n ks cur.toList 0 with
  | none=>
   obtain ⟨f1,f2⟩:=jdX hcl hf
   obtain ⟨f3,f4⟩:=f1 vs (by omega)
   refine run (cur.toList++[ρ ox]) (ks++[n]) (by simp;omega) (by rw [f4];simp;omega) f2 ?_ ?_
   ·rw [e1,e2]
    have es:=jeo 0 (ks.map enc) cur.toList (enc n) (ρ ox) (by simpa using hcl)
    rw [Nat.zero_add,List.length_map] at es
    rw [List.map_append,List.map_singleton,es]
    simp [Instr.mapUpdate,run_underlying ht,MapKept.run_getObj_map hh,hK.chk,hfind,hf,MapKept.run_setObj_map _ hh,Result.andThen]
   ·intro k a v ha hv
    rw [f4] at ha
    rcases Nat.lt_or_ge k vs.length with h | h
    ·rw [List.getElem?_append_left h] at ha
     rw [List.getElem?_append_left (by simp;omega)] at hv
     exact hr k a v ha (by simpa using hv)
    ·rw [List.getElem?_append_right h] at ha
     rw [List.getElem?_append_right (by simp;omega)] at hv
     have hk0:k - vs.length=0:=by
      have:=(List.getElem?_eq_some_iff.1 ha).1
      simp at this;omega
     rw [hk0] at ha
     rw [show k - cur.toList.length=0 by simp;omega] at hv
     simp at ha hv
     subst ha hv
     exact h3
  | some jv=>
   obtain ⟨j,v0⟩:=jv
   obtain ⟨k0,rfl,f2,f3,f5,f4,f6⟩:=jdY hf
   rw [Nat.zero_add] at hf
   obtain ⟨f7,f8⟩:=f4 vs (by omega)
   refine run (cur.toList.set k0 (ρ ox)) ks (by simp;omega) (by rw [f8];simp;omega) f6 ?_ ?_
   ·rw [e1,e2]
    have hke:(ks.map enc)[k0]?=some (enc n):=by simp [f3]
    have es:=jfF 0 (ks.map enc) cur.toList k0 (enc n) (ρ ox) hke (by omega)
    have eg:=jfE 0 (ks.map enc) cur.toList k0 (enc n) v0 hke f2
    rw [es]
    have hmod:∀ g,(jco 0 (ks.map enc) cur.toList).toArray.modify k0 g=((jco 0 (ks.map enc) cur.toList).modify k0 g).toArray:=fun g=>by simp
    simp [Instr.mapUpdate,run_underlying ht,MapKept.run_getObj_map hh,hK.chk,hfind,hf,MapKept.run_setObj_map _ hh,Result.andThen,eg,Instr.keyThatStays,hK.bits]
   ·intro k a v ha hv
    rw [f8,List.getElem?_set] at ha
    rw [List.getElem?_set] at hv
    by_cases hk':k0=k
    ·rw [if_pos hk'] at ha hv
     split at ha
     ·split at hv
      ·cases ha;cases hv;exact h3
      ·cases hv
     ·cases ha
    ·rw [if_neg hk'] at ha hv
     exact hr k a v ha (by simpa using hv)
 | _=>rw [e1] at h1;cases h1
def jgX (n:α) (ks:List α) (vs:List AV) (z:AV) (ok:Bool):AV:=if ok=true then (match jiO n ks vs with | some v=>.tup [v,.raw (.bool true)] | none=>.tup [z,.raw (.bool false)]) else (jiO n ks vs).getD z
theorem jnK {ev:Operand→AV} {ty:TypeId} {K:AV→Hp→Prop} {t kt et:TypeId} {om ox:Operand} {c:Bool} {i:Nat} {ks:List α} {vs:List AV} {n:α} {z:Value} {enc:α→Value} {q:Prop} (hK:KeyOf P kt enc) (ht:P.underlying t=some (.map kt et)) (hz:(P.info? et).bind (·.zero)=some z)
  (hm:ev om=.mr i) (hk:ev ox=.raw (enc n)) (hi:H.get i=some (.mp (ks.map enc) vs)) (k:q) (e:K (jgX n ks vs (.raw z) c) H=q):jcK P (.lookup t om ox c) ty ev H K:=fun w ρ dst pos after guard hw hρ=>by
 have h1:=hρ om (by simp [Op.operands])
 have h2:=hρ ox (by simp [Op.operands])
 rw [hm] at h1
 rw [hk] at h2
 have e2:=jab h2
 cases e1:ρ om with
 | map r=>
  rw [e1] at h1
  cases h1 with
  | mr _ b u s hn=>
  obtain ⟨rfl,hl,cur,hh,hsz,hr⟩:=jgW hw hi hn
  have hl:ks.length=vs.length:=by simpa using hl
  have hcl:ks.length=cur.toList.length:=by simp;omega
  have hfind:=jfN hK w.toWorld n ks cur.toList 0
  have hzr:(zeroValue et).run P w.toWorld=.ok z w.toWorld:=by
   cases hti:P.info? et with
   | none=>rw [hti] at hz;cases hz
   | some ti=>rw [hti] at hz;simp only [Option.bind_some] at hz;simp [zeroValue,typeInfo,hti,hz]
  cases hf:fnd n ks cur.toList 0 with
  | none=>
   obtain ⟨f1,f2⟩:=jdX hcl hf
   obtain ⟨f3,_⟩:=f1 vs (by omega)
   refine ⟨w,H,_,e ▸ k,hw,Ext.refl w H,.inl ⟨if c=true then .tuple #[z,.bool false] else z,?_,?_⟩⟩
   ·simp only [execOp,e1,e2]
    cases c<;>simp [Instr.lookup,run_underlying ht,MapKept.run_getObj_map hh,hK.chk,hfind,hf,hzr,Result.andThen]
   ·unfold jgX
    rw [f3]
    cases c
    ·exact .raw _
    ·exact .tup _ _ rfl fun i a v ha hv=>by
      match i with
      | 0=>simp at ha hv;subst ha hv;exact .raw _
      | 1=>simp at ha hv;subst ha hv;exact .raw _
      | i+2=>simp at ha
  | some jv=>
   obtain ⟨j,v0⟩:=jv
   obtain ⟨k0,rfl,f2,f3,f5,f4,f6⟩:=jdY hf
   obtain ⟨f7,_⟩:=f4 vs (by omega)
   have hk0:k0 < vs.length:=by omega
   have hv0:RelV w vs[k0] v0:=hr k0 _ v0 (List.getElem?_eq_getElem hk0) (by simpa using f2)
   refine ⟨w,H,_,e ▸ k,hw,Ext.refl w H,.inl ⟨if c=true then .tuple #[v0,.bool true] else v0,?_,?_⟩⟩
   ·simp only [execOp,e1,e2]
    cases c<;>simp [Instr.lookup,run_underlying ht,MapKept.run_getObj_map hh,hK.chk,hfind,hf,Result.andThen]
   ·unfold jgX
    rw [f7,List.getElem?_eq_getElem hk0]
    cases c
    ·exact hv0
    ·exact .tup _ _ rfl fun i a v ha hv=>by
      match i with
      | 0=>simp at ha hv;subst ha hv;exact hv0
      | 1=>simp at ha hv;subst ha hv;exact .raw _
      | i+2=>simp at ha
 | _=>rw [e1] at h1;cases h1
def jkb (P:Program) (t:TypeId):Option (Bool×TypeId):=match P.underlying t with
 | some (.map k e)=>match P.underlying k with
  | some .string=>some (true,e)
  | some (.int .i64)=>some (false,e)
  | _=>none
 | _=>none
theorem jiM {t e:TypeId} (h:jkb P t=some (false,e)):∃ k,P.underlying t=some (.map k e)∧KeyOf P k (Value.int .i64):=by
 unfold jkb at h
 split at h
 ·rename_i k e' h1
  split at h
  ·cases h
  ·rename_i h2;cases h;exact ⟨k,h1,jkU h2⟩
  ·cases h
 ·cases h
theorem jnW {ev:Operand→AV} {ty:TypeId} {K:AV→Hp→Prop} {t et:TypeId} {om ok ox:Operand} {op:Op} {i:Nat} {vs:List AV} {n:Int} {q:Prop} (ks:List Int) (hm0:jkb P t=some (false,et)) (k:q) (hop:op=.insert t om ok ox∨op=.mapUpdate t om ok ox:=by first | exact Or.inl rfl | exact Or.inr rfl)
  (hm:ev om=.mr i:=by rfl) (hk:ev ok=.raw (.int .i64 n):=by rfl) (hi:H.get i=some (.mp (ks.map (Value.int .i64)) vs):=by first | rfl | first | (simp (disch:=first | omega | assumption | fail) only [go_sem,jaa,W,↓reduceIte,Int.reduceEq,Int.reduceLE,Int.reduceLT,Int.reduceNe,Int.reduceToNat,Nat.reduceMul,Nat.reduceAdd,Nat.reduceLeDiff,Nat.reduceSub,Nat.reduceEqDiff,Nat.reduceBEq,List.nodup_cons,List.nodup_nil,List.mem_cons,List.not_mem_nil,List.mem_nil_iff];done) | (simp (disch:=first | omega | assumption | fail) only [go_sem,jaa,↓reduceIte,Int.reduceEq,Int.reduceLE,Int.reduceLT,Int.reduceNe,Int.reduceToNat,Nat.reduceMul,Nat.reduceAdd,Nat.reduceLeDiff,Nat.reduceSub,Nat.reduceEqDiff,Nat.reduceBEq,List.nodup_cons,List.nodup_nil,List.mem_cons,List.not_mem_nil,List.mem_nil_iff];done) | fail) (e:K .any (H.put i (.mp ((jfa n ks).map (Value.int .i64)) (jfb n (ev ox) ks vs)))=q:=by first | (simp (disch:=first | omega | assumption | fail) only [go_sem,jaa,W,↓reduceIte,Int.reduceEq,Int.reduceLE,Int.reduceLT,Int.reduceNe,Int.reduceToNat,Nat.reduceMul,Nat.reduceAdd,Nat.reduceLeDiff,Nat.reduceSub,Nat.reduceEqDiff,Nat.reduceBEq,List.nodup_cons,List.nodup_nil,List.mem_cons,List.not_mem_nil,List.mem_nil_iff];rfl) | (simp (disch:=first | omega | assumption | fail) only [go_sem,jaa,↓reduceIte,Int.reduceEq,Int.reduceLE,Int.reduceLT,Int.reduceNe,Int.reduceToNat,Nat.reduceMul,Nat.reduceAdd,Nat.reduceLeDiff,Nat.reduceSub,Nat.reduceEqDiff,Nat.reduceBEq,List.nodup_cons,List.nodup_nil,List.mem_cons,List.not_mem_nil,List.mem_nil_iff];rfl) | rfl | fail):jcK P op ty ev H K:=by
 obtain ⟨kt,h1,h2⟩:=jiM hm0
 exact jnX hop h2 h1 hm hk rfl hi k e
theorem jnJ {ev:Operand→AV} {ty:TypeId} {K:AV→Hp→Prop} {t et:TypeId} {om ox:Operand} {c:Bool} {i:Nat} {vs:List AV} {n:Int} {q:Prop} (ks:List Int) (z:Value) (r:AV) (hm0:jkb P t=some (false,et)) (hz:(P.info? et).bind (·.zero)=some z) (hr:jgX n ks vs (.raw z) c=r) (k:q)
  (hm:ev om=.mr i:=by rfl) (hk:ev ox=.raw (.int .i64 n):=by rfl) (hi:H.get i=some (.mp (ks.map (Value.int .i64)) vs):=by first | rfl | first | (simp (disch:=first | omega | assumption | fail) only [go_sem,jaa,W,↓reduceIte,Int.reduceEq,Int.reduceLE,Int.reduceLT,Int.reduceNe,Int.reduceToNat,Nat.reduceMul,Nat.reduceAdd,Nat.reduceLeDiff,Nat.reduceSub,Nat.reduceEqDiff,Nat.reduceBEq,List.nodup_cons,List.nodup_nil,List.mem_cons,List.not_mem_nil,List.mem_nil_iff];done) | (simp (disch:=first | omega | assumption | fail) only [go_sem,jaa,↓reduceIte,Int.reduceEq,Int.reduceLE,Int.reduceLT,Int.reduceNe,Int.reduceToNat,Nat.reduceMul,Nat.reduceAdd,Nat.reduceLeDiff,Nat.reduceSub,Nat.reduceEqDiff,Nat.reduceBEq,List.nodup_cons,List.nodup_nil,List.mem_cons,List.not_mem_nil,List.mem_nil_iff];done) | fail) (e:K r H=q:=by first | (simp (disch:=first | omega | assumption | fail) only [go_sem,jaa,W,↓reduceIte,Int.reduceEq,Int.reduceLE,Int.reduceLT,Int.reduceNe,Int.reduceToNat,Nat.reduceMul,Nat.reduceAdd,Nat.reduceLeDiff,Nat.reduceSub,Nat.reduceEqDiff,Nat.reduceBEq,List.nodup_cons,List.nodup_nil,List.mem_cons,List.not_mem_nil,List.mem_nil_iff];rfl) | (simp (disch:=first | omega | assumption | fail) only [go_sem,jaa,↓reduceIte,Int.reduceEq,Int.reduceLE,Int.reduceLT,Int.reduceNe,Int.reduceToNat,Nat.reduceMul,Nat.reduceAdd,Nat.reduceLeDiff,Nat.reduceSub,Nat.reduceEqDiff,Nat.reduceBEq,List.nodup_cons,List.nodup_nil,List.mem_cons,List.not_mem_nil,List.mem_nil_iff];rfl) | rfl | fail):jcK P (.lookup t om ox c) ty ev H K:=by
 obtain ⟨kt,h1,h2⟩:=jiM hm0
 exact jnK h2 h1 hz hm hk hi k (hr ▸ e)
@[go_sem] theorem jgr {ev:Operand→AV} {ty:TypeId} {K:AV→Hp→Prop} (t:TypeId) (r:Option Operand):vc P ev H ty K (.makeMap t r)=jcK P (.makeMap t r) ty ev H K:=by simp [vc,jac]
@[go_sem] theorem jhm {ev:Operand→AV} {ty:TypeId} {K:AV→Hp→Prop} (t:TypeId) (m k x:Operand):vc P ev H ty K (.insert t m k x)=jcK P (.insert t m k x) ty ev H K:=by simp [vc,jac]
@[go_sem] theorem jeO {ev:Operand→AV} {ty:TypeId} {K:AV→Hp→Prop} (t:TypeId) (m k x:Operand):vc P ev H ty K (.mapUpdate t m k x)=jcK P (.mapUpdate t m k x) ty ev H K:=by simp [vc,jac]
@[go_sem] theorem jhn {ev:Operand→AV} {ty:TypeId} {K:AV→Hp→Prop} (t:TypeId) (m k:Operand) (c:Bool):vc P ev H ty K (.lookup t m k c)=jcK P (.lookup t m k c) ty ev H K:=by simp [vc,jac]
end
attribute [go_sem] jfb jfa
-- what is new, in regions that leave their order open
section
variable {P:Program} {A:AS} {ev:Operand→AV} {H:Hp}
end
attribute [go_sem] jlN
-- calls under guards, that change things
def inD (D:List Nat):Option Tmp→Bool
 | some t=>D.contains t
 | none=>false
def vcS (P:Program) (ev:Operand→AV) (H:Hp) (K:AV→Hp→Prop):Op→Prop
 | .call { callee:=.value f,args,.. }=>jaU P (ev f) (args.toList.map ev) H K
 | _=>False
def jcT (D:List Nat) (P:Program) (ops:Array Oper) (K:List AV→Hp→Prop):List Oper→List AV→Hp→Prop
 | [],F,H=>K F H
 | o::rest,F,H=>match o.guard with
  | none=>vc P (evA F) H o.type (fun r H'=>jcT D P ops K rest (jaw F o.dst r) H') o.op
  | some (j,want)=>match ja4 ops F j want with
   | some b=>if (inD D o.dst && jan o.op)=true then (b=true→okG F o.op=true∧vcS P (evG F) H (fun r H'=>jcT D P ops K rest (jaw F o.dst r) H') o.op)∧(b=false→jcT D P ops K rest (jaw F o.dst (.gd false (.raw (.bool false)))) H)
    else if jan o.op || jad o.op then vcG P F H b (fun r=>jcT D P ops K rest (jaw F o.dst r) H) o.op
    else (b=true→vc P (evA F) H o.type (fun r H'=>jcT D P ops K rest (jaw F o.dst r) H') o.op)∧(b=false→jcT D P ops K rest (jaw F o.dst .any) H)
   | none=>False
section
variable {P:Program} {ops:Array Oper}
theorem jbm {D:List Nat} {K:List AV→Hp→Prop}:∀ (l:List Oper) (F:List AV) (H:Hp),jcT D P ops K l F H→jj1 P ops K l F H
 | [],F,H,h=>jfA h
 | o::rest,F,H,h=>by
  refine jek ?_
  simp only [jcT] at h
  split at h
  ·rename_i hg
   exact (jbR (K:=fun F' H'=>jcT D P ops K rest F' H') hg h).mono fun F' H' hk=>jbm rest F' H' hk
  ·rename_i j want hg
   split at h
   ·rename_i b hb
    split at h
    ·rename_i hd
     refine AOp.mono (K:=fun F' H'=>jcT D P ops K rest F' H') ?_ fun F' H' hk=>jbm rest F' H' hk
     obtain ⟨dst,op,ty,pos,after,guard⟩:=o
     have hc:jan op=true:=by simp only [Bool.and_eq_true] at hd;exact hd.2
     cases op<;>first | (cases hc;done) | skip
     rename_i c
     obtain ⟨callee,args,ts⟩:=c
     cases callee<;>first | (cases hc;done) | skip
     rename_i f
     refine jay hg hb (fun hbw w tm Q next h1 h2 hn=>?_) (fun hbw=>⟨.gd false (.raw (.bool false)),jbV rfl,h.2 hbw⟩)
     obtain ⟨ok,hcall⟩:=h.1 hbw
     have hcg:=jbU ok
     have e1:evO F f=evG F f:=hcg f (by simp [Op.operands,Call.operands])
     have e2:args.toList.map (evO F)=args.toList.map (evG F):=List.map_congr_left fun x hx=>hcg x (by simp [Op.operands,Call.operands] at hx ⊢;exact .inr hx)
     refine jbc (ev:=evO F) e1 e2 hcall h1 (jbx h2) fun v r' w' H' hR g1 g2 g3=>?_
     rw [Act.put_eq]
     exact hn _ w' _ H' hR g1 ((h2.ext g3).put dst g2 []) g3
    split at h
    ·refine AOp.mono (K:=fun F' H'=>jcT D P ops K rest F' H') ?_ fun F' H' hk=>jbm rest F' H' hk
     obtain ⟨dst,op,ty,pos,after,guard⟩:=o
     unfold vcG at h
     split at h
     ·rename_i f args argTypes heq
      cases heq
      obtain ⟨r,hc,hk⟩:=h
      refine jay hg hb (fun hbw w tm Q next h1 h2 hn=>?_) (fun hbw=>⟨_,jbV hbw,hk⟩)
      obtain ⟨ok,hcall⟩:=hc hbw
      have hcg:=jbU ok
      have e1:evO F f=evG F f:=hcg f (by simp [Op.operands,Call.operands])
      have e2:args.toList.map (evO F)=args.toList.map (evG F):=List.map_congr_left fun x hx=>hcg x (by simp [Op.operands,Call.operands] at hx ⊢;exact .inr hx)
      refine jbc (ev:=evO F) e1 e2 hcall h1 (jbx h2) fun v r' w' H' hR g1 g2 g3=>?_
      obtain ⟨rfl,rfl⟩:=hR
      rw [Act.put_eq]
      exact hn _ w' _ H' hk g1 ((h2.ext g3).put dst (jcA hbw g2) []) g3
     ·rename_i f m args argTypes heq
      cases heq
      obtain ⟨r,hc,hk⟩:=h
      refine jay hg hb (fun hbw w tm Q next h1 h2 hn=>?_) (fun hbw=>⟨_,jbV hbw,hk⟩)
      obtain ⟨ok,hcall⟩:=hc hbw
      have hcg:=jbU ok
      have e1:evO F f=evG F f:=hcg f (by simp [Op.operands,Call.operands])
      have e2:args.toList.map (evO F)=args.toList.map (evG F):=List.map_congr_left fun x hx=>hcg x (by simp [Op.operands,Call.operands] at hx ⊢;exact .inr hx)
      refine jc7 (ev:=evO F) e1 e2 hcall h1 (jbx h2) fun v r' w' H' hR g1 g2 g3=>?_
      obtain ⟨rfl,rfl⟩:=hR
      rw [Act.put_eq]
      exact hn _ w' _ H' hk g1 ((h2.ext g3).put dst (jcA hbw g2) []) g3
     ·rename_i c x y heq
      simp only at heq
      subst heq
      obtain ⟨hs,hk⟩:=h
      refine jay hg hb (fun hbw w tm Q next h1 h2 hn=>?_) (fun hbw=>⟨_,jbV hbw,hk⟩)
      obtain ⟨ok,hq⟩:=hs hbw
      obtain ⟨v,hrun,hv⟩:=jdC (P:=P) (ρ:=(Act.mk tm []).eval) (dst:=dst) (ty:=ty) (pos:=pos) (after:=after) (guard:=guard) (je3 h2 c ok) (h2.eval [] x) (h2.eval [] y) hq
      simp only [Oper.wp,hrun,Oper.upon]
      rw [Act.put_eq]
      exact hn _ w _ H hk h1 (h2.put dst (jcA hbw hv) []) (Ext.refl w H)
     ·split at h
      ·obtain ⟨hs,hk⟩:=h
       refine jay hg hb (fun hbw w tm Q next h1 h2 hn=>?_) (fun hbw=>⟨_,jbV hbw,hk⟩)
       obtain ⟨ok,hq⟩:=hs hbw
       rw [← jbr _ (jbU ok)] at hq
       obtain ⟨v,hrun,hv⟩:=jcU (ρ:=(Act.mk tm []).eval) ⟨dst,op,ty,pos,after,guard⟩ h1 (jbx h2) hq
       simp only [Oper.wp,hrun,Oper.upon]
       rw [Act.put_eq]
       rw [jbr _ (jbU ok)] at hv
       exact hn _ w _ H hk h1 (h2.put dst (jcA hbw hv) []) (Ext.refl w H)
      ·exact h.elim
    ·refine AOp.mono (K:=fun F' H'=>jcT D P ops K rest F' H') ?_ fun F' H' hk=>jbm rest F' H' hk
     refine jay hg hb (fun hbw w tm Q next h1 h2 hn=>?_) (fun hbw=>⟨_,fun w=>.any _,h.2 hbw⟩)
     exact jjP (h.1 hbw) h1 h2 (fun x=>h2.eval [] x) hn
   ·exact h.elim
end
section
variable {D:List Nat} {P:Program} {ops:Array Oper} {K:List AV→Hp→Prop}
end
theorem sS {P:Program} {id:Nat} {l:List Oper} {Q:Exit→List AV→Hp→Prop} {F:List AV} {H:Hp} {q:Prop} (D:List Nat) (h:q) (e:jcT D P l.toArray (Q .normal) l F H=q:=by first | (simp (disch:=first | omega | assumption | fail) only [go_sem,jaa,W,↓reduceIte,Int.reduceEq,Int.reduceLE,Int.reduceLT,Int.reduceNe,Int.reduceToNat,Nat.reduceMul,Nat.reduceAdd,Nat.reduceLeDiff,Nat.reduceSub,Nat.reduceEqDiff,Nat.reduceBEq,List.nodup_cons,List.nodup_nil,List.mem_cons,List.not_mem_nil,List.mem_nil_iff];rfl) | (simp (disch:=first | omega | assumption | fail) only [go_sem,jaa,↓reduceIte,Int.reduceEq,Int.reduceLE,Int.reduceLT,Int.reduceNe,Int.reduceToNat,Nat.reduceMul,Nat.reduceAdd,Nat.reduceLeDiff,Nat.reduceSub,Nat.reduceEqDiff,Nat.reduceBEq,List.nodup_cons,List.nodup_nil,List.mem_cons,List.not_mem_nil,List.mem_nil_iff];rfl) | rfl | fail):AWP P (.region id l.toArray false) Q F H:=
 jdv (by simpa using jbm l F H (e ▸ h))
section
variable {P:Program} {H:Hp}
end
variable {P:Program} {H:Hp}
theorem jjd {t e:TypeId} {sz d n:Nat} {x:AV} {c:Prop} {css ys:List (List AV)} {zs:List Value} {K:AV→Hp→Prop} {q:Prop} (k:q) (hd:H.get d=some (.vec e sz css):=by (simp (disch:=first | omega | assumption | fail) only [go_sem,jaa,↓reduceIte,Int.reduceEq,Int.reduceLE,Int.reduceLT,Int.reduceNe,Int.reduceToNat,Nat.reduceMul,Nat.reduceAdd,Nat.reduceLeDiff,Nat.reduceSub,Nat.reduceEqDiff,Nat.reduceBEq,List.nodup_cons,List.nodup_nil,List.mem_cons,List.not_mem_nil,List.mem_nil_iff];first | rfl | exact ⟨rfl,rfl⟩ | exact ⟨rfl,rfl,rfl⟩)) (ht:elT P t=some e:=by first | (simp only [go_sem];done) | (simp only [go_sem];rfl)) (hse:jba P e=some sz:=by (simp only [go_sem];done)) (hze:jaG P e=some zs:=by first | (simp only [go_sem];done) | (simp only [go_sem];rfl)) (hzl:zs.length=sz:=by rfl) (h0:0 < sz:=by decide) (hn:css.length=n:=by first | rfl | exact List.length_replicate | first | (simp (disch:=first | omega | assumption | fail) only [go_sem,jaa,W,↓reduceIte,Int.reduceEq,Int.reduceLE,Int.reduceLT,Int.reduceNe,Int.reduceToNat,Nat.reduceMul,Nat.reduceAdd,Nat.reduceLeDiff,Nat.reduceSub,Nat.reduceEqDiff,Nat.reduceBEq,List.nodup_cons,List.nodup_nil,List.mem_cons,List.not_mem_nil,List.mem_nil_iff];done) | (simp (disch:=first | omega | assumption | fail) only [go_sem,jaa,↓reduceIte,Int.reduceEq,Int.reduceLE,Int.reduceLT,Int.reduceNe,Int.reduceToNat,Nat.reduceMul,Nat.reduceAdd,Nat.reduceLeDiff,Nat.reduceSub,Nat.reduceEqDiff,Nat.reduceBEq,List.nodup_cons,List.nodup_nil,List.mem_cons,List.not_mem_nil,List.mem_nil_iff];done) | fail) (hsrc:jfp H x=some (c,ys):=by rfl) (hc:c:=by trivial) (hg:jgs sz ys:=by first | (simp (disch:=first | omega | assumption | fail) only [go_sem,jaa,W,↓reduceIte,Int.reduceEq,Int.reduceLE,Int.reduceLT,Int.reduceNe,Int.reduceToNat,Nat.reduceMul,Nat.reduceAdd,Nat.reduceLeDiff,Nat.reduceSub,Nat.reduceEqDiff,Nat.reduceBEq,List.nodup_cons,List.nodup_nil,List.mem_cons,List.not_mem_nil,List.mem_nil_iff];done) | (simp (disch:=first | omega | assumption | fail) only [go_sem,jaa,↓reduceIte,Int.reduceEq,Int.reduceLE,Int.reduceLT,Int.reduceNe,Int.reduceToNat,Nat.reduceMul,Nat.reduceAdd,Nat.reduceLeDiff,Nat.reduceSub,Nat.reduceEqDiff,Nat.reduceBEq,List.nodup_cons,List.nodup_nil,List.mem_cons,List.not_mem_nil,List.mem_nil_iff];done) | fail) (hle':ys.length≤n:=by first | assumption | (simp only [List.length_map];omega) | first | (simp (disch:=first | omega | assumption | fail) only [go_sem,jaa,W,↓reduceIte,Int.reduceEq,Int.reduceLE,Int.reduceLT,Int.reduceNe,Int.reduceToNat,Nat.reduceMul,Nat.reduceAdd,Nat.reduceLeDiff,Nat.reduceSub,Nat.reduceEqDiff,Nat.reduceBEq,List.nodup_cons,List.nodup_nil,List.mem_cons,List.not_mem_nil,List.mem_nil_iff];done) | (simp (disch:=first | omega | assumption | fail) only [go_sem,jaa,↓reduceIte,Int.reduceEq,Int.reduceLE,Int.reduceLT,Int.reduceNe,Int.reduceToNat,Nat.reduceMul,Nat.reduceAdd,Nat.reduceLeDiff,Nat.reduceSub,Nat.reduceEqDiff,Nat.reduceBEq,List.nodup_cons,List.nodup_nil,List.mem_cons,List.not_mem_nil,List.mem_nil_iff];done) | fail)
  (he:K (.raw (.int .i64 (ys.length:Nat))) (H.put d (.vec e sz (jcr css 0 ys)))=q:=by first | (simp (disch:=first | omega | assumption | fail) only [go_sem,jaa,W,↓reduceIte,Int.reduceEq,Int.reduceLE,Int.reduceLT,Int.reduceNe,Int.reduceToNat,Nat.reduceMul,Nat.reduceAdd,Nat.reduceLeDiff,Nat.reduceSub,Nat.reduceEqDiff,Nat.reduceBEq,List.nodup_cons,List.nodup_nil,List.mem_cons,List.not_mem_nil,List.mem_nil_iff];rfl) | (simp (disch:=first | omega | assumption | fail) only [go_sem,jaa,↓reduceIte,Int.reduceEq,Int.reduceLE,Int.reduceLT,Int.reduceNe,Int.reduceToNat,Nat.reduceMul,Nat.reduceAdd,Nat.reduceLeDiff,Nat.reduceSub,Nat.reduceEqDiff,Nat.reduceBEq,List.nodup_cons,List.nodup_nil,List.mem_cons,List.not_mem_nil,List.mem_nil_iff];rfl) | rfl | fail):jaL P .copy [t,t] [.rs d n sz n,x] H K:=by
 subst hn
 have hk:=he ▸ k
 intro w vs ty cs hw hr
 obtain ⟨vd,vx,rfl⟩:∃ vd vx,vs=[vd,vx]:=by
  have:=hr.1
  match vs,this with
  | [vd,vx],_=>exact ⟨vd,vx,rfl⟩
 have hu:=jdU ht
 obtain ⟨i,z,hi,hisz,hiz,hzs,hby⟩:=jen hse hze hzl
 obtain ⟨A',cx,news,rfl,hnews,haddr⟩:=jeG hw (hr.2 1 _ vx rfl rfl) hsrc hc hg
 have hra:RelV w (.rs d css.length sz css.length) vd:=hr.2 0 _ vd rfl rfl
 have hfl:ys.flatten.length=ys.length * sz:=jaf fun y hy=>(hg y hy).1
 have hnl:news.length=ys.length * sz:=by rw [← hnews.1,hfl]
 have hones:ones ys.flatten=true:=by
  simp only [ones,List.all_eq_true]
  intro u hu'
  obtain ⟨y,hy,huy⟩:=List.mem_flatten.1 hu'
  have:=(hg y hy).2
  simp only [ones,List.all_eq_true] at this
  exact this u huy
 have hf:(Builtin.firstCells i.size ys.length (.slice A' ys.length cx)).run P w.toWorld=.ok news.toArray w.toWorld:=by
  by_cases h0:ys.length=0
  ·have:news=[]:=by have:=hnl;rw [h0,Nat.zero_mul] at this;simpa using this
   subst this
   rw [h0]
   cases A'<;>simp [Builtin.firstCells,loadCells,loadCellsFrom]
  ·obtain ⟨ad,rfl,hcell⟩:=haddr (by omega)
   exact run_firstCells_some (P:=P) w.toWorld i.size ys.length ad ys.length cx news (by rw [hisz];exact hnl) hcell
 rw [hisz] at hf
 have hok:=(hw.rows d _ hd).1
 have hlen':∀ cs∈jcr css 0 ys,cs.length=sz:=fun cs h=>by
  unfold jcr at h
  rcases List.mem_append.1 h with h | h
  ·rcases List.mem_append.1 h with h | h
   ·exact hok.2 _ (List.mem_of_mem_take h)
   ·exact (hg cs h).1
  ·exact hok.2 _ (List.mem_of_mem_drop h)
 have hcfl:=jaf hok.2
 have hl2:=jfP (css:=css) ys (Nat.zero_le _)
 have hmn:Nat.min ys.length css.length=ys.length:=Nat.min_eq_left hle'
 generalize hN:css.length=N at hra
 cases hra with
 | rs0 _ _ _ A hnm=>
  have hy0:ys=[]:=List.length_eq_zero_iff.1 (by omega)
  subst hy0
  refine ⟨w,_,_,.int .i64 0,?_,hk,?_,.raw _,?_⟩
  ·have hnn:news=[]:=by simpa using hnl
   subst hnn
   have hN':Nat.min ([]:List (List AV)).length 0=0:=rfl
   have hf:(Builtin.firstCells sz 0 (.slice A' 0 cx)).run P w.toWorld=.ok #[] w.toWorld:=hf
   cases A<;>simp [builtin,Builtin.copy_,run_underlying hu,Builtin.lenOf,sizeOf,typeInfo,hi,hisz,hf,storeCells,goInt]
  ·refine { hw with rows:=fun j r hj=>?_,dom:=fun j q z hz=>?_ }
   ·rw [Hp.get_put] at hj
    split at hj
    ·rename_i e;subst e;exact hw.rows j r (by rw [hd];exact hj)
    ·exact hw.rows j r hj
   ·rw [Hp.get_put]
    split
    ·rename_i e;subst e;obtain ⟨r,g1,g2⟩:=hw.dom j q z hz;rw [hd] at g1;cases g1;exact ⟨_,rfl,g2⟩
    ·exact hw.dom j q z hz
  ·exact { Ext.refl w H with base:=rfl }
 | rs _ _ _ _ b t' cap hnm hct hle hs0=>
  subst hN
  obtain ⟨_,z',hz',hrow⟩:=hw.rows d _ hd
  have:z'=.at b t' sz:=by have hz':w.nm d css.length=some z':=hz';rw [hnm] at hz';cases hz';rfl
  subst this
  obtain ⟨_,cur,hh,⟨hcs,hcl⟩,hcr⟩:=hrow
  have hcl:css.flatten.length≤t':=hcl
  have hcap:css.length≤cap:=by
   rw [hcfl,← hct] at hcl
   exact Nat.le_of_mul_le_mul_right hcl h0
  have hfit':0+ys.flatten.length≤t':=by
   rw [hfl,Nat.zero_add,← hct];exact Nat.mul_le_mul_right _ (Nat.le_trans hle' hcap)
  obtain ⟨w',hrun,g1,g2,g3⟩:=jaH (P:=P) (off:=0) (r':=.vec e sz (jcr css 0 ys)) hw hd hnm hnews hones hfit' rfl rfl rfl rfl (by show css.length≤(jcr css 0 ys).length;rw [hl2];omega) ⟨h0,hlen'⟩ (by show (jcr css 0 ys).flatten.length≤t';rw [jaf hlen',hl2,← hct];exact Nat.mul_le_mul_right _ (Nat.max_le.2 ⟨hcap,by omega⟩)) (fun p u hp=>by
   have hp:(jcr css 0 ys).flatten[p]?=some u:=hp
   unfold jcr at hp
   rw [List.flatten_append,List.flatten_append] at hp
   show if _ then _ else css.flatten[p]?=some u
   simp only [List.take_zero,List.flatten_nil,List.nil_append,Nat.zero_add] at hp
   rcases Nat.lt_or_ge p (0+ys.flatten.length) with h' | h'
   ·rw [if_pos ⟨Nat.zero_le _,h'⟩]
    rw [List.getElem?_append_left (by omega)] at hp
    exact hp
   ·rw [if_neg (by omega)]
    rw [List.getElem?_append_right (by omega)] at hp
    have e2:css.flatten=(css.take ys.length).flatten++(css.drop ys.length).flatten:=by rw [← List.flatten_append,List.take_append_drop]
    have e3:(css.take ys.length).flatten.length=ys.flatten.length:=by rw [jaf fun c hc=>hok.2 c (List.mem_of_mem_take hc),List.length_take,Nat.min_eq_left hle',hfl]
    rw [e2,List.getElem?_append_right (by omega),e3]
    exact hp)
  refine ⟨w',_,_,.int .i64 ys.length,?_,hk,g1,.raw _,g2⟩
  simp [builtin,Builtin.copy_,run_underlying hu,Builtin.lenOf,sizeOf,typeInfo,hi,hisz,hmn,hf,hrun,goInt]
end Go.Gd
