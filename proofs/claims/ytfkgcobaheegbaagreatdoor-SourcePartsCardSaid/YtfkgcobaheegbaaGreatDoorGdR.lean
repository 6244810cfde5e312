/- A law's arguments as they are read, and what a law's row asks behind the call. A slice that is made; arrays of two numbers as arguments. Families of things: as many as are asked for, each with a number of its own. Maps as things of one's own. Things of one's own are given up where another thing holds them. A copy into a row of one's own. No conditions. -/
import Derived.Test.YtfkgcobaheegbaaGreatDoorGdY
import Derived.ProofKit
import Derived.Deep.Slices
import Derived.Carry
import Derived.Laws.MakeOwn
import Derived.OpenShut
import Derived.MapKept
set_option linter.all false
namespace Go.Gd
open Go Go.ChangeShapes Go.WideShapes Go.ChangeAt Go.RowKit Go.Deep
@[reducible] def n0 (w:World):NW:={ toWorld:=w,O:=fun _=>False,nm:=fun _ _=>none }
def Dec (P:Program) (t:TypeId) (S:List AV→Prop):Prop:=
 ∀ (T:Type) (enc:TypeId×Value→T) (w:World) (fuel:Nat) (cs:List Value) (x:DataW T×List MemPlace),
  DataW.trod enc P w 0 (fun _=>true) true fuel t cs=some x→∃ us,S us∧RelL (n0 w) us cs
section
variable {P:Program} {t:TypeId}
theorem Dec.mono {S S':List AV→Prop} (h:Dec P t S) (hs:∀ us,S us→S' us):Dec P t S':=fun T enc w fuel cs x hx=>by
 obtain ⟨us,h1,h2⟩:=h T enc w fuel cs x hx
 exact ⟨us,hs us h1,h2⟩
theorem jec {w:NW} {a:AV} {v:Value} (h:RelV w a v):RelL w [a] [v]:=⟨rfl,fun i b u hb hu=>by
 cases i with
 | zero=>simp at hb hu;subst hb hu;exact h
 | succ i=>simp at hb⟩
theorem jdi {w:NW} {a:AV} {v:Value} {us:List AV} {vs:List Value} (h:RelV w a v) (hs:RelL w us vs):RelL w (a::us) (v::vs):=⟨by simp [hs.1],fun i b u hb hu=>by
 cases i with
 | zero=>simp at hb hu;subst hb hu;exact h
 | succ i=>exact hs.2 i b u (by simpa using hb) (by simpa using hu)⟩
theorem jus {k:IntKind} (ht:P.underlying t=some (.int k)):Dec P t (fun us=>∃ n:Int,(Lit.int k n).wf=true∧us=[.raw (.int k n)]):=fun T enc w fuel cs x hx=>by
 obtain ⟨n,rfl,_,hwf⟩:=DataW.trod_int ht hx
 exact ⟨_,⟨n,hwf,rfl⟩,jec (.raw _)⟩
def jt6:List (List AV→Prop)→List AV→Prop
 | [],us=>us=[]
 | S::Ss,us=>∃ a b,S a∧jt6 Ss b∧us=a++b
def jxc (P:Program):List Field→List (List AV→Prop)→Prop
 | [],[]=>True
 | f::l,S::Ss=>Dec P f.type S∧jxc P l Ss
 | _,_=>False
def jyi (P:Program):List Field→Nat→Nat→Bool
 | [],o,n=>o == n
 | f::l,o,n=>f.offset == o && jyi P l (o+P.cellsOf f.type) n
theorem jpH {e:TypeId} {α:Type} [Inhabited α] {ok:α→Prop} {encA:α→List AV} {sz:Nat} (ht:P.underlying t=some (.slice e)) (hc:P.cellsOf e=sz) (hsz:0 < sz) (he:Dec P e (fun us=>∃ a,ok a∧us=encA a)) (hl:∀ a,(encA a).length=sz) :
  Dec P t (fun us=>∃ l:List α,((∀ a∈l,ok a)∧l.length≤9223372036854775807)∧us=[jal encA sz l]):=fun T enc w fuel cs x hx=>by
 rcases open_slice ht hx with ⟨rfl,_⟩ | ⟨a,len,cap,m,n,D,Pl,rfl,_,hlc,hcm,hm,_,hr⟩
 ·exact ⟨_,⟨[],⟨by simp,by simp⟩,rfl⟩,jec (.sl0 _ _ _ _ (by simp))⟩
 ·simp only [if_true] at hm
  obtain rfl:cap=m:=hm.symm
  have hget:∀ i,i < len→∃ g:α,ok g∧∃ cs',w.cells? 0 (a.add (i * sz)) sz=some cs'∧RelL (n0 w) (encA g) cs':=fun i hi=>by
   obtain ⟨cs',h1,h2⟩:=hr i (by omega)
   rw [hc] at h1
   obtain ⟨us,⟨g,hok,rfl⟩,hrel⟩:=he T enc w n cs' _ h2
   exact ⟨g,hok,cs',h1,hrel⟩
  obtain ⟨g,hg⟩:∃ g:Nat→α,∀ i,i < len→ok (g i)∧∃ cs',w.cells? 0 (a.add (i * sz)) sz=some cs'∧RelL (n0 w) (encA (g i)) cs':=by
   classical
   exact ⟨fun i=>if h:i < len then (hget i h).choose else default,fun i hi=>by simp only [dif_pos hi];exact (hget i hi).choose_spec⟩
  have hln:((List.range len).map g).length=len:=by simp
  refine ⟨_,⟨(List.range len).map g,⟨fun y hy=>?_,by rw [hln];have:cap≤9223372036854775807:=hcm;omega⟩,rfl⟩,jec ?_⟩
  ·obtain ⟨i,hi,rfl⟩:=List.mem_map.1 hy
   exact (hg i (by simpa using hi)).1
  ·have hcl:(((List.range len).map g).map encA).length=len:=by simp
   have hn:∀ i,i < len→(((List.range len).map g).map encA).getD i []=encA (g i):=fun i hi=>by simp [List.getD_eq_getElem?_getD,hi]
   by_cases h0:len=0
   ·subst h0;exact .sl0 _ _ _ _ (by simp)
   ·have hcell:∀ i j,i < len→j < sz→∃ v,w.cell? (a.add (i * sz+j))=some v∧∀ u,(encA (g i))[j]?=some u→RelV (n0 w) u v:=fun i j hi hj=>by
     obtain ⟨_,cs',h1,h2⟩:=hg i hi
     obtain ⟨_,hlen,hat⟩:=World.cells?_some h1
     have hv:cs'[j]?=some cs'[j]:=List.getElem?_eq_getElem (by omega)
     refine ⟨cs'[j],?_,fun u hu=>h2.2 j u _ hu hv⟩
     rw [← jdH,hat j hj,hv]
    have:=RelV.sl (w:=n0 w) (d:=encA default) false sz (((List.range len).map g).map encA) a cap (fun k=>(w.cell? (a.add k)).getD undef) (by omega) (by omega) (by simp) (fun cs hcs=>by
     obtain ⟨y,_,rfl⟩:=List.mem_map.1 hcs
     exact hl y) (by
     obtain ⟨_,cs',h1,_⟩:=hg 0 (by omega)
     have:=World.cells?_block h1 hsz
     rwa [jbj] at this) (fun h=>h) (fun i j hi hj=>by
     obtain ⟨v,hv,_⟩:=hcell i j (by omega) hj
     rw [hv];rfl) (fun i j u hi hu=>by
     rw [hn i (by omega)] at hu
     have hj:j < sz:=by rw [← hl (g i)];exact (List.getElem?_eq_some_iff.1 hu).1
     obtain ⟨v,hv,hrel⟩:=hcell i j (by omega) hj
     rw [hv]
     exact hrel u hu)
    rw [hcl] at this
    exact this
-- arguments
variable {T:Type} {enc:TypeId×Value→T} {w:World} {v:Value} {d:DataW T} {ps:List MemPlace} {base:Nat}
theorem jud {S:AV→Prop} (hd:Dec P t (fun us=>∃ a,S a∧us=[a])) (hv:v.cells.toList=[v]) (h:DataW.Trod enc P w 0 (fun _=>true) true t v d ps):∃ a,S a∧RelV (n0 w) a v:=by
 obtain ⟨fuel,hf⟩:=h
 rw [hv] at hf
 obtain ⟨us,⟨a,hs,rfl⟩,hr⟩:=hd T enc w fuel _ _ hf
 exact ⟨a,hs,hr.2 0 a v rfl rfl⟩
end
section
variable {P:Program} {T:Type} {enc:TypeId×Value→T}
theorem jgd (hl:laidOutB P=true) {W W':World} (hb:Below W.heap.size W W'):∀ (ts:List TypeId) (vs:List Value) (ds:List (DataW T)) (ps:List MemPlace),(∀ t∈ts,P.readableRec t=true∧t < P.types.size)→
  DataW.TrodAll enc P W 0 (fun _=>true) true ts vs ds ps→(∀ x∈ps,x.block < W.heap.size)→DataW.TrodAll enc P W' 0 (fun b=>decide (b < W.heap.size)) true ts vs ds ps
 | [],[],[],ps,_,h,_=>h
 | t::ts,v::vs,d::ds,ps,hr,h,hlt=>by
  obtain ⟨p,q,h1,h2,rfl⟩:=h
  exact ⟨p,q,Below.trod hl (hr t (by simp)).1 (hr t (by simp)).2 h1 hb fun x hx=>hlt x (by simp [hx]),jgd hl hb ts vs ds q (fun t ht=>hr t (by simp [ht])) h2 fun x hx=>hlt x (by simp [hx]),rfl⟩
 | [],_::_,_,_,_,h,_=>h.elim
 | [],[],_::_,_,_,h,_=>h.elim
 | _::_,[],_,_,_,h,_=>h.elim
 | _::_,_::_,[],_,_,h,_=>h.elim
theorem jko {fn:Func} {s:ChangeSpec} {apart fresh handsOn:Bool} {W W':World} {args:Array Value} {ds:List (DataW T)} {before:List MemPlace} {tb:TypeId} (hW:DataW.Whole enc P fn.params.toList s.vars apart W args.toList ds [] before)
  (hx:Below W.heap.size W W') (hl:laidOutB P=true) (hr:∀ t∈fn.params.toList,P.readableRec t=true∧t < P.types.size) (hrt:fn.resultTypes=#[tb]) (hb:P.underlying tb=some .bool) (hv:s.vars=[])
  (e1:(s.fn T (ds++[])).results=[.lit (.bool true)]) (e2:(s.fn T (ds++[])).args=ds) (e3:(s.fn T (ds++[])).vars=[]):s.post enc P fn apart fresh handsOn false W args (.bool true) W':=by
 have hW':=hW
 obtain ⟨p,q,hA,hV,rfl,hfz,hnd⟩:=hW
 rw [hv] at hV
 have hq:q=[]:=hV
 subst hq
 refine ⟨ds,[],_,[],p,[],hW',?_,?_,?_,hx.frame _,fun h=>by cases h⟩
 ·rw [hrt,e1]
  exact trodAll_mk1 (shut_bool hb true)
 ·rw [e2]
  exact jgd hl hx _ _ _ _ hr hA fun x hx'=>by simpa using hW'.lt x (by simpa using hx')
 ·rw [hv,e3]
  exact rfl
theorem jvh (W:World) (hg:Glob (n0 W)):RelW (n0 W) (entry []):={
 glob:=hg
 rows:=fun i r h=>(by cases h)
 dom:=fun i m z h=>(by cases h)
 inj:=fun i m j n b t s t' s' h _=>(by cases h)
 own:=fun i m b t s h=>(by cases h)
 fin:=fun b h=>h.elim }
theorem jh8 {f:FuncId} {avs:List AV} {args:Array Value} {W:World} (hg:Glob (n0 W)) (h:PCall P f avs (.raw (.bool true))) (ha:RelL (n0 W) avs args.toList):Calls P f args W fun e W'=>e=.returned (.bool true)∧Below W.heap.size W W':=by
 refine (h (n0 W) args (jvh W hg) ⟨by rw [ha.1];simp,fun i a v h1 h2=>ha.2 i a v h1 (by rw [Array.getElem?_toList];exact h2)⟩).mono ?_
 rintro e w' ⟨v,r,H',w2,rfl,rfl,⟨rfl,_⟩,_,g2,g3⟩
 have:=jar g2
 subst this
 exact ⟨rfl,⟨g3.os,g3.tape,g3.output,g3.size,fun k hk=>(g3.free k hk (fun h=>h)).1⟩⟩
end
section
variable {P:Program} {f:FuncId} {args cs:List AV} {H:Hp} {K:AV→Hp→Prop} {q:Prop}
theorem cl {l l0:List (Nat×Row)} {r0:AV} (hc:ACalls P f (args++cs) l fun r l'=>r=r0∧l'=l0) (k:q) (h1:fits l H:=by exact sm_) (h0:jab P f=true:=by exact sm_) (h2:jaB (fun i=>(ids l).contains i) (args++cs)=true:=by exact sm_) (h3:jtU (fun i=>(ids l).contains i) l:=by exact sm_)
 (h4:fresh (ids l) H l0:=by exact sm_) (h5:(ids l0).Nodup:=by exact sm_) (e:K r0 ⟨H.B,je6 H.l l0⟩=q:=by exact rf_):jbm P (.clo f cs) args H K:=jlY h0 (jer hc h1 h2 h3 h4 h5 (e ▸ k))
theorem cq {R:AV→Prop} {r0:AV} (hc:PCall P f args r0) (k:q) (h0:jab P f=true:=by exact sm_) (h2:jaB noQ args=true:=by exact sm_) (e:R r0=q:=by exact rf_) :
  ∃ r,(jbm P (.raw (.func (.func f) #[] #[])) args H fun r' H'=>r'=r∧H'=H)∧R r:=⟨r0,jbQ h0 (jeM hc h2 ⟨rfl,rfl⟩),e ▸ k⟩
end
def Sub (a' a:AV):Prop:=∀ (w:NW) v,RelV w a' v→RelV w a v
def SubL:List AV→List AV→Prop
 | [],[]=>True
 | a::l,b::m=>Sub a b∧SubL l m
 | _,_=>False
theorem Sub.refl (a:AV):Sub a a:=fun _ _ h=>h
theorem Sub.nil (sz:Nat) (d:List AV):Sub (.raw (.slice none 0 0)) (.sl false sz [] d):=fun w v h=>by
 have:=jar h
 subst this
 exact .sl0 _ _ _ _ (by simp)
theorem Sub.lit (sz:Nat) (css:List (List AV)) (d d':List AV):Sub (.sl true sz css d) (.sl false sz css d'):=fun w v h=>by
 cases h with
 | sl0 _ _ A c _=>exact .sl0 _ _ _ _ (by simp)
 | sl _ _ _ a c vs hn hc hx hsz hb hH hcell h=>exact .sl false sz css a c vs hn hc (by simp) hsz hb hH hcell h
theorem SubL.get:∀ {l m:List AV},SubL l m→l.length=m.length∧∀ (i:Nat) a b,l[i]?=some a→m[i]?=some b→Sub a b
 | [],[],_=>⟨rfl,fun i a b h=>by simp at h⟩
 | x::l,y::m,h=>by
  have ih:=SubL.get h.2
  refine ⟨by simp [ih.1],fun i a b ha hb=>?_⟩
  cases i with
  | zero=>simp at ha hb;subst ha hb;exact h.1
  | succ i=>exact ih.2 i a b (by simpa using ha) (by simpa using hb)
 | [],_::_,h=>h.elim
 | _::_,[],h=>h.elim
theorem joT {P:Program} {f:FuncId} {args args':List AV} {r:AV} (hc:PCall P f args r) (h:SubL args' args):PCall P f args' r:=fun w vs h1 h2=>hc w vs h1 ⟨h.get.1.symm.trans h2.1,fun i a v ha hv=>by
 have hi:i < args'.length:=by rw [h.get.1];exact (List.getElem?_eq_some_iff.1 ha).1
 exact h.get.2 i args'[i] a (List.getElem?_eq_getElem hi) ha w v (h2.2 i _ v (List.getElem?_eq_getElem hi) hv)⟩
end Go.Gd
namespace Go.Gd
open Go
@[go_sem] theorem jt1 {P:Program} {ev:Operand→AV} {H:Hp} {ty:TypeId} {K:AV→Hp→Prop} (t:TypeId) (l c:Operand):vc P ev H ty K (.makeSlice t l c)=jhh P (.makeSlice t l c) ty ev H K:=by simp [vc,jaq]
theorem jsp {w:NW} {z:Array Value} {zs:List Value} {n sz:Nat} (hz:z.toList=zs) (hl:zs.length=sz) (h0:0 < sz) (k:Nat) (a:AV) (v:Value) (ha:(List.replicate n (zs.map AV.raw)).flatten[k]?=some a) (hv:(madeCells z (n * sz))[k]?=some v):RelV w a v:=by
 have hzs:z.size=sz:=by rw [← hl,← hz];simp
 have hk:k < n * sz:=by
  have:=(Array.getElem?_eq_some_iff.1 hv).1
  rwa [size_madeCells] at this
 obtain ⟨i,j,hi,hj,rfl⟩:=jdP hk
 have hcs:∀ cs∈List.replicate n (zs.map AV.raw),cs.length=sz:=fun cs hcs=>by
  rw [(List.mem_replicate.1 hcs).2];simpa using hl
 have hg:=jbI hcs (i:=i) (j:=j) (by simpa using hi) hj
 rw [hg] at ha
 have:(List.replicate n (zs.map AV.raw)).getD i []=zs.map AV.raw:=by simp [List.getD_eq_getElem?_getD,hi]
 rw [this] at ha
 simp only [List.getElem?_map,Option.map_eq_some_iff] at ha
 obtain ⟨x,hx,rfl⟩:=ha
 have e:(i * sz+j) % sz=j:=by rw [Nat.add_comm,Nat.add_mul_mod_self_right];exact Nat.mod_eq_of_lt hj
 have:v=x:=by
  have hv2:(madeCells z (n * sz))[i * sz+j]?=some (z[(i * sz+j) % z.size]!):=by simp [madeCells,hk]
  rw [hv2] at hv
  have hv:=Option.some.inj hv
  rw [← hv,hzs,e]
  have hjz:j < z.size:=by omega
  rw [getElem!_pos z j hjz]
  have hx':z.toList[j]?=some x:=by rw [hz];exact hx
  rw [Array.getElem?_toList] at hx'
  exact Option.some.inj ((Array.getElem?_eq_getElem hjz).symm.trans hx')
 subst this
 exact .raw _
theorem mkS {P:Program} {ev:Operand→AV} {H:Hp} {ty:TypeId} {K:AV→Hp→Prop} {q:Prop} (i:Nat) {t et:TypeId} {sz n:Nat} {zs:List Value} {l c:Operand} (k:q) (hl:ev l=.raw (.int .i64 (n:Int)):=by rfl) (hc:ev c=.raw (.int .i64 (n:Int)):=by rfl) (ht:elT P t=some et:=by (simp only [go_sem];rfl)) (hs:jct P et=some sz:=by (simp only [go_sem];rfl)) (hz:jbK P et=some zs:=by (simp only [go_sem];rfl)) (hzl:zs.length=sz:=by rfl) (h0:0 < sz:=by decide) (hr:room (jcc P et) n:=by (simp only [go_sem];omega)) (hi:H.get i=none:=by rfl)
  (e:K (.rs i n sz n) (H.put i (.vec et sz (List.replicate n (zs.map .raw))))=q:=by exact rf_):jhh P (.makeSlice t l c) ty ev H K:=fun w ρ dst pos after guard hw hρ=>by
 have h1:=hρ l (by simp [Op.operands])
 have h2:=hρ c (by simp [Op.operands])
 rw [hl] at h1
 rw [hc] at h2
 have e1:=jar h1
 have e2:=jar h2
 have hu:P.underlying t=some (.slice et):=jjX ht
 unfold jct at hs
 cases hf:P.info? et with
 | none=>rw [hf] at hs;cases hs
 | some inf=>
  rw [hf] at hs
  have hsz:inf.size=sz:=by simpa using hs
  have hz':=hz
  unfold jbK at hz'
  rw [hf] at hz'
  simp only [Option.bind_some,Option.map_eq_some_iff] at hz'
  obtain ⟨z,hzz,hzl'⟩:=hz'
  have hby:jcc P et=inf.bytes:=by unfold jcc;rw [hf];rfl
  obtain ⟨r1,r2⟩:=hr
  rw [hby] at r1
  have hrun:=run_make (P:=P) w.toWorld t et inf z hu hf hzz .i64 .i64 (n:Int) (n:Int) (by omega) (by omega) (by
   have h:((n * inf.bytes:Nat):Int)≤140737488355328:=by omega
   rw [Int.natCast_mul,Int.mul_comm] at h
   omega) (by omega)
  simp only [Int.toNat_natCast] at hrun
  rw [hsz] at hrun
  have hcs:∀ cs∈List.replicate n (zs.map AV.raw),cs.length=sz:=fun cs hcs=>by rw [(List.mem_replicate.1 hcs).2];simpa using hzl
  have hfl:=jaK hcs
  simp only [List.length_replicate] at hfl
  obtain ⟨q1,q2⟩:=jgA (row:=.vec et sz (List.replicate n (zs.map AV.raw))) hw (hw.none hi _) (fun r' hr=>by rw [hi] at hr;cases hr) ⟨h0,hcs⟩ (madeCells z.cells (n * sz)) ⟨rfl,by show (List.replicate n (zs.map AV.raw)).flatten.length≤_;rw [hfl,size_madeCells];exact Nat.le_refl _⟩ (fun k a v ha hv=>jsp hzl' hzl h0 k a v ha hv)
  refine ⟨_,_,.rs i n sz n,e ▸ k,q1,q2,.inl ⟨.slice (some ⟨w.heap.size,0,none⟩) n n,?_,?_⟩⟩
  ·simp only [execOp,e1,e2]
   simp [hrun]
   rfl
  ·have hnm:(((w.to (w.alloc (.cells (madeCells z.cells (n * sz)) et))).seize w.heap.size).name i n (.at w.heap.size (n * sz) sz)).nm i n=some (.at w.heap.size (n * sz) sz):=NW.name_same _ _ _ _
   have:=RelV.rs (w:=((w.to (w.alloc (.cells (madeCells z.cells (n * sz)) et))).seize w.heap.size).name i n (.at w.heap.size (n * sz) sz)) i n sz n w.heap.size (n * sz) n hnm rfl (Nat.le_refl _) h0
   have e3:(Row.vec et sz (List.replicate n (zs.map AV.raw))).ver=n:=by show (List.replicate n (zs.map AV.raw)).length=n;simp
   have e4:(madeCells z.cells (n * sz)).size=n * sz:=size_madeCells _ _
   rw [e3,e4]
   exact this
open Go.ChangeShapes Go.WideShapes Go.ChangeAt Go.RowKit
theorem jpI {P:Program} {t e:TypeId} {k:IntKind} (ht:P.underlying t=some (.array 2 e)) (he:P.underlying e=some (.int k)) (h1:P.cellsOf e=1) (h2:P.cellsOf t=2) :
  Dec P t (fun us=>∃ a b:Int,((Lit.int k a).wf=true∧(Lit.int k b).wf=true)∧us=[.raw (.int k a),.raw (.int k b)]):=fun T enc w fuel cs x hx=>by
 obtain ⟨xs,m,rfl,_,hl,hn,hel⟩:=DataW.trod_array ht hx
 rw [h2] at hl
 match cs,hl with
 | [c0,c1],_=>
  match xs,hn with
  | [x0,x1],_=>
   have e0:=hel 0 (by omega)
   have e1:=hel 1 (by omega)
   rw [h1] at e0 e1
   obtain ⟨a,ha,_,wa⟩:=DataW.trod_int he (show DataW.trod enc P w 0 (fun _=>true) true m e [c0]=some x0 from e0)
   obtain ⟨b,hb,_,wb⟩:=DataW.trod_int he (show DataW.trod enc P w 0 (fun _=>true) true m e [c1]=some x1 from e1)
   simp only [List.cons.injEq,and_true] at ha hb
   subst ha hb
   exact ⟨_,⟨a,b,⟨wa,wb⟩,rfl⟩,jdi (.raw _) (jec (.raw _))⟩
theorem jpw {P:Program} {t:TypeId} {T:Type} {enc:TypeId×Value→T} {w:World} {v:Value} {d:DataW T} {ps:List MemPlace} {base:Nat} {S:List AV→Prop} {n:Nat} {e:TypeId} (ht:P.underlying t=some (.array n e)) (hd:Dec P t S) (hv:Value.okWide P w .any base t v) (h:DataW.Trod enc P w 0 (fun _=>true) true t v d ps):∃ us,S us∧RelV (n0 w) (.agg us) v:=by
 unfold Value.okWide at hv
 rw [ht] at hv
 obtain ⟨cs,rfl,_,_⟩:=hv
 obtain ⟨fuel,hf⟩:=h
 obtain ⟨us,hs,hr⟩:=hd T enc w fuel _ _ hf
 exact ⟨us,hs,.agg us cs (by rw [hr.1];rfl) fun i a u ha hu=>hr.2 i a u ha (by show cs.toList[i]?=_;rw [Array.getElem?_toList];exact hu)⟩
end Go.Gd
namespace Go.Gd
open Go
def fid (a k:Nat):Nat:=1000+(8 * k+a)
theorem jbU (a k:Nat):1000≤fid a k:=by unfold fid;omega
theorem jcX {a b k j:Nat} (ha:a < 8) (hb:b < 8) (h:fid a k=fid b j):a=b∧k=j:=by unfold fid at h;omega
@[go_sem] theorem j0y (a k n:Nat) (h:n < 1000):(fid a k=n)=False:=by have:=jbU a k;simp;omega
@[go_sem] theorem j1d (a k n:Nat) (h:n < 1000):(n=fid a k)=False:=by have:=jbU a k;simp;omega
@[go_sem] theorem jpV (a b k j:Nat) (ha:a < 8) (hb:b < 8) (h:a≠b):(fid a k=fid b j)=False:=by simp;intro e;exact h (jcX ha hb e).1
def jel (a:Nat) (f:Nat→Row):Nat→Nat→List (Nat×Row)→List (Nat×Row)
 | _,0,l=>l
 | k,n+1,l=>(fid a k,f k)::jel a f (k+1) n l
def fam (a n:Nat) (f:Nat→Row) (l:List (Nat×Row)):List (Nat×Row):=jel a f 0 n l
theorem jia (a:Nat) (ha:a < 8) (f:Nat→Row) (l:List (Nat×Row)):∀ (n k j:Nat),jas (jel a f k n l) (fid a j)=if k≤j∧j < k+n then some (f j) else jas l (fid a j)
 | 0,k,j=>by unfold jel;rw [if_neg (by omega)]
 | n+1,k,j=>by
  show (if fid a j=fid a k then some (f k) else jas (jel a f (k+1) n l) (fid a j))=_
  by_cases e:j=k
  ·subst e;rw [if_pos rfl,if_pos (by omega)]
  ·rw [if_neg (fun h=>e (jcX ha ha h).2),jia a ha f l n (k+1) j]
   by_cases h:k+1≤j∧j < k+1+n
   ·rw [if_pos h,if_pos (by omega)]
   ·rw [if_neg h,if_neg (by omega)]
theorem jdw (a:Nat) (f:Nat→Row) (l:List (Nat×Row)) (i:Nat) (hi:∀ k,i≠fid a k):∀ (n k:Nat),jas (jel a f k n l) i=jas l i
 | 0,k=>rfl
 | n+1,k=>by
  show (if i=fid a k then some (f k) else jas (jel a f (k+1) n l) i)=_
  rw [if_neg (hi k)]
  exact jdw a f l i hi n (k+1)
@[go_sem] theorem jbG (a n:Nat) (f:Nat→Row) (l:List (Nat×Row)) (i:Nat) (h:i < 1000):jas (fam a n f l) i=jas l i:=jdw a f l i (fun k e=>by have:=jbU a k;omega) n 0
@[go_sem] theorem jbq (a n:Nat) (f:Nat→Row) (l:List (Nat×Row)) (b k:Nat) (ha:a < 8) (hb:b < 8) (h:a≠b):jas (fam a n f l) (fid b k)=jas l (fid b k):=jdw a f l _ (fun j e=>h (jcX hb ha e).1.symm) n 0
@[go_sem] theorem jcl (a n:Nat) (f:Nat→Row) (l:List (Nat×Row)) (k:Nat) (ha:a < 8) (h:k < n):jas (fam a n f l) (fid a k)=some (f k):=by
 unfold fam;rw [jia a ha,if_pos (by omega)]
@[go_sem] theorem jlg (a n:Nat) (f:Nat→Row) (l:List (Nat×Row)) (k:Nat) (ha:a < 8) (h:n≤k):jas (fam a n f l) (fid a k)=jas l (fid a k):=by
 unfold fam;rw [jia a ha,if_neg (by omega)]
theorem jev (a:Nat) (f:Nat→Row) (l:List (Nat×Row)) (i:Nat) (r:Row) (hi:∀ k,i≠fid a k):∀ (n k:Nat),jg4 (jel a f k n l) i r=jel a f k n (jg4 l i r)
 | 0,k=>rfl
 | n+1,k=>by
  unfold jel
  show (if i=fid a k then _ else _)=_
  rw [if_neg (hi k),jev a f l i r hi n (k+1)]
theorem jic (a:Nat) (ha:a < 8) (f:Nat→Row) (l:List (Nat×Row)) (j:Nat) (r:Row):∀ (n k:Nat),jg4 (jel a f k n l) (fid a j) r=if k≤j∧j < k+n then jel a (fun q=>if q=j then r else f q) k n l else jel a f k n (jg4 l (fid a j) r)
 | 0,k=>by unfold jel;rw [if_neg (by omega)]
 | n+1,k=>by
  have ih:=jic a ha f l j r n (k+1)
  show (if fid a j=fid a k then _ else _)=_
  by_cases e:j=k
  ·subst e
   rw [if_pos rfl,if_pos (by omega)]
   show _::_=(fid a j,if j=j then r else f j)::jel a _ (j+1) n l
   rw [if_pos rfl]
   have:∀ (n k:Nat),j < k→jel a f k n l=jel a (fun q=>if q=j then r else f q) k n l:=by
    intro n
    induction n with
    | zero=>intro k _;rfl
    | succ n ih=>intro k hk;unfold jel;rw [ih (k+1) (by omega),if_neg (by omega)]
   rw [this n (j+1) (by omega)]
  ·rw [if_neg (fun h=>e (jcX ha ha h).2),ih]
   by_cases h:k+1≤j∧j < k+1+n
   ·rw [if_pos h,if_pos (by omega)]
    show _=(fid a k,if k=j then r else f k)::_
    rw [if_neg (fun h=>e h.symm)]
   ·rw [if_neg h,if_neg (by omega)]
    rfl
@[go_sem] theorem jew (a n:Nat) (f:Nat→Row) (l:List (Nat×Row)) (i:Nat) (r:Row) (h:i < 1000):jg4 (fam a n f l) i r=fam a n f (jg4 l i r):=jev a f l i r (fun k e=>by have:=jbU a k;omega) n 0
@[go_sem] theorem ju6 (a n:Nat) (f:Nat→Row) (l:List (Nat×Row)) (b k:Nat) (r:Row) (ha:a < 8) (hb:b < 8) (h:a≠b):jg4 (fam a n f l) (fid b k) r=fam a n f (jg4 l (fid b k) r):=jev a f l _ r (fun j e=>h (jcX hb ha e).1.symm) n 0
@[go_sem] theorem ju5 (a n:Nat) (f:Nat→Row) (l:List (Nat×Row)) (k:Nat) (r:Row) (ha:a < 8) (h:k < n):jg4 (fam a n f l) (fid a k) r=fam a n (fun q=>if q=k then r else f q) l:=by
 unfold fam;rw [jic a ha,if_pos (by omega)]
@[go_sem] theorem jtH (a n:Nat) (f:Nat→Row) (l:List (Nat×Row)) (k:Nat) (r:Row) (ha:a < 8) (h:n≤k):jg4 (fam a n f l) (fid a k) r=fam a n f (jg4 l (fid a k) r):=by
 unfold fam;rw [jic a ha,if_neg (by omega)]
theorem jjh (a:Nat) {f g:Nat→Row} (l:List (Nat×Row)):∀ (n k:Nat),(∀ j,k≤j→j < k+n→f j=g j)→jel a f k n l=jel a g k n l
 | 0,k,_=>rfl
 | n+1,k,h=>by
  unfold jel
  rw [h k (by omega) (by omega),jjh a l n (k+1) fun j h1 h2=>h j (by omega) (by omega)]
theorem jfH {a n m:Nat} {f g:Nat→Row} {l l':List (Nat×Row)} (hn:n=m) (h:∀ j,j < n→f j=g j) (hl:l=l'):fam a n f l=fam a m g l':=by
 subst hn hl
 exact jjh a l n 0 fun j _ h2=>h j (by omega)
theorem jeP (a n:Nat) (ha:a < 8) (f:Nat→Row) (l:List (Nat×Row)) (i:Nat):(∃ k,k < n∧i=fid a k∧jas (fam a n f l) i=some (f k))∨((∀ k,k < n→i≠fid a k)∧jas (fam a n f l) i=jas l i):=by
 by_cases h:∃ k,i=fid a k
 ·obtain ⟨k,rfl⟩:=h
  by_cases hk:k < n
  ·exact .inl ⟨k,hk,rfl,jcl a n f l k ha hk⟩
  ·exact .inr ⟨fun j hj e=>hk ((jcX ha ha e).2 ▸ hj),jlg a n f l k ha (by omega)⟩
 ·exact .inr ⟨fun k _ e=>h ⟨k,e⟩,jdw a f l i (fun k e=>h ⟨k,e⟩) n 0⟩
def tab {α:Type} (n:Nat) (f:Nat→α):List α:=(List.range n).map f
@[go_sem] theorem jvI {α:Type} (n:Nat) (f:Nat→α):(tab n f).length=n:=by simp [tab]
@[go_sem] theorem jvH (n:Nat) (f:Nat→List AV) (k:Nat) (d:List AV) (h:k < n):(tab n f).getD k d=f k:=by simp [tab,h]
theorem jmT {n:Nat} {f:Nat→List AV} {l:List (List AV)} (hl:l.length=n) (h:∀ k,k < n→l.getD k []=f k):l=tab n f:=by
 apply List.ext_getElem (by rw [hl,jvI])
 intro i h1 h2
 have:=h i (by omega)
 rw [List.getD_eq_getElem?_getD,List.getElem?_eq_getElem h1] at this
 simpa [tab] using this
@[go_sem] theorem j1m (n:Nat) (f:Nat→List AV) (k:Nat) (c:List AV):(tab n f).set k c=tab n (fun q=>if q=k then c else f q):=by
 refine jmT (by simp [tab]) fun j hj=>?_
 rw [List.getD_eq_getElem?_getD,List.getElem?_set]
 by_cases e:k=j
 ·subst e;simp [tab,hj]
 ·rw [if_neg e,if_neg (fun h=>e h.symm)];simp [tab,hj]
@[go_sem] theorem jzV (n:Nat) (f:Nat→List AV) (c:List AV):tab n f++[c]=tab (n+1) (fun q=>if q=n then c else f q):=by
 refine jmT (by simp [tab]) fun j hj=>?_
 rw [List.getD_eq_getElem?_getD]
 by_cases e:j=n
 ·subst e;rw [if_pos rfl];simp [tab]
 ·rw [if_neg e,List.getElem?_append_left (by simp [tab];omega)];simp [tab,show j < n by omega]
theorem jch {α:Type} {n m:Nat} {f g:Nat→α} (hn:n=m) (h:∀ j,j < n→f j=g j):tab n f=tab m g:=by
 subst hn
 unfold tab
 exact List.map_congr_left fun j hj=>h j (by simpa using hj)
theorem jha {q:Nat→Bool} {n:Nat} {f:Nat→List AV} (h:∀ k,k < n→jaB q (f k)=true):QL q (tab n f):=fun c hc=>by
 obtain ⟨k,hk,rfl⟩:=List.mem_map.1 hc
 exact h k (by simpa using hk)
theorem jn3 {r:AV} {B:List Nat} {l:List (Nat×Row)} (l':List (Nat×Row)) (h:∀ i,jas l i=jas l' i):RLe r ⟨B,l⟩ r ⟨B,l'⟩:=fun w v h1 h2=>by
 have hg:∀ i,(Hp.mk B l').get i=(Hp.mk B l).get i:=fun i=>(h i).symm
 exact ⟨w,rfl,{ rows:=fun i r hi=>h1.rows i r ((hg i) ▸ hi),dom:=fun i m z hz=>by rw [hg];exact h1.dom i m z hz,inj:=h1.inj,own:=h1.own,fin:=h1.fin,glob:=h1.glob },h2,{ ExtQ.refl _ w with base:=rfl }⟩
theorem jis {w:NW} {B:List Nat} {l l':List (Nat×Row)} (h:∀ i,jas l i=jas l' i) (h1:RelW w ⟨B,l⟩):RelW w ⟨B,l'⟩:=by
 have hg:∀ i,(Hp.mk B l').get i=(Hp.mk B l).get i:=fun i=>(h i).symm
 exact { rows:=fun i r hi=>h1.rows i r ((hg i) ▸ hi),dom:=fun i m z hz=>by rw [hg];exact h1.dom i m z hz,inj:=h1.inj,own:=h1.own,fin:=h1.fin,glob:=h1.glob }
structure Lays (E:List (Nat×Row)→List (Nat×Row)) (tl:List (Nat×Row)):Prop where
 get:∀ i,jas (E tl) i=(jas (E []) i).or (jas tl i)
 apart:∀ i r,jas tl i=some r→jas (E []) i=none
theorem jeL {P:Program} {f:FuncId} {args:List AV} {B:List Nat} {tl:List (Nat×Row)} {E E':List (Nat×Row)→List (Nat×Row)} {K:AV→Hp→Prop} {r0:AV} (hc:ACalls P f args (E []) fun r l'=>r=r0∧l'=E' []) (h1:Lays E tl) (h2:Lays E' tl) (h3:(ids (E' [])).Nodup)
  (ha:jaB (fun i=>(ids (E [])).contains i) args=true) (hr:∀ i r,jas (E []) i=some r→jaB (fun i=>(ids (E [])).contains i) r.cells=true) (hk:K r0 ⟨B,E' tl⟩) (h4:∀ i,jas (E []) i≠none→jas (E' []) i≠none):HCalls P f args ⟨B,E tl⟩ K:=fun w vs hw hv=>by
 refine (jfd (H:=⟨B,E tl⟩) (K:=fun r H'=>r=r0∧∃ l',H'=⟨B,l'⟩∧∀ i,jas l' i=jas (E' tl) i) hc (fun i r hi=>?_) ha hr (fun r l' ⟨e1,e2⟩=>⟨fun i s hs=>?_,by rw [e2];exact h3,e1,_,rfl,fun i=>?_⟩) hw hv).mono ?_
 ·show jas (E tl) i=some r
  rw [h1.get,hi];rfl
 ·cases e:jas (E []) i with
  | some x=>exact .inl (jhB e)
  | none=>
   right
   show jas (E tl) i=none
   rw [h1.get,e,Option.none_or]
   cases e':jas tl i with
   | none=>rfl
   | some y=>rw [e2] at hs;have:=h2.apart i y e';rw [this] at hs;cases hs
 ·rw [e2,jdS _ _ _ (fun _ _ _=>trivial) h3,h2.get,h1.get]
  cases e:jas (E' []) i with
  | some x=>rfl
  | none=>
   have:jas (E []) i=none:=Classical.byContradiction fun h=>h4 i h e
   rw [this];rfl
 ·rintro e W ⟨v,r,H',w',rfl,rfl,⟨rfl,l',rfl,hl⟩,g1,g2,g3⟩
  exact ⟨v,_,⟨B,E' tl⟩,w',rfl,rfl,hk,jis hl g1,g2,{ g3 with base:=rfl }⟩
theorem alF {P:Program} (i:Nat) {t:TypeId} {H:Hp} {K:AV→Hp→Prop} {zs:List Value} {q:Prop} (k:q) (hi:H.get i=none:=by first | rfl | exact sm_) (hz:jbK P t=some zs:=by (simp only [go_sem];rfl)) (e:K (.pt i 0 0 0) (H.put i (.var t (zs.map .raw)))=q:=by exact rf_):jdA P H t K:=jdB i hz hi (e ▸ k)
theorem bxF (i:Nat) {t:TypeId} {x:AV} {H:Hp} {K:AV→Hp→Prop} {q:Prop} (k:q) (hi:H.get i=none:=by first | rfl | exact sm_) (ho:ones x.cells=true:=by simp only [go_sem]) (e:K (.pt i 0 0 0) (H.put i (.var t x.cells))=q:=by exact rf_):js9 H t x K:=je1 i ho hi (e ▸ k)
section
variable {α:Type} [DecidableEq α]
def jtL (n:α):List α→List AV→Option AV
 | k::ks,v::vs=>if n=k then some v else jtL n ks vs
 | _,_=>none
def jnO (n:α) (x:AV):List α→List AV→List AV
 | k::ks,v::vs=>if n=k then x::vs else v::jnO n x ks vs
 | _,_=>[x]
def jnN (n:α):List α→List α
 | k::ks=>if n=k then k::ks else k::jnN n ks
 | []=>[n]
theorem jnP (n:α) (x:AV):∀ (ks:List α) (vs:List AV),ks.length=vs.length→(jnN n ks).length=(jnO n x ks vs).length
 | [],[],_=>rfl
 | [],_::_,h=>by simp at h
 | _::_,[],h=>by simp at h
 | k::ks,v::vs,h=>by
  have h:ks.length=vs.length:=by simpa using h
  unfold jnN jnO
  split
  ·simp [h]
  ·simp [jnP n x ks vs h]
structure KeyOf (P:Program) (kt:TypeId) (enc:α→Value):Prop where
 und:∃ d,P.underlying kt=some d∧∀ a b,Instr.sameNow d (enc a) (enc b)=some (decide (a=b))
 chk:∀ (w:World) a e,(Instr.checkKey e 10000 kt (enc a)).run P w=.ok () w
 bits:∀ a,Instr.sameBits 10000 (enc a) (enc a)=true
theorem jxY {P:Program} {kt:TypeId} (h:P.underlying kt=some (.int .i64)):KeyOf P kt (Value.int .i64):=⟨⟨_,h,fun a b=>by simp [Instr.sameNow];rfl⟩,fun w a e=>MapKept.run_checkKey h (by simp [MapKept.IsKey]) e 9999,fun a=>by unfold Instr.sameBits;simp⟩
theorem jxZ {P:Program} {kt:TypeId} (h:P.underlying kt=some .string):KeyOf P kt Value.string:=⟨⟨_,h,fun a b=>by
 have:(a == b)=decide (a=b):=by rw [Bool.eq_iff_iff,MapKept.bytes_beq];simp
 simp only [Instr.sameNow,this]⟩,fun w a e=>MapKept.run_checkKey h (by simp [MapKept.IsKey]) e 9999,fun a=>by unfold Instr.sameBits;exact (MapKept.bytes_beq a a).2 rfl⟩
def fnd (n:α):List α→List Value→Nat→Option (Nat×Value)
 | k::ks,v::vs,i=>if n=k then some (i,v) else fnd n ks vs (i+1)
 | _,_,_=>none
theorem jgV {d:TypeDesc} {enc:α→Value} (h:∀ a b,Instr.sameNow d (enc a) (enc b)=some (decide (a=b))) (n:α):∀ (ks:List α) (vs:List Value) (b i:Nat),Instr.findNow d (enc n) (jgo b (ks.map enc) vs) i=some (fnd n ks vs i)
 | [],vs,b,i=>by simp [jgo,fnd,Instr.findNow]
 | k::ks,[],b,i=>by simp [jgo,fnd,Instr.findNow]
 | k::ks,v::vs,b,i=>by
  simp only [List.map_cons,jgo,fnd,Instr.findNow,h]
  by_cases e:n=k
  ·simp [e]
  ·simp [e,jgV h n ks vs (b+1) (i+1)]
theorem jj8 {n:α}:∀ {ks:List α} {vs:List Value} {i j:Nat} {v:Value},fnd n ks vs i=some (j,v)→∃ k,j=i+k∧vs[k]?=some v∧ks[k]?=some n∧k < ks.length∧
  (∀ as:List AV,as.length=ks.length→jtL n ks as=as[k]?∧(∀ x,jnO n x ks as=as.set k x))∧jnN n ks=ks
 | [],_,_,_,_,h=>by simp [fnd] at h
 | _::_,[],_,_,_,h=>by simp [fnd] at h
 | k::ks,v'::vs,i,j,v,h=>by
  unfold fnd at h
  split at h
  ·rename_i e
   cases h
   refine ⟨0,rfl,rfl,by simp [e],by simp,fun as hl=>?_,by simp [jnN,e]⟩
   cases as with
   | nil=>simp at hl
   | cons a as=>exact ⟨by simp [jtL,e],fun x=>by simp [jnO,e]⟩
  ·rename_i e
   obtain ⟨q,h1,h2,h3,h5,h4,h6⟩:=jj8 h
   refine ⟨q+1,by omega,by simpa using h2,by simpa using h3,by simpa using h5,fun as hl=>?_,by unfold jnN;rw [if_neg e,h6]⟩
   cases as with
   | nil=>simp at hl
   | cons a as=>
    obtain ⟨g1,g2⟩:=h4 as (by simpa using hl)
    exact ⟨by unfold jtL;rw [if_neg e,g1];rfl,fun x=>by unfold jnO;rw [if_neg e,g2];rfl⟩
theorem jj7 {n:α}:∀ {ks:List α} {vs:List Value} {i:Nat},ks.length=vs.length→fnd n ks vs i=none→(∀ as:List AV,as.length=ks.length→jtL n ks as=none∧∀ x,jnO n x ks as=as++[x])∧jnN n ks=ks++[n]
 | [],_,_,_,_=>⟨fun as hl=>by
   have:as=[]:=by simpa using hl
   subst this;exact ⟨rfl,fun x=>rfl⟩,rfl⟩
 | _::_,[],_,h,_=>by simp at h
 | k::ks,v'::vs,i,hl,h=>by
  unfold fnd at h
  split at h
  ·cases h
  ·rename_i e
   obtain ⟨g1,g2⟩:=jj7 (by simpa using hl) h
   refine ⟨fun as hla=>?_,by unfold jnN;rw [if_neg e,g2];rfl⟩
   cases as with
   | nil=>simp at hla
   | cons a as=>
    obtain ⟨q1,q2⟩:=g1 as (by simpa using hla)
    exact ⟨by unfold jtL;rw [if_neg e,q1],fun x=>by unfold jnO;rw [if_neg e,q2];rfl⟩
theorem jk0:∀ (b:Nat) (ks vs:List Value) (k v:Value),ks.length=vs.length→jgo b (ks++[k]) (vs++[v])=jgo b ks vs++[⟨k,v,b+ks.length⟩]
 | b,[],[],k,v,_=>by simp [jgo]
 | b,[],_::_,k,v,h=>by simp at h
 | b,_::_,[],k,v,h=>by simp at h
 | b,k'::ks,v'::vs,k,v,h=>by
  have:=jk0 (b+1) ks vs k v (by simpa using h)
  simp only [List.cons_append,jgo,this,List.length_cons]
  rw [show b+1+ks.length=b+(ks.length+1) by omega]
theorem jnk:∀ (b:Nat) (ks vs:List Value) (j:Nat) (k v:Value),ks[j]?=some k→vs[j]?=some v→(jgo b ks vs)[j]?=some ⟨k,v,b+j⟩
 | b,[],_,j,k,v,h,_=>by simp at h
 | b,_::_,[],j,k,v,_,h=>by simp at h
 | b,k'::ks,v'::vs,0,k,v,h1,h2=>by simp at h1 h2;subst h1 h2;rfl
 | b,k'::ks,v'::vs,j+1,k,v,h1,h2=>by
  have:=jnk (b+1) ks vs j k v (by simpa using h1) (by simpa using h2)
  simp only [jgo,List.getElem?_cons_succ,this]
  rw [show b+1+j=b+(j+1) by omega]
theorem jnl:∀ (b:Nat) (ks vs:List Value) (j:Nat) (k v:Value),ks[j]?=some k→j < vs.length→jgo b ks (vs.set j v)=(jgo b ks vs).modify j fun e=>{ e with key:=k,val:=v }
 | b,[],_,j,k,v,h,_=>by simp at h
 | b,_::_,[],j,k,v,_,h=>by simp at h
 | b,k'::ks,v'::vs,0,k,v,h1,_=>by simp at h1;subst h1;simp [jgo]
 | b,k'::ks,v'::vs,j+1,k,v,h1,h2=>by
  have:=jnl (b+1) ks vs j k v (by simpa using h1) (by simpa using h2)
  simp [jgo,this]
theorem jnL {P:Program} {kt:TypeId} {enc:α→Value} (K:KeyOf P kt enc) (w:World) (n:α) (ks:List α) (vs:List Value) (b:Nat):(Instr.findKey kt (enc n) (jgo b (ks.map enc) vs)).run P w=.ok (fnd n ks vs 0) w:=by
 obtain ⟨d,h1,h2⟩:=K.und
 simp [Instr.findKey,run_underlying h1,jgV h2,Result.andThen]
end
section
variable {P:Program} {H:Hp} {α:Type} [DecidableEq α]
theorem jqm {w:NW} (hw:RelW w H) {i:Nat} {ks:List Value} {vs:List AV} {b t s:Nat} (hi:H.get i=some (.mp ks vs)) (hn:w.nm i 0=some (.at b t s)) :
  s=0∧ks.length=vs.length∧∃ cur:Array Value,w.heap[b]?=some (.map (jgo 0 ks cur.toList).toArray ks.length)∧cur.size=vs.length∧∀ (k:Nat) a v,vs[k]?=some a→cur[k]?=some v→RelV w a v:=by
 obtain ⟨hok,z,hz,hrow⟩:=hw.rows _ _ hi
 have:z=.at b t s:=by have hz:w.nm i 0=some z:=hz;rw [hn] at hz;cases hz;rfl
 subst this
 obtain ⟨h1,cur,hh,hfit,hr⟩:=hrow
 exact ⟨h1,hok,cur,hh,hfit,hr⟩
theorem mkM (i:Nat) {ev:Operand→AV} {ty:TypeId} {K:AV→Hp→Prop} {t:TypeId} {q:Prop} (k:q) (hi:H.get i=none:=by first | rfl | exact sm_) (e:K (.mr i) (H.put i (.mp [] []))=q:=by exact rf_):jhh P (.makeMap t none) ty ev H K:=fun w ρ dst pos after guard hw hρ=>by
 obtain ⟨q1,q2⟩:=jgA (row:=.mp [] []) hw (hw.none hi _) (fun r' hr=>by rw [hi] at hr;cases hr) rfl #[] rfl (fun k a v ha hv=>by
  have ha:([]:List AV)[k]?=some a:=ha
  simp at ha)
 refine ⟨_,_,.mr i,e ▸ k,q1,q2,.inl ⟨.map (some w.heap.size),?_,.mr _ _ _ _ (NW.name_same _ _ _ _)⟩⟩
 simp [execOp,Instr.makeMap,newObj,Result.andThen]
 rfl
theorem j6O {ev:Operand→AV} {ty:TypeId} {K:AV→Hp→Prop} {t kt et:TypeId} {om ok ox:Operand} {op:Op} {i:Nat} {ks:List α} {vs:List AV} {n:α} {x:AV} {enc:α→Value} {q:Prop} (hop:op=.insert t om ok ox∨op=.mapUpdate t om ok ox) (hK:KeyOf P kt enc) (ht:P.underlying t=some (.map kt et))
  (hm:ev om=.mr i) (hk:ev ok=.raw (enc n)) (hx:ev ox=x) (hi:H.get i=some (.mp (ks.map enc) vs)) (k:q) (e:K .any (H.put i (.mp ((jnN n ks).map enc) (jnO n x ks vs)))=q):jhh P op ty ev H K:=fun w ρ dst pos after guard hw hρ=>by
 have ho:om∈op.operands.toList∧ok∈op.operands.toList∧ox∈op.operands.toList:=by rcases hop with rfl | rfl<;>simp [Op.operands]
 have h1:=hρ om ho.1
 have h2:=hρ ok ho.2.1
 have h3:=hρ ox ho.2.2
 rw [hm] at h1
 rw [hk] at h2
 rw [hx] at h3
 have e2:=jar h2
 cases e1:ρ om with
 | map r=>
  rw [e1] at h1
  cases h1 with
  | mr _ b u s hn=>
  obtain ⟨rfl,hl,cur,hh,hsz,hr⟩:=jqm hw hi hn
  have hl:ks.length=vs.length:=by simpa using hl
  have hcl:ks.length=cur.toList.length:=by simp;omega
  have hb:b < w.heap.size:=hw.lt hn
  have run:∀ (vs':List Value) (ks':List α),ks'.length=vs'.length→(jnO n x ks vs).length=vs'.length→jnN n ks=ks'→
    (Instr.mapUpdate t (ρ om) (ρ ok) (ρ ox)).run P w.toWorld=.ok () { w.toWorld with heap:=w.heap.setIfInBounds b (.map (jgo 0 (ks'.map enc) vs').toArray ks'.length) }→
    (∀ (k:Nat) a v,(jnO n x ks vs)[k]?=some a→vs'[k]?=some v→RelV w a v)→∃ (w':NW) (H':Hp) (r:AV),K r H'∧RelW w' H'∧Ext w H w' H'∧((∃ v,(execOp ρ ⟨dst,op,ty,pos,after,guard⟩).run P w.toWorld=.ok (.value v) w'.toWorld∧RelV w' r v)∨((execOp ρ ⟨dst,op,ty,pos,after,guard⟩).run P w.toWorld=.ok .skip w'.toWorld∧r=.any)):=fun vs' ks' hl' hl2 hkk hrun hrel=>by
   obtain ⟨g1,g2⟩:=jls (W:={ w.toWorld with heap:=w.heap.setIfInBounds b (.map (jgo 0 (ks'.map enc) vs').toArray ks'.length) }) (row:=.mp (ks.map enc) vs) (row':=.mp ((jnN n ks).map enc) (jnO n x ks vs)) hw hi hn rfl (Nat.le_refl _) (by show ((jnN n ks).map enc).length=_;rw [List.length_map];exact jnP n x ks vs hl) rfl rfl rfl (by simp) (fun c hc=>by
    show (w.heap.setIfInBounds b _)[c]?=_
    rw [Array.getElem?_setIfInBounds,if_neg (fun h=>hc h.symm)]) vs'.toArray (by
    show (w.heap.setIfInBounds b _)[b]?=_
    rw [Array.getElem?_setIfInBounds,if_pos rfl,if_pos hb,hkk]
    simp [Row.obj]) (by show vs'.toArray.size=_;simp;omega) (fun k a v ha hv=>hrel k a v ha (by simpa using hv))
   refine ⟨_,_,.any,e ▸ k,g1,g2,.inr ⟨?_,rfl⟩⟩
   rcases hop with rfl | rfl
   ·simp only [execOp,hrun];simp [hrun,Result.andThen];rfl
   ·simp only [execOp,hrun];simp [hrun,Result.andThen];rfl
  have hfind:=jnL hK w.toWorld n ks cur.toList 0
  cases hf:fnd n ks cur.toList 0 with
  | none=>
   obtain ⟨f1,f2⟩:=jj7 hcl hf
   obtain ⟨f3,f4⟩:=f1 vs (by omega)
   refine run (cur.toList++[ρ ox]) (ks++[n]) (by simp;omega) (by rw [f4];simp;omega) f2 ?_ ?_
   ·rw [e1,e2]
    have es:=jk0 0 (ks.map enc) cur.toList (enc n) (ρ ox) (by simpa using hcl)
    rw [Nat.zero_add,List.length_map] at es
    rw [List.map_append,List.map_singleton,es]
    simp [Instr.mapUpdate,run_underlying ht,MapKept.run_getObj_map hh,hK.chk,hfind,hf,MapKept.run_setObj_map _ hh,Result.andThen]
   ·intro k a v ha hv
    rw [f4] at ha
    rcases Nat.lt_or_ge k vs.length with h | h
    ·rw [List.getElem?_append_left h] at ha
     rw [List.getElem?_append_left (by simp;omega)] at hv
     exact hr k a v ha (by simpa using hv)
    ·rw [List.getElem?_append_right h] at ha
     rw [List.getElem?_append_right (by simp;omega)] at hv
     have hk0:k - vs.length=0:=by
      have:=(List.getElem?_eq_some_iff.1 ha).1
      simp at this;omega
     rw [hk0] at ha
     rw [show k - cur.toList.length=0 by simp;omega] at hv
     simp at ha hv
     subst ha hv
     exact h3
  | some jv=>
   obtain ⟨j,v0⟩:=jv
   obtain ⟨k0,rfl,f2,f3,f5,f4,f6⟩:=jj8 hf
   rw [Nat.zero_add] at hf
   obtain ⟨f7,f8⟩:=f4 vs (by omega)
   refine run (cur.toList.set k0 (ρ ox)) ks (by simp;omega) (by rw [f8];simp;omega) f6 ?_ ?_
   ·rw [e1,e2]
    have hke:(ks.map enc)[k0]?=some (enc n):=by simp [f3]
    have es:=jnl 0 (ks.map enc) cur.toList k0 (enc n) (ρ ox) hke (by omega)
    have eg:=jnk 0 (ks.map enc) cur.toList k0 (enc n) v0 hke f2
    rw [es]
    have hmod:∀ g,(jgo 0 (ks.map enc) cur.toList).toArray.modify k0 g=((jgo 0 (ks.map enc) cur.toList).modify k0 g).toArray:=fun g=>by simp
    simp [Instr.mapUpdate,run_underlying ht,MapKept.run_getObj_map hh,hK.chk,hfind,hf,MapKept.run_setObj_map _ hh,Result.andThen,eg,Instr.keyThatStays,hK.bits]
   ·intro k a v ha hv
    rw [f8,List.getElem?_set] at ha
    rw [List.getElem?_set] at hv
    by_cases hk':k0=k
    ·rw [if_pos hk'] at ha hv
     split at ha
     ·split at hv
      ·cases ha;cases hv;exact h3
      ·cases hv
     ·cases ha
    ·rw [if_neg hk'] at ha hv
     exact hr k a v ha (by simpa using hv)
 | _=>rw [e1] at h1;cases h1
def jqn (n:α) (ks:List α) (vs:List AV) (z:AV) (ok:Bool):AV:=if ok=true then (match jtL n ks vs with | some v=>.tup [v,.raw (.bool true)] | none=>.tup [z,.raw (.bool false)]) else (jtL n ks vs).getD z
theorem j3S {ev:Operand→AV} {ty:TypeId} {K:AV→Hp→Prop} {t kt et:TypeId} {om ox:Operand} {c:Bool} {i:Nat} {ks:List α} {vs:List AV} {n:α} {z:Value} {enc:α→Value} {q:Prop} (hK:KeyOf P kt enc) (ht:P.underlying t=some (.map kt et)) (hz:(P.info? et).bind (·.zero)=some z)
  (hm:ev om=.mr i) (hk:ev ox=.raw (enc n)) (hi:H.get i=some (.mp (ks.map enc) vs)) (k:q) (e:K (jqn n ks vs (.raw z) c) H=q):jhh P (.lookup t om ox c) ty ev H K:=fun w ρ dst pos after guard hw hρ=>by
 have h1:=hρ om (by simp [Op.operands])
 have h2:=hρ ox (by simp [Op.operands])
 rw [hm] at h1
 rw [hk] at h2
 have e2:=jar h2
 cases e1:ρ om with
 | map r=>
  rw [e1] at h1
  cases h1 with
  | mr _ b u s hn=>
  obtain ⟨rfl,hl,cur,hh,hsz,hr⟩:=jqm hw hi hn
  have hl:ks.length=vs.length:=by simpa using hl
  have hcl:ks.length=cur.toList.length:=by simp;omega
  have hfind:=jnL hK w.toWorld n ks cur.toList 0
  have hzr:(zeroValue et).run P w.toWorld=.ok z w.toWorld:=by
   cases hti:P.info? et with
   | none=>rw [hti] at hz;cases hz
   | some ti=>rw [hti] at hz;simp only [Option.bind_some] at hz;simp [zeroValue,typeInfo,hti,hz]
  cases hf:fnd n ks cur.toList 0 with
  | none=>
   obtain ⟨f1,f2⟩:=jj7 hcl hf
   obtain ⟨f3,_⟩:=f1 vs (by omega)
   refine ⟨w,H,_,e ▸ k,hw,Ext.refl w H,.inl ⟨if c=true then .tuple #[z,.bool false] else z,?_,?_⟩⟩
   ·simp only [execOp,e1,e2]
    cases c<;>simp [Instr.lookup,run_underlying ht,MapKept.run_getObj_map hh,hK.chk,hfind,hf,hzr,Result.andThen]
   ·unfold jqn
    rw [f3]
    cases c
    ·exact .raw _
    ·exact .tup _ _ rfl fun i a v ha hv=>by
      match i with
      | 0=>simp at ha hv;subst ha hv;exact .raw _
      | 1=>simp at ha hv;subst ha hv;exact .raw _
      | i+2=>simp at ha
  | some jv=>
   obtain ⟨j,v0⟩:=jv
   obtain ⟨k0,rfl,f2,f3,f5,f4,f6⟩:=jj8 hf
   obtain ⟨f7,_⟩:=f4 vs (by omega)
   have hk0:k0 < vs.length:=by omega
   have hv0:RelV w vs[k0] v0:=hr k0 _ v0 (List.getElem?_eq_getElem hk0) (by simpa using f2)
   refine ⟨w,H,_,e ▸ k,hw,Ext.refl w H,.inl ⟨if c=true then .tuple #[v0,.bool true] else v0,?_,?_⟩⟩
   ·simp only [execOp,e1,e2]
    cases c<;>simp [Instr.lookup,run_underlying ht,MapKept.run_getObj_map hh,hK.chk,hfind,hf,Result.andThen]
   ·unfold jqn
    rw [f7,List.getElem?_eq_getElem hk0]
    cases c
    ·exact hv0
    ·exact .tup _ _ rfl fun i a v ha hv=>by
      match i with
      | 0=>simp at ha hv;subst ha hv;exact hv0
      | 1=>simp at ha hv;subst ha hv;exact .raw _
      | i+2=>simp at ha
 | _=>rw [e1] at h1;cases h1
def jtJ (P:Program) (t:TypeId):Option (Bool×TypeId):=match P.underlying t with
 | some (.map k e)=>match P.underlying k with
  | some .string=>some (true,e)
  | some (.int .i64)=>some (false,e)
  | _=>none
 | _=>none
theorem jyb {t e:TypeId} (h:jtJ P t=some (true,e)):∃ k,P.underlying t=some (.map k e)∧KeyOf P k Value.string:=by
 unfold jtJ at h
 split at h
 ·rename_i k e' h1
  split at h
  ·rename_i h2;cases h;exact ⟨k,h1,jxZ h2⟩
  ·cases h
  ·cases h
 ·cases h
theorem jtK {t e:TypeId} (h:jtJ P t=some (false,e)):∃ k,P.underlying t=some (.map k e)∧KeyOf P k (Value.int .i64):=by
 unfold jtJ at h
 split at h
 ·rename_i k e' h1
  split at h
  ·cases h
  ·rename_i h2;cases h;exact ⟨k,h1,jxY h2⟩
  ·cases h
 ·cases h
def j6x (op:Op) (t:TypeId) (om ok ox:Operand):Prop:=op=.insert t om ok ox∨op=.mapUpdate t om ok ox
theorem jci {ev:Operand→AV} {ty:TypeId} {K:AV→Hp→Prop} {t et:TypeId} {om ok ox:Operand} {op:Op} {i:Nat} {vs:List AV} {n:Int} {q:Prop} (ks:List Int) (hm0:jtJ P t=some (false,et)) (k:q) (hop:op=.insert t om ok ox∨op=.mapUpdate t om ok ox:=by first | exact Or.inl rfl | exact Or.inr rfl)
  (hm:ev om=.mr i:=by rfl) (hk:ev ok=.raw (.int .i64 n):=by rfl) (hi:H.get i=some (.mp (ks.map (Value.int .i64)) vs):=by first | rfl | exact sm_) (e:K .any (H.put i (.mp ((jnN n ks).map (Value.int .i64)) (jnO n (ev ox) ks vs)))=q:=by exact rf_):jhh P op ty ev H K:=by
 obtain ⟨kt,h1,h2⟩:=jtK hm0
 exact j6O hop h2 h1 hm hk rfl hi k e
theorem jtC {ev:Operand→AV} {ty:TypeId} {K:AV→Hp→Prop} {t et:TypeId} {om ox:Operand} {c:Bool} {i:Nat} {vs:List AV} {n:Int} {q:Prop} (ks:List Int) (z:Value) (r:AV) (hm0:jtJ P t=some (false,et)) (hz:(P.info? et).bind (·.zero)=some z) (hr:jqn n ks vs (.raw z) c=r) (k:q)
  (hm:ev om=.mr i:=by rfl) (hk:ev ox=.raw (.int .i64 n):=by rfl) (hi:H.get i=some (.mp (ks.map (Value.int .i64)) vs):=by first | rfl | exact sm_) (e:K r H=q:=by exact rf_):jhh P (.lookup t om ox c) ty ev H K:=by
 obtain ⟨kt,h1,h2⟩:=jtK hm0
 exact j3S h2 h1 hz hm hk hi k (hr ▸ e)
theorem getS {ev:Operand→AV} {ty:TypeId} {K:AV→Hp→Prop} {t et:TypeId} {om ox:Operand} {c:Bool} {i:Nat} {vs:List AV} {n:ByteArray} {q:Prop} (ks:List ByteArray) (z:Value) (r:AV) (hm0:jtJ P t=some (true,et)) (hz:(P.info? et).bind (·.zero)=some z) (hr:jqn n ks vs (.raw z) c=r) (k:q)
  (hm:ev om=.mr i:=by rfl) (hk:ev ox=.raw (.string n):=by rfl) (hi:H.get i=some (.mp (ks.map Value.string) vs):=by first | rfl | exact sm_) (e:K r H=q:=by exact rf_):jhh P (.lookup t om ox c) ty ev H K:=by
 obtain ⟨kt,h1,h2⟩:=jyb hm0
 exact j3S h2 h1 hz hm hk hi k (hr ▸ e)
@[go_sem] theorem jw3 {ev:Operand→AV} {ty:TypeId} {K:AV→Hp→Prop} (t:TypeId) (r:Option Operand):vc P ev H ty K (.makeMap t r)=jhh P (.makeMap t r) ty ev H K:=by simp [vc,jaq]
@[go_sem] theorem jyY {ev:Operand→AV} {ty:TypeId} {K:AV→Hp→Prop} (t:TypeId) (m k x:Operand):vc P ev H ty K (.insert t m k x)=jhh P (.insert t m k x) ty ev H K:=by simp [vc,jaq]
@[go_sem] theorem jyZ {ev:Operand→AV} {ty:TypeId} {K:AV→Hp→Prop} (t:TypeId) (m k:Operand) (c:Bool):vc P ev H ty K (.lookup t m k c)=jhh P (.lookup t m k c) ty ev H K:=by simp [vc,jaq]
end
attribute [go_sem] jnO jnN
-- what is new, in regions that leave their order open
section
variable {P:Program} {A:AS} {ev:Operand→AV} {H:Hp}
@[go_sem] theorem j1A {K:AV→Hp→Prop} (t:TypeId) (n:Nat) (ps:Array (Nat×Operand)):vcN P A ev H K (.buildSlice t n ps)=jop P H t n (ps.toList.map fun p=>(p.1,ev p.2)) (AP (fun r H'=>HLx A H H'∧K r H') .mk):=(rfl)
@[go_sem] theorem jz5 {K:AV→Hp→Prop} (t:TypeId) (l c:Operand):vcN P A ev H K (.makeSlice t l c)=jhh P (.makeSlice t l c) 0 ev H (AP (fun r H'=>HLx A H H'∧K r H') .mk):=(rfl)
@[go_sem] theorem jw0 {K:AV→Hp→Prop} (t:TypeId) (a x:Operand):vcN P A ev H K (.call ⟨.builtin .append,#[a,x],#[t,t]⟩)=jcZ P t t (ev a) (ev x) H (AP (fun r H'=>HLx A H H'∧K r H') .mk):=(rfl)
theorem apN (i:Nat) {t e:TypeId} {sz:Nat} {b:Bool} {x:AV} {c:Prop} {ys:List (List AV)} {zs:List Value} {f:AV→Hp→Prop} {d:Dep fun r H'=>HLx A H H'∧f r H'} {q:Prop} (k:q) (ht:elT P t=some e:=by (simp only [go_sem];rfl)) (hs:jct P e=some sz:=by first | (simp only [go_sem];done) | (simp only [go_sem];rfl)) (hz:jbK P e=some zs:=by (simp only [go_sem];rfl)) (hzl:zs.length=sz:=by rfl) (h0:0 < sz:=by decide)
  (hx:jmR H x=some (c,ys):=by first | rfl | exact sm_) (hc:c:=by first | trivial | exact sm_) (hg:jja sz ys:=by first | exact jnu _ _ (fun _=>rfl) | exact sm_) (hr:room (jcc P e) ys.length:=by (simp only [go_sem];omega)) (hi:H.get i=none:=by first | rfl | exact sm_)
  (e:f (.rs i ys.length sz ys.length) (H.put i (.vec e sz ys))=q:=by exact rf_):jcZ P t t (.sl true sz [] []) x H (AP (fun r H'=>HLx A H H'∧f r H') d):=by
 refine jgS ?_
 unfold jyK
 rw [ht]
 simp only [hs,hz,hx]
 refine ⟨⟨hzl,h0,hc,hg⟩,⟨rfl,by simpa using hr,.inl rfl⟩,i,hi,HLx.put (by simpa using hi),?_⟩
 simp only [List.length_nil,Nat.zero_add,List.nil_append]
 exact e ▸ k
theorem jnH (i:Nat) {t:TypeId} {sz:Nat} {css:List (List AV)} {K:AV→Hp→Prop} {q:Prop} (k:q) (h0:0 < sz:=by decide) (hi:H.get i=none:=by first | rfl | exact sm_) (e:K (.rs i css.length sz css.length) (H.put i (.vec t sz css))=q:=by exact rf_):jkI t sz css H K:=jiN i h0 hi (e ▸ k)
theorem jwQ (i:Nat) {t:TypeId} {sz:Nat} {css:List (List AV)} {f:AV→Hp→Prop} {d:Dep fun r H'=>HLx A H H'∧f r H'} {q:Prop} (k:q) (h0:0 < sz:=by decide) (hi:H.get i=none:=by first | rfl | exact sm_) (e:f (.rs i css.length sz css.length) (H.put i (.vec t sz css))=q:=by exact rf_) :
  jkI t sz css H (AP (fun r H'=>HLx A H H'∧f r H') d):=jiN i h0 hi ⟨HLx.put hi,e ▸ k⟩
theorem mkN (i:Nat) {t et:TypeId} {sz n:Nat} {zs:List Value} {l c:Operand} {f:AV→Hp→Prop} {d:Dep fun r H'=>HLx A H H'∧f r H'} {q:Prop} (k:q) (hl:ev l=.raw (.int .i64 (n:Int)):=by rfl) (hc:ev c=.raw (.int .i64 (n:Int)):=by rfl) (ht:elT P t=some et:=by (simp only [go_sem];rfl)) (hs:jct P et=some sz:=by (simp only [go_sem];rfl)) (hz:jbK P et=some zs:=by (simp only [go_sem];rfl)) (hzl:zs.length=sz:=by rfl) (h0:0 < sz:=by decide) (hr:room (jcc P et) n:=by (simp only [go_sem];omega)) (hi:H.get i=none:=by first | rfl | exact sm_)
  (e:f (.rs i n sz n) (H.put i (.vec et sz (List.replicate n (zs.map .raw))))=q:=by exact rf_):jhh P (.makeSlice t l c) 0 ev H (AP (fun r H'=>HLx A H H'∧f r H') d):=
 mkS (K:=AP (fun r H'=>HLx A H H'∧f r H') d) (q:=HLx A H (H.put i (.vec et sz (List.replicate n (zs.map .raw))))∧q) i ⟨HLx.put hi,k⟩ hl hc ht hs hz hzl h0 hr hi (by show (HLx A H _∧f _ _)=_;rw [e])
theorem jp2 {l0:List (Nat×Row)} (h4:fresh [] H l0) (h5:(ids l0).Nodup):HLx A H ⟨H.B,je6 H.l l0⟩:=fun i r _ hi=>by
 show jas (je6 H.l l0) i=some r
 rw [jdS _ _ _ (fun _ _ _=>trivial) h5]
 cases e:jas l0 i with
 | none=>exact hi
 | some x=>
  rcases jh5 h4 i x e with h | h
  ·simp at h
  ·rw [hi] at h;cases h
theorem cN {f:FuncId} {args:List AV} {g:AV→Hp→Prop} {d:Dep fun r H'=>HLx A H H'∧g r H'} {q:Prop} {l0:List (Nat×Row)} {r0:AV} (hc:ACalls P f args [] fun r l'=>r=r0∧l'=l0) (k:q) (h0:jab P f=true:=by exact sm_) (h2:jaB noQ args=true:=by exact sm_)
 (h4:fresh [] H l0:=by exact sm_) (h5:(ids l0).Nodup:=by exact sm_) (e:g r0 ⟨H.B,je6 H.l l0⟩=q:=by exact rf_):jbm P (.raw (.func (.func f) #[] #[])) args H (AP (fun r H'=>HLx A H H'∧g r H') d):=
 jbQ h0 (jer (K:=AP (fun r H'=>HLx A H H'∧g r H') d) hc trivial (by simpa [ids] using h2) trivial h4 h5 ⟨jp2 h4 h5,e ▸ k⟩)
end
attribute [go_sem] jqa
theorem jqz {w:NW} {H:Hp} (r:RelW w H) {D:Nat→Bool} {j:Nat} {t:TypeId} {cs ds:List AV} (hj:H.get j=some (.var t cs)) (hD:D j=false) (hv:VToL D H cs ds) (hB:H.B.all (jcB D)=true) (hl:jek D (jqa H.l j)) :
  RelW (w.freeS D) ⟨H.B,jg4 (ja9 D H.l) j (.var t ds)⟩∧ExtB w H (w.freeS D) ⟨H.B,jg4 (ja9 D H.l) j (.var t ds)⟩:=by
 have nmE:∀ k n,(w.freeS D).nm k n=if D k=true then none else w.nm k n:=fun _ _=>rfl
 have gE:∀ k,(Hp.mk H.B (jg4 (ja9 D H.l) j (.var t ds))).get k=if k=j then some (.var t ds) else if D k=true then none else H.get k:=fun k=>by
  show jas _ _=_
  rw [jfR,jgw];rfl
 obtain ⟨hlen,hget⟩:=hv.get
 refine ⟨{ rows:=fun k s hk=>?_,dom:=fun k n z hz=>?_,inj:=fun k n k' n' b t s t' s' h1 h2=>?_,own:=fun k n b t s h=>?_,fin:=fun b hb=>r.fin b hb.1,glob:=r.glob.keep (jb6 w D) },{ jb6 w D with names:=fun k n z hq h=>?_,os:=rfl,tape:=rfl,output:=rfl,rest:=fun b hb hO hn=>⟨rfl,⟨hO,fun k n t s _=>hn k n t s⟩,fun k n t s h=>?_⟩,base:=rfl }⟩
 ·rw [gE] at hk
  by_cases e:k=j
  ·subst e
   rw [if_pos rfl] at hk
   cases hk
   obtain ⟨h1,z,h2,h3⟩:=r.rows k _ hj
   refine ⟨trivial,z,by rw [nmE,if_neg (by rw [hD];decide)];exact h2,?_⟩
   cases z with
   | nil=>obtain ⟨e,sz,h⟩:=h3;cases h
   | «at» b T st=>
    obtain ⟨g1,cur,g2,g3,g5⟩:=h3
    refine ⟨g1,cur,g2,⟨g3.1,by show ds.length≤T;rw [← hlen];exact g3.2⟩,fun i d v hd hv'=>?_⟩
    have hi:i < cs.length:=by rw [hlen];exact (List.getElem?_eq_some_iff.1 hd).1
    have hc:cs[i]?=some cs[i]:=List.getElem?_eq_getElem hi
    exact (hget i _ d hc hd).sound r (g5 i _ v hc hv')
  ·rw [if_neg e] at hk
   split at hk
   ·cases hk
   ·rename_i e2
    obtain ⟨h1,z,h2,h3⟩:=r.rows k s hk
    refine ⟨h1,z,by rw [nmE,if_neg e2];exact h2,?_⟩
    cases z with
    | nil=>exact h3
    | «at» b T st=>
     obtain ⟨g1,cur,g2,g3,g5⟩:=h3
     have hk':jas (jqa H.l j) k=some s:=by rw [jfQ,if_neg e];exact hk
     exact ⟨g1,cur,g2,g3,fun i a v ha hv=>(g5 i a v ha hv).keep (jb6 w D) (jbL (jkE hl hk' (by simpa using e2)) ha)⟩
 ·rw [nmE] at hz
  split at hz
  ·cases hz
  ·rename_i e
   obtain ⟨s,h1,h2⟩:=r.dom k n z hz
   by_cases e2:k=j
   ·subst e2
    rw [hj] at h1;cases h1
    exact ⟨.var t ds,by rw [gE,if_pos rfl],h2⟩
   ·exact ⟨s,by rw [gE,if_neg e2,if_neg e];exact h1,h2⟩
 ·rw [nmE] at h1 h2
  split at h1
  ·cases h1
  split at h2
  ·cases h2
  exact r.inj _ _ _ _ _ _ _ _ _ h1 h2
 ·rw [nmE] at h
  split at h
  ·cases h
  rename_i e
  refine ⟨r.own _ _ _ _ _ h,fun i m t' s' hd h'=>?_⟩
  have:=r.inj _ _ _ _ _ _ _ _ _ h h'
  subst this
  exact e hd
 ·rw [nmE]
  have:=List.all_eq_true.1 hB k (List.contains_iff_mem.1 hq)
  unfold jcB at this
  rw [if_neg (by intro e;rw [e] at this;cases this)]
  exact h
 ·rw [nmE] at h
  split at h
  ·cases h
  ·exact hn k n t s h
theorem FLe.freeC {F F':List AV} {H:Hp} (D:Nat→Bool) (j:Nat) {t:TypeId} {cs:List AV} (ds:List AV) (hj:H.get j=some (.var t cs)) (hD:D j=false) (hc:VToL D H cs ds) (hB:H.B.all (jcB D)=true) (hl:jek D (jqa H.l j)) (hv:VToL D H F F'):FLe F H F' ⟨H.B,jg4 (ja9 D H.l) j (.var t ds)⟩:=fun w tm h1 h2=>by
 obtain ⟨a,b⟩:=jqz h1 hj hD hc hB hl
 obtain ⟨hl',hg⟩:=hv.get
 refine ⟨w.freeS D,rfl,a,⟨by rw [← hl'];exact h2.1,fun i c v hc hv=>?_⟩,b⟩
 have hi:i < F.length:=by rw [hl'];exact (List.getElem?_eq_some_iff.1 hc).1
 exact (hg i F[i] c (List.getElem?_eq_getElem hi) hc).sound h1 (h2.2 i _ v (List.getElem?_eq_getElem hi) hv)
-- calls under guards, that change things
def inD (D:List Nat):Option Tmp→Bool
 | some t=>D.contains t
 | none=>false
def vcS (P:Program) (ev:Operand→AV) (H:Hp) (K:AV→Hp→Prop):Op→Prop
 | .call { callee:=.value f,args,.. }=>jbm P (ev f) (args.toList.map ev) H K
 | _=>False
def jiO (D:List Nat) (P:Program) (ops:Array Oper) (K:List AV→Hp→Prop):List Oper→List AV→Hp→Prop
 | [],F,H=>K F H
 | o::rest,F,H=>match o.guard with
  | none=>vc P (evA F) H o.type (fun r H'=>jiO D P ops K rest (jbu F o.dst r) H') o.op
  | some (j,want)=>match jcA ops F j want with
   | some b=>if (inD D o.dst && jbk o.op)=true then (b=true→okG F o.op=true∧vcS P (evG F) H (fun r H'=>jiO D P ops K rest (jbu F o.dst r) H') o.op)∧(b=false→jiO D P ops K rest (jbu F o.dst (.gd false (.raw (.bool false)))) H)
    else if jbk o.op || jax o.op then vcG P F H b (fun r=>jiO D P ops K rest (jbu F o.dst r) H) o.op
    else (b=true→vc P (evA F) H o.type (fun r H'=>jiO D P ops K rest (jbu F o.dst r) H') o.op)∧(b=false→jiO D P ops K rest (jbu F o.dst .any) H)
   | none=>False
section
variable {P:Program} {ops:Array Oper}
theorem jd4 {D:List Nat} {K:List AV→Hp→Prop}:∀ (l:List Oper) (F:List AV) (H:Hp),jiO D P ops K l F H→jv4 P ops K l F H
 | [],F,H,h=>jm9 h
 | o::rest,F,H,h=>by
  refine jkQ ?_
  simp only [jiO] at h
  split at h
  ·rename_i hg
   exact (je8 (K:=fun F' H'=>jiO D P ops K rest F' H') hg h).mono fun F' H' hk=>jd4 rest F' H' hk
  ·rename_i j want hg
   split at h
   ·rename_i b hb
    split at h
    ·rename_i hd
     refine AOp.mono (K:=fun F' H'=>jiO D P ops K rest F' H') ?_ fun F' H' hk=>jd4 rest F' H' hk
     obtain ⟨dst,op,ty,pos,after,guard⟩:=o
     have hc:jbk op=true:=by simp only [Bool.and_eq_true] at hd;exact hd.2
     cases op<;>first | (cases hc;done) | skip
     rename_i c
     obtain ⟨callee,args,ts⟩:=c
     cases callee<;>first | (cases hc;done) | skip
     rename_i f
     refine jcb hg hb (fun hbw w tm Q next h1 h2 hn=>?_) (fun hbw=>⟨.gd false (.raw (.bool false)),jgW rfl,h.2 hbw⟩)
     obtain ⟨ok,hcall⟩:=h.1 hbw
     have hcg:=jgU ok
     have e1:evO F f=evG F f:=hcg f (by simp [Op.operands,Call.operands])
     have e2:args.toList.map (evO F)=args.toList.map (evG F):=List.map_congr_left fun x hx=>hcg x (by simp [Op.operands,Call.operands] at hx ⊢;exact .inr hx)
     refine jdL (ev:=evO F) e1 e2 hcall h1 (jgp h2) fun v r' w' H' hR g1 g2 g3=>?_
     rw [Act.put_eq]
     exact hn _ w' _ H' hR g1 ((h2.ext g3).put dst g2 []) g3
    split at h
    ·refine AOp.mono (K:=fun F' H'=>jiO D P ops K rest F' H') ?_ fun F' H' hk=>jd4 rest F' H' hk
     obtain ⟨dst,op,ty,pos,after,guard⟩:=o
     unfold vcG at h
     split at h
     ·rename_i f args argTypes heq
      cases heq
      obtain ⟨r,hc,hk⟩:=h
      refine jcb hg hb (fun hbw w tm Q next h1 h2 hn=>?_) (fun hbw=>⟨_,jgW hbw,hk⟩)
      obtain ⟨ok,hcall⟩:=hc hbw
      have hcg:=jgU ok
      have e1:evO F f=evG F f:=hcg f (by simp [Op.operands,Call.operands])
      have e2:args.toList.map (evO F)=args.toList.map (evG F):=List.map_congr_left fun x hx=>hcg x (by simp [Op.operands,Call.operands] at hx ⊢;exact .inr hx)
      refine jdL (ev:=evO F) e1 e2 hcall h1 (jgp h2) fun v r' w' H' hR g1 g2 g3=>?_
      obtain ⟨rfl,rfl⟩:=hR
      rw [Act.put_eq]
      exact hn _ w' _ H' hk g1 ((h2.ext g3).put dst (jji hbw g2) []) g3
     ·rename_i c x y heq
      simp only at heq
      subst heq
      obtain ⟨hs,hk⟩:=h
      refine jcb hg hb (fun hbw w tm Q next h1 h2 hn=>?_) (fun hbw=>⟨_,jgW hbw,hk⟩)
      obtain ⟨ok,hq⟩:=hs hbw
      obtain ⟨v,hrun,hv⟩:=jjt (P:=P) (ρ:=(Act.mk tm []).eval) (dst:=dst) (ty:=ty) (pos:=pos) (after:=after) (guard:=guard) (jmn h2 c ok) (h2.eval [] x) (h2.eval [] y) hq
      simp only [Oper.wp,hrun,Oper.upon]
      rw [Act.put_eq]
      exact hn _ w _ H hk h1 (h2.put dst (jji hbw hv) []) (Ext.refl w H)
     ·split at h
      ·obtain ⟨hs,hk⟩:=h
       refine jcb hg hb (fun hbw w tm Q next h1 h2 hn=>?_) (fun hbw=>⟨_,jgW hbw,hk⟩)
       obtain ⟨ok,hq⟩:=hs hbw
       rw [← jeg _ (jgU ok)] at hq
       obtain ⟨v,hrun,hv⟩:=jhK (ρ:=(Act.mk tm []).eval) ⟨dst,op,ty,pos,after,guard⟩ h1 (jgp h2) hq
       simp only [Oper.wp,hrun,Oper.upon]
       rw [Act.put_eq]
       rw [jeg _ (jgU ok)] at hv
       exact hn _ w _ H hk h1 (h2.put dst (jji hbw hv) []) (Ext.refl w H)
      ·exact h.elim
    ·refine AOp.mono (K:=fun F' H'=>jiO D P ops K rest F' H') ?_ fun F' H' hk=>jd4 rest F' H' hk
     refine jcb hg hb (fun hbw w tm Q next h1 h2 hn=>?_) (fun hbw=>⟨_,fun w=>.any _,h.2 hbw⟩)
     exact jvX (h.1 hbw) h1 h2 (fun x=>h2.eval [] x) hn
   ·exact h.elim
end
section
variable {D:List Nat} {P:Program} {ops:Array Oper} {K:List AV→Hp→Prop}
@[go_sem] theorem j0g (F:List AV) (H:Hp):jiO D P ops K [] F H=K F H:=(rfl)
@[go_sem] theorem jy4 (dst:Option Tmp) (op:Op) (ty:TypeId) (pos:String) (after:Array Edge) (rest:List Oper) (F:List AV) (H:Hp) :
  jiO D P ops K (⟨dst,op,ty,pos,after,none⟩::rest) F H=vc P (evA F) H ty (AP (fun r H'=>jiO D P ops K rest (jbu F dst r) H') .mk) op:=(rfl)
def j1B (P:Program) (F:List AV) (H:Hp) (K:AV→Hp→Prop):Op→Prop
 | .call { callee:=.value f,args,.. }=>((unG (evA F f)).1=true∧okL F args.toList)∧jbm P (evG F f) (args.toList.map (evG F)) H K
 | _=>False
@[go_sem] theorem jyV {F:List AV} {H:Hp} {K:AV→Hp→Prop} (f:Operand) (as:Array Operand) (ts:Array TypeId):j1B P F H K (.call ⟨.value f,as,ts⟩)=(((unG (evA F f)).1=true∧okL F as.toList)∧jbm P (evG F f) (as.toList.map (evG F)) H K):=(rfl)
theorem jvU {F:List AV} {H:Hp} {K:AV→Hp→Prop} {op:Op} (h:jbk op=true):(okG F op=true∧vcS P (evG F) H K op)=j1B P F H K op:=by
 cases op<;>first | (cases h;done) | skip
 rename_i c
 obtain ⟨callee,args,ts⟩:=c
 cases callee<;>first | (cases h;done) | skip
 rename_i f
 rw [jnS]
 rfl
@[go_sem] theorem jxa (t:Nat) (op:Op) (ty:TypeId) (pos:String) (after:Array Edge) (j:Nat) (want:Bool) (rest:List Oper) (F:List AV) (H:Hp) :
  jiO D P ops K (⟨some t,op,ty,pos,after,some (j,want)⟩::rest) F H=jge (jcA ops F j want) (fun b=>vIf (D.contains t && jbk op)
   (vBr b (j1B P F H (AP (fun r H'=>jiO D P ops K rest (jbu F (some t) r) H') .mk) op) (jiO D P ops K rest (jbu F (some t) (.gd false (.raw (.bool false)))) H) .mk .mk)
   (vIf (jbk op || jax op) (vcG P F H b (AP1 (fun r=>jiO D P ops K rest (jbu F (some t) r) H) .mk) op)
    ((b=true→vc P (evA F) H ty (AP (fun r H'=>jiO D P ops K rest (jbu F (some t) r) H') .mk) op)∧(b=false→jiO D P ops K rest (jbu F (some t) .any) H)) .mk .mk) .mk .mk) .mk:=by
 conv=>lhs;unfold jiO
 simp only
 unfold jge vIf vBr inD
 cases jcA ops F j want with
 | none=>rfl
 | some b=>
  simp only
  by_cases hc:(D.contains t && jbk op)=true
  ·rw [if_pos hc,if_pos hc]
   have hv:jbk op=true:=by simp only [Bool.and_eq_true] at hc;exact hc.2
   rw [← jvU hv]
   rfl
  ·rw [if_neg hc,if_neg hc]
   rfl
end
theorem sS {P:Program} {id:Nat} {l:List Oper} {Q:Exit→List AV→Hp→Prop} {F:List AV} {H:Hp} {q:Prop} (D:List Nat) (h:q) (e:jiO D P l.toArray (Q .normal) l F H=q:=by exact rf_):AWP P (.region id l.toArray false) Q F H:=
 jjd (by simpa using jd4 l F H (e ▸ h))
def j1b (A:AS) (l0:List (Nat×Row)):List (Nat×Row)→Prop
 | []=>True
 | (i,r)::l=>(A.1.contains i=true∨jas l0 i=some r)∧j1b A l0 l
variable {P:Program} {H:Hp}
theorem jur {t e:TypeId} {sz d n:Nat} {x:AV} {c:Prop} {css ys:List (List AV)} {zs:List Value} {K:AV→Hp→Prop} {q:Prop} (k:q) (hd:H.get d=some (.vec e sz css):=by (simp (disch:=first | omega | assumption | fail) only [go_sem,jeG,↓reduceIte,Int.reduceEq,Int.reduceLE,Int.reduceLT,Int.reduceNe,Int.reduceToNat,Nat.reduceMul,Nat.reduceAdd,Nat.reduceLeDiff,Nat.reduceSub,Nat.reduceEqDiff,Nat.reduceBEq,List.nodup_cons,List.nodup_nil,List.mem_cons,List.not_mem_nil,List.mem_nil_iff];first | rfl | exact ⟨rfl,rfl⟩ | exact ⟨rfl,rfl,rfl⟩)) (ht:elT P t=some e:=by first | (simp only [go_sem];done) | (simp only [go_sem];rfl)) (hse:jct P e=some sz:=by (simp only [go_sem];done)) (hze:jbK P e=some zs:=by first | (simp only [go_sem];done) | (simp only [go_sem];rfl)) (hzl:zs.length=sz:=by rfl) (h0:0 < sz:=by decide) (hn:css.length=n:=by first | rfl | exact List.length_replicate | exact sm_) (hsrc:jmR H x=some (c,ys):=by rfl) (hc:c:=by trivial) (hg:jja sz ys:=by exact sm_) (hle':ys.length≤n:=by first | assumption | (simp only [List.length_map];omega) | exact sm_)
  (he:K (.raw (.int .i64 (ys.length:Nat))) (H.put d (.vec e sz (jfw css 0 ys)))=q:=by exact rf_):jcO P .copy [t,t] [.rs d n sz n,x] H K:=by
 subst hn
 have hk:=he ▸ k
 intro w vs ty cs hw hr
 obtain ⟨vd,vx,rfl⟩:∃ vd vx,vs=[vd,vx]:=by
  have:=hr.1
  match vs,this with
  | [vd,vx],_=>exact ⟨vd,vx,rfl⟩
 have hu:=jjX ht
 obtain ⟨i,z,hi,hisz,hiz,hzs,hby⟩:=jkZ hse hze hzl
 obtain ⟨A',cx,news,rfl,hnews,haddr⟩:=jlP hw (hr.2 1 _ vx rfl rfl) hsrc hc hg
 have hra:RelV w (.rs d css.length sz css.length) vd:=hr.2 0 _ vd rfl rfl
 have hfl:ys.flatten.length=ys.length * sz:=jaK fun y hy=>(hg y hy).1
 have hnl:news.length=ys.length * sz:=by rw [← hnews.1,hfl]
 have hones:ones ys.flatten=true:=by
  simp only [ones,List.all_eq_true]
  intro u hu'
  obtain ⟨y,hy,huy⟩:=List.mem_flatten.1 hu'
  have:=(hg y hy).2
  simp only [ones,List.all_eq_true] at this
  exact this u huy
 have hf:(Builtin.firstCells i.size ys.length (.slice A' ys.length cx)).run P w.toWorld=.ok news.toArray w.toWorld:=by
  by_cases h0:ys.length=0
  ·have:news=[]:=by have:=hnl;rw [h0,Nat.zero_mul] at this;simpa using this
   subst this
   rw [h0]
   cases A'<;>simp [Builtin.firstCells,loadCells,loadCellsFrom]
  ·obtain ⟨ad,rfl,hcell⟩:=haddr (by omega)
   exact run_firstCells_some (P:=P) w.toWorld i.size ys.length ad ys.length cx news (by rw [hisz];exact hnl) hcell
 rw [hisz] at hf
 have hok:=(hw.rows d _ hd).1
 have hlen':∀ cs∈jfw css 0 ys,cs.length=sz:=fun cs h=>by
  unfold jfw at h
  rcases List.mem_append.1 h with h | h
  ·rcases List.mem_append.1 h with h | h
   ·exact hok.2 _ (List.mem_of_mem_take h)
   ·exact (hg cs h).1
  ·exact hok.2 _ (List.mem_of_mem_drop h)
 have hcfl:=jaK hok.2
 have hl2:=jnV (css:=css) ys (Nat.zero_le _)
 have hmn:Nat.min ys.length css.length=ys.length:=Nat.min_eq_left hle'
 generalize hN:css.length=N at hra
 cases hra with
 | rs0 _ _ _ A hnm=>
  have hy0:ys=[]:=List.length_eq_zero_iff.1 (by omega)
  subst hy0
  refine ⟨w,_,_,.int .i64 0,?_,hk,?_,.raw _,?_⟩
  ·have hnn:news=[]:=by simpa using hnl
   subst hnn
   have hN':Nat.min ([]:List (List AV)).length 0=0:=rfl
   have hf:(Builtin.firstCells sz 0 (.slice A' 0 cx)).run P w.toWorld=.ok #[] w.toWorld:=hf
   cases A<;>simp [builtin,Builtin.copy_,run_underlying hu,Builtin.lenOf,sizeOf,typeInfo,hi,hisz,hf,storeCells,goInt]
  ·refine { hw with rows:=fun j r hj=>?_,dom:=fun j q z hz=>?_ }
   ·rw [Hp.get_put] at hj
    split at hj
    ·rename_i e;subst e;exact hw.rows j r (by rw [hd];exact hj)
    ·exact hw.rows j r hj
   ·rw [Hp.get_put]
    split
    ·rename_i e;subst e;obtain ⟨r,g1,g2⟩:=hw.dom j q z hz;rw [hd] at g1;cases g1;exact ⟨_,rfl,g2⟩
    ·exact hw.dom j q z hz
  ·exact { Ext.refl w H with base:=rfl }
 | rs _ _ _ _ b t' cap hnm hct hle hs0=>
  subst hN
  obtain ⟨_,z',hz',hrow⟩:=hw.rows d _ hd
  have:z'=.at b t' sz:=by have hz':w.nm d css.length=some z':=hz';rw [hnm] at hz';cases hz';rfl
  subst this
  obtain ⟨_,cur,hh,⟨hcs,hcl⟩,hcr⟩:=hrow
  have hcl:css.flatten.length≤t':=hcl
  have hcap:css.length≤cap:=by
   rw [hcfl,← hct] at hcl
   exact Nat.le_of_mul_le_mul_right hcl h0
  have hfit':0+ys.flatten.length≤t':=by
   rw [hfl,Nat.zero_add,← hct];exact Nat.mul_le_mul_right _ (Nat.le_trans hle' hcap)
  obtain ⟨w',hrun,g1,g2,g3⟩:=jcj (P:=P) (off:=0) (r':=.vec e sz (jfw css 0 ys)) hw hd hnm hnews hones hfit' rfl rfl rfl rfl (by show css.length≤(jfw css 0 ys).length;rw [hl2];omega) ⟨h0,hlen'⟩ (by show (jfw css 0 ys).flatten.length≤t';rw [jaK hlen',hl2,← hct];exact Nat.mul_le_mul_right _ (Nat.max_le.2 ⟨hcap,by omega⟩)) (fun p u hp=>by
   have hp:(jfw css 0 ys).flatten[p]?=some u:=hp
   unfold jfw at hp
   rw [List.flatten_append,List.flatten_append] at hp
   show if _ then _ else css.flatten[p]?=some u
   simp only [List.take_zero,List.flatten_nil,List.nil_append,Nat.zero_add] at hp
   rcases Nat.lt_or_ge p (0+ys.flatten.length) with h' | h'
   ·rw [if_pos ⟨Nat.zero_le _,h'⟩]
    rw [List.getElem?_append_left (by omega)] at hp
    exact hp
   ·rw [if_neg (by omega)]
    rw [List.getElem?_append_right (by omega)] at hp
    have e2:css.flatten=(css.take ys.length).flatten++(css.drop ys.length).flatten:=by rw [← List.flatten_append,List.take_append_drop]
    have e3:(css.take ys.length).flatten.length=ys.flatten.length:=by rw [jaK fun c hc=>hok.2 c (List.mem_of_mem_take hc),List.length_take,Nat.min_eq_left hle',hfl]
    rw [e2,List.getElem?_append_right (by omega),e3]
    exact hp)
  refine ⟨w',_,_,.int .i64 ys.length,?_,hk,g1,.raw _,g2⟩
  simp [builtin,Builtin.copy_,run_underlying hu,Builtin.lenOf,sizeOf,typeInfo,hi,hisz,hmn,hf,hrun,goInt]
theorem mkF {P:Program} {ev:Operand→AV} {H:Hp} {ty:TypeId} {K:AV→Hp→Prop} {q:Prop} (i:Nat) {t et:TypeId} {sz n:Nat} {zs:List Value} {l c:Operand} (k:q) (hl:ev l=.raw (.int .i64 (n:Int)):=by rfl) (hc:ev c=.raw (.int .i64 (n:Int)):=by rfl) (ht:elT P t=some et:=by (simp only [go_sem];rfl)) (hs:jct P et=some sz:=by (simp only [go_sem];rfl)) (hz:jbK P et=some zs:=by (simp only [go_sem];rfl)) (hzl:zs.length=sz:=by rfl) (h0:0 < sz:=by decide) (hr:room (jcc P et) n:=by (simp only [go_sem];omega)) (hi:H.get i=none:=by first | rfl | exact sm_)
  (e:K (.rs i n sz n) (H.put i (.vec et sz (List.replicate n (zs.map .raw))))=q:=by exact rf_):jhh P (.makeSlice t l c) ty ev H K:=mkS i k hl hc ht hs hz hzl h0 hr hi e
theorem cmq {f:FuncId} {args:List AV} {l:List (Nat×Row)} {r0:AV} {R:AV→Prop} {q:Prop} (hc:ACalls P f args l fun r l'=>r=r0∧l'=l) (k:q) (h1:fits l H:=by exact sm_) (h0:jab P f=true:=by exact sm_) (h2:jaB (fun i=>(ids l).contains i) args=true:=by exact sm_) (h3:jtU (fun i=>(ids l).contains i) l:=by exact sm_)
 (h4:fresh (ids l) H l:=by exact sm_) (h5:(ids l).Nodup:=by exact sm_) (he:(⟨H.B,je6 H.l l⟩:Hp)=H:=by exact rf_) (e:R r0=q:=by exact rf_):∃ r,(jbm P (.raw (.func (.func f) #[] #[])) args H fun r' H'=>r'=r∧H'=H)∧R r:=⟨r0,jbQ h0 (jer hc h1 h2 h3 h4 h5 ⟨rfl,he⟩),e ▸ k⟩
end Go.Gd
