/- What single operations make of abstract values: loads, stores, addresses, numbers, texts. Quiet operations: what each asks and gives, as a pair reckoned from abstract operands, and that it is so. Structs of numbers, texts and bools held against each other. That quiet operations give what is reckoned of them. No conditions. -/
import Derived.Test.YtfkgcobaheegbaaGreatDoorGdB
import Derived.Laws.Slices
import Derived.WalkKit
import Derived.Laws.StructEq
set_option linter.all false
namespace Go.Gd
open Go
def jct (P:Program) (t:TypeId):Option Nat:=(P.info? t).map (·.size)
def jaM (P:Program) (t:TypeId):Option Bool:=(P.underlying t).map fun | .struct _ | .array _ _=>true | _=>false
def jck (P:Program) (t:TypeId) (f:Nat):Option Nat:=match P.underlying t with
 | some (.struct fs)=>match fs[f]? with
  | some fd=>match jct P fd.type with
   | some (_+1)=>some fd.offset
   | _=>none
  | none=>none
 | _=>none
def elT (P:Program) (t:TypeId):Option TypeId:=match P.underlying t with
 | some (.slice e)=>some e
 | _=>none
def jbK (P:Program) (t:TypeId):Option (List Value):=((P.info? t).bind (·.zero)).map fun v=>v.cells.toList
def AV.one:AV→Bool
 | .raw v=>v.oneCell'
 | .sl ..=>true
 | .ip _=>true
 | .pt ..=>true
 | .rs ..=>true
 | .rv ..=>true
 | .mr _=>true
 | .clo ..=>true
 | .bd ..=>true
 | .ifc ..=>true
 | _=>false
def ones (l:List AV):Bool:=l.all AV.one
def AV.cells:AV→List AV
 | .agg cs=>cs
 | .raw (.agg vs)=>vs.toList.map .raw
 | v=>[v]
def jja (sz:Nat) (css:List (List AV)):Prop:=∀ cs∈css,cs.length=sz∧ones cs=true
def jdf (H:Hp):AV→Option (Prop×List AV)
 | .ip cs=>some (True,cs)
 | .pt i m k j=>match H.get i with
  | some (.var _ cs)=>some (m=0,cs.drop j)
  | some (.vec _ _ css)=>some (m=css.length∧k < css.length,(css.getD k []).drop j)
  | some (.mp _ _)=>none
  | none=>none
 | _=>none
theorem jaK {sz:Nat}:∀ {l:List (List AV)},(∀ x∈l,x.length=sz)→l.flatten.length=l.length * sz
 | [],_=>by simp
 | x::l,h=>by
  have ih:=jaK (l:=l) (fun y hy=>h y (by simp [hy]))
  have hx:=h x (by simp)
  simp only [List.flatten_cons,List.length_append,hx,ih,List.length_cons,Nat.add_mul,Nat.one_mul]
  omega
theorem jbI {sz:Nat}:∀ {l:List (List AV)} {i j:Nat},(∀ x∈l,x.length=sz)→i < l.length→j < sz→l.flatten[i * sz+j]?=(l.getD i [])[j]?
 | [],i,j,_,h,_=>by simp at h
 | x::l,i,j,hx,hi,hj=>by
  have hxl:=hx x (by simp)
  cases i with
  | zero=>simp only [List.flatten_cons,Nat.zero_mul,Nat.zero_add,List.getD_cons_zero];rw [List.getElem?_append_left (by omega)]
  | succ i=>
   simp only [List.flatten_cons,List.getD_cons_succ]
   rw [List.getElem?_append_right (by rw [Nat.add_mul];omega),hxl,show (i+1) * sz+j - sz=i * sz+j by rw [Nat.add_mul];omega]
   exact jbI (fun y hy=>hx y (by simp [hy])) (by simpa using hi) hj
theorem jnx {i j n sz:Nat} (hi:i < n) (hj:j < sz):i * sz+j < n * sz:=by
 have:=Nat.mul_le_mul_right sz (show i+1≤n from hi)
 rw [Nat.add_mul] at this;omega
theorem jdP {k n sz:Nat} (h:k < n * sz):∃ i j,i < n∧j < sz∧k=i * sz+j:=by
 have hz:0 < sz:=by rcases Nat.eq_zero_or_pos sz with rfl | h'<;>simp_all
 exact ⟨k / sz,k % sz,by rw [Nat.div_lt_iff_lt_mul hz];exact h,Nat.mod_lt _ hz,by rw [Nat.mul_comm];exact (Nat.div_add_mod k sz).symm⟩
theorem jeK {sz:Nat} {css:List (List AV)} (h:∀ cs∈css,cs.length=sz) {k:Nat} (hk:k < css.length):(css.getD k []).length=sz:=by
 have:css.getD k []=css[k]:=by simp [hk]
 rw [this];exact h _ (List.getElem_mem hk)
section
variable {P:Program} {w:NW} {H:Hp}
theorem RelV.one {a:AV} {v:Value} (h:RelV w a v) (h1:a.one=true):v.oneCell'=true:=by
 cases h<;>first | exact h1 | rfl | simp [AV.one] at h1
theorem jgk {w:World} (g i:Nat) (cur:Array Value) (t:TypeId) (fr:Nat×Nat) (hg:w.heap[g]?=some (.cells cur t fr)):w.cell? ⟨g,i,none⟩=cur[i]?:=by simp [World.cell?,hg]
theorem jhQ {a:AV} {va:Value} {c:Prop} {cs:List AV} (h:RelV w a va) (hw:RelW w H) (hc:jdf H a=some (c,cs)) (hcc:c) :
  ∃ (ad:Addr) (vs:Nat→Value),va=.pointer (some ad)∧(∀ j,j < cs.length→w.cell? (ad.add j)=some (vs j))∧∀ (j:Nat) u,cs[j]?=some u→RelV w u (vs j):=by
 unfold jdf at hc
 split at hc
 ·cases hc
  cases h with
  | ip _ ad vs hb hH hcell hr=>exact ⟨ad,vs,rfl,hcell,fun j u hu=>(hr j u hu).dress⟩
 ·rename_i i m k j
  cases h with
  | pt _ _ _ _ b t s hn=>
  split at hc
  ·rename_i ty cs' hi
   cases hc
   subst hcc
   obtain ⟨hok,z,hz,hrow⟩:=hw.rows i _ hi
   have:z=.at b t s:=by have hz:w.nm i 0=some z:=hz;rw [hn] at hz;cases hz;rfl
   subst this
   obtain ⟨rfl,cur,hh,⟨hs,hl⟩,hr⟩:=hrow
   have hsr:(Row.var ty cs').stride=0:=rfl
   refine ⟨⟨b,k * (Row.var ty cs').stride+j,none⟩,fun q=>cur.getD (j+q) undef,rfl,fun q hq=>?_,fun q u hu=>?_⟩
   ·rw [jbr,hsr,Nat.mul_zero,Nat.zero_add,jgk b _ cur _ (0,0) hh]
    simp only [List.length_drop] at hq
    have hl:cs'.length≤t:=hl
    have:j+q < cur.size:=by omega
    simp [this]
   ·rw [List.getElem?_drop] at hu
    have hlt:j+q < cs'.length:=(List.getElem?_eq_some_iff.1 hu).1
    have hl:cs'.length≤t:=hl
    have:j+q < cur.size:=by omega
    exact hr _ _ _ hu (by simp [this])
  ·rename_i e sz css hi
   cases hc
   obtain ⟨rfl,hk⟩:=hcc
   obtain ⟨hok,z,hz,hrow⟩:=hw.rows i _ hi
   have:z=.at b t s:=by have hz:w.nm i css.length=some z:=hz;rw [hn] at hz;cases hz;rfl
   subst this
   obtain ⟨hs_,cur,hh,⟨hs,hl⟩,hr⟩:=hrow
   have hs_:sz=s:=hs_.symm
   subst hs_
   have hsr:(Row.vec e sz css).stride=sz:=rfl
   have hlen:=jeK hok.2 hk
   have hfl:(Row.vec e sz css).cells.length=css.length * sz:=jaK hok.2
   refine ⟨⟨b,k * sz+j,none⟩,fun q=>cur.getD (k * sz+(j+q)) undef,rfl,fun q hq=>?_,fun q u hu=>?_⟩
   ·simp only [List.length_drop,hlen] at hq
    rw [jbr,jgk b _ cur _ (0,0) hh]
    have:=jnx hk (show j+q < sz by omega)
    have:k * sz+(j+q) < cur.size:=by omega
    rw [Nat.add_assoc]
    simp [this]
   ·rw [List.getElem?_drop] at hu
    have hlt:j+q < sz:=by have:=(List.getElem?_eq_some_iff.1 hu).1;omega
    have h3:=jnx hk hlt
    refine hr (k * sz+(j+q)) u _ ?_ ?_
    ·show css.flatten[k * sz+(j+q)]?=some u
     rw [jbI hok.2 hk hlt];exact hu
    ·have:k * sz+(j+q) < cur.size:=by omega
     simp [this]
  ·cases hc
  ·cases hc
 ·cases hc
theorem jdZ {w:World} {t:TypeId} {b:Bool} (h:jaM P t=some b):(isAgg t).run P w=.ok b w:=by
 unfold jaM at h
 cases hu:P.underlying t with
 | none=>rw [hu] at h;cases h
 | some d=>
  rw [hu] at h
  simp only [Option.map_some,Option.some.injEq] at h
  simp only [isAgg,Sem.run_bind,run_underlying hu,Result.andThen_ok]
  subst h
  cases d<;>rfl
theorem jaT {w:World} {t:TypeId} {k:Nat} (h:jct P t=some k):(sizeOf t).run P w=.ok k w:=by
 unfold jct at h
 cases hi:P.info? t with
 | none=>rw [hi] at h;cases h
 | some i=>
  rw [hi] at h
  simp only [Option.map_some,Option.some.injEq] at h
  simp [sizeOf,typeInfo,hi,h]
def jib (ag:Bool) (k:Nat) (cs:List AV):AV:=if ag then .agg (cs.take k) else cs.getD 0 .any
theorem jfS {t:TypeId} {ad:Addr} {cs:List AV} {vs:Nat→Value} {ag:Bool} {k:Nat} (hag:jaM P t=some ag) (hsz:jct P t=some k) (hk:k≤cs.length) (hk1:1≤cs.length)
  (hcell:∀ j,j < cs.length→w.cell? (ad.add j)=some (vs j)) (hr:∀ (j:Nat) u,cs[j]?=some u→RelV w u (vs j)) :
  ∃ v,(loadVar t ad).run P w.toWorld=.ok v w.toWorld∧RelV w (jib ag k cs) v:=by
 simp only [loadVar,Sem.run_bind,jdZ hag,Result.andThen_ok]
 cases ag with
 | false=>
  simp only [Bool.false_eq_true,if_false,jib]
  have h0:=hcell 0 (by omega)
  rw [jkP] at h0
  refine ⟨vs 0,by rw [run_load];simp [h0],?_⟩
  have:cs[0]?=some (cs.getD 0 .any):=by simp [List.getElem?_eq_getElem (show 0 < cs.length by omega)]
  exact hr 0 _ this
 | true=>
  simp only [if_true,jib]
  simp only [Sem.run_bind,jaT hsz,Result.andThen_ok,run_loadCells w.toWorld ad k vs (fun j hj=>hcell j (by omega)),Sem.run_pure]
  refine ⟨_,rfl,.agg _ _ (by simp;omega) fun i a v ha hv=>?_⟩
  have hi:i < k:=by
   have:=(List.getElem?_eq_some_iff.1 ha).1
   simp at this;omega
  rw [List.getElem?_take,if_pos hi] at ha
  have hv':v=vs i:=by
   have:(List.map vs (List.range k)).toArray[i]?=some (vs i):=by simp [hi]
   rw [this] at hv
   cases hv;rfl
  subst hv'
  exact hr i a ha
theorem jg3 {t:TypeId} {a:AV} {va:Value} {c:Prop} {cs:List AV} {ag:Bool} {k:Nat} (h:RelV w a va) (hw:RelW w H) (hc:jdf H a=some (c,cs)) (hcc:c) (hag:jaM P t=some ag) (hsz:jct P t=some k) (hk:k≤cs.length) (hk1:1≤cs.length) :
  ∃ v,(Instr.loadAt t va).run P w.toWorld=.ok v w.toWorld∧RelV w (jib ag k cs) v:=by
 obtain ⟨ad,vs,rfl,hcell,hr⟩:=jhQ h hw hc hcc
 obtain ⟨v,h1,h2⟩:=jfS hag hsz hk hk1 hcell hr
 exact ⟨v,by simpa [Instr.loadAt,Instr.sureAddr] using h1,h2⟩
theorem RelV.cells_rel {a:AV} {v:Value} (h:RelV w a v) (h1:ones a.cells=true):RelL w a.cells v.cells.toList:=by
 unfold AV.cells at *
 split
 ·rename_i cs
  cases h with
  | agg _ vs hl hr=>exact ⟨by simpa [Value.cells] using hl,fun i a v ha hv=>hr i a v ha (by simpa [Value.cells] using hv)⟩
 ·rename_i vs
  cases h
  refine ⟨by simp [Value.cells],fun i a v ha hv=>?_⟩
  simp only [List.getElem?_map,Option.map_eq_some_iff] at ha
  obtain ⟨x,hx,rfl⟩:=ha
  simp only [Value.cells] at hv
  rw [hx] at hv
  cases hv
  exact .raw _
 ·rename_i hna hnr
  have h1':a.one=true:=by simpa [ones] using h1
  have ho:=h.one h1'
  have hcv:v.cells=#[v]:=by
   cases v<;>first | rfl | simp [Value.oneCell'] at ho
  rw [hcv]
  refine ⟨rfl,fun i a' v' ha hv=>?_⟩
  cases i with
  | zero=>simp at ha hv;subst ha hv;exact h
  | succ i=>simp at ha
theorem RelL.ones {cs:List AV} {vs:List Value} (h:RelL w cs vs) (h1:ones cs=true):∀ v∈vs,v.oneCell'=true:=by
 intro v hv
 obtain ⟨i,hi⟩:=List.getElem?_of_mem hv
 have hlt:i < cs.length:=by rw [h.1];exact (List.getElem?_eq_some_iff.1 hi).1
 have:=h.2 i cs[i] v (List.getElem?_eq_getElem hlt) hi
 exact this.one (by simp only [Gd.ones,List.all_eq_true] at h1;exact h1 _ (List.getElem_mem hlt))
def jb9 (cells:List AV) (off:Nat) (new:List AV):List AV:=cells.take off++new++cells.drop (off+new.length)
theorem jf9 {cells new:List AV} {off:Nat} (h:off+new.length≤cells.length):(jb9 cells off new).length=cells.length:=by
 simp [jb9];omega
theorem jjF {cells new:List AV} {off p:Nat} (h:off≤cells.length):(jb9 cells off new)[p]?=if off≤p∧p < off+new.length then new[p - off]? else cells[p]?:=by
 unfold jb9
 rcases Nat.lt_or_ge p off with h1 | h1
 ·rw [if_neg (by omega),List.append_assoc,List.getElem?_append_left (by simp;omega),List.getElem?_take,if_pos h1]
 ·rcases Nat.lt_or_ge p (off+new.length) with h2 | h2
  ·rw [if_pos ⟨h1,h2⟩,List.append_assoc,List.getElem?_append_right (by simp;omega),List.getElem?_append_left (by simp;omega)]
   congr 1;simp;omega
  ·rw [if_neg (by omega),List.getElem?_append_right (by simp;omega)]
   simp only [List.length_append,List.length_take,List.getElem?_drop]
   congr 1;omega
theorem jcj {i b t off:Nat} {r r':Row} {new:List AV} {vs:List Value} (hw:RelW w H) (hi:H.get i=some r) (hnm:w.nm i r.ver=some (.at b t r.stride)) (hn:RelL w new vs) (h1:Gd.ones new=true) (hfit:off+new.length≤t)
  (hi1:r.isC=true) (hi2:r'.isC=true) (hs:r'.stride=r.stride) (he:r'.elem=r.elem) (hv:r.ver≤r'.ver) (hok:r'.ok) (hle:r'.cells.length≤t) (hcells:∀ (p:Nat) a,r'.cells[p]?=some a→if off≤p∧p < off+new.length then new[p - off]?=some a else r.cells[p]?=some a) :
  ∃ w':NW,(storeCells ⟨b,off,none⟩ vs).run P w.toWorld=.ok () w'.toWorld∧RelW w' (H.put i r')∧Ext w H w' (H.put i r')∧w'.nm i r'.ver=some (.at b t r.stride):=by
 obtain ⟨_,z,hz,hrow⟩:=hw.rows i r hi
 rw [hnm] at hz
 cases hz
 obtain ⟨_,cur,hh,hfit',hr⟩:=hrow
 rw [Row.fit_c hi1] at hfit'
 obtain ⟨hsz,hl⟩:=hfit'
 rw [Row.obj_c hi1] at hh
 have hlen:=hn.1
 have hrun:=run_storeCells_at P b off r.elem vs 0 cur w.toWorld hh (by omega) (hn.ones h1)
 rw [Nat.add_zero] at hrun
 generalize hcur:(cur.toList.take off++vs++cur.toList.drop (off+vs.length)).toArray=cur' at hrun
 have hsz':cur'.size=t:=by
  subst hcur
  simp
  omega
 have hheap:(w.toWorld.setRow b cur').heap[b]?=some (.cells cur' r.elem (0,0)):=setRow_heap w.toWorld b cur cur' r.elem (0,0) hh
 have hoth:∀ c,c≠b→(w.toWorld.setRow b cur').heap[c]?=w.heap[c]?:=fun c hc=>setRow_other w.toWorld b c cur' hc
 have hsame:(w.toWorld.setRow b cur').heap.size=w.heap.size:=size_setRow w.toWorld b cur'
 obtain ⟨g1,g2⟩:=jls (W:=w.toWorld.setRow b cur') hw hi hnm hs hv hok rfl rfl rfl hsame hoth cur' (by rw [Row.obj_c hi2,he];exact hheap) (by rw [Row.fit_c hi2];exact ⟨hsz',hle⟩) (fun p a v ha hv=>by
  have hp:=hcells p a ha
  have hpl:p < t:=by have:=(List.getElem?_eq_some_iff.1 ha).1;omega
  subst hcur
  simp only [List.getElem?_toArray] at hv
  split at hp
  ·rename_i hin
   rw [List.append_assoc,List.getElem?_append_right (by simp;omega),List.getElem?_append_left (by simp;omega)] at hv
   simp only [List.length_take,Array.length_toList] at hv
   rw [show p - min off cur.size=p - off by omega] at hv
   exact hn.2 _ a v hp hv
  ·rename_i hin
   refine hr p a v hp ?_
   rcases Nat.lt_or_ge p off with h1 | h1
   ·rw [List.append_assoc,List.getElem?_append_left (by simp;omega),List.getElem?_take,if_pos h1] at hv
    simpa using hv
   ·rw [List.getElem?_append_right (by simp;omega)] at hv
    simp only [List.length_append,List.length_take,Array.length_toList,List.getElem?_drop] at hv
    rw [show off+vs.length+(p - (min off cur.size+vs.length))=p by omega] at hv
    simpa using hv)
 exact ⟨_,hrun,g1,g2,NW.name_same _ _ _ _⟩
def joj (r:Row) (k j:Nat) (new:List AV):Row:=match r with
 | .var t cs=>.var t (jb9 cs j new)
 | .vec e sz css=>.vec e sz (css.set k (jb9 (css.getD k []) j new))
 | .mp ks vs=>.mp ks vs
def jkF (r:Row) (m k j n:Nat):Prop:=match r with
 | .var _ cs=>m=0∧j+n≤cs.length
 | .vec _ _ css=>m=css.length∧k < css.length∧j+n≤(css.getD k []).length
 | .mp _ _=>False
theorem jkG {ty:TypeId} {i m k j n:Nat} {r:Row} {x:AV} {v va:Value} (hw:RelW w H) (ha:RelV w (.pt i m k j) va) (hi:H.get i=some r) (hx:RelV w x v) (h1:Gd.ones x.cells=true) (hsz:jct P ty=some n) (hn:x.cells.length=n) (hst:jkF r m k j n) :
  ∃ w':NW,(Instr.storeAt ty va v).run P w.toWorld=.ok () w'.toWorld∧RelW w' (H.put i (joj r k j x.cells))∧Ext w H w' (H.put i (joj r k j x.cells)):=by
 have hc:=hx.cells_rel h1
 have hsize:v.cells.size=n:=by have:=hc.1;simp at this;omega
 have run:∀ {W:World} (b off:Nat),(storeCells ⟨b,off,none⟩ v.cells.toList).run P w.toWorld=.ok () W→(Instr.storeAt ty (.pointer (some ⟨b,off,none⟩)) v).run P w.toWorld=.ok () W:=fun b off hrun=>by
  simp only [Instr.storeAt,Instr.sureAddr,pure_bind,storeVar,Sem.run_bind,jaT hsz,Result.andThen_ok,hsize,ne_eq,not_true_eq_false,if_false]
  simpa using hrun
 obtain ⟨hok,z,hz,hrow⟩:=hw.rows i r hi
 cases ha with
 | pt _ _ _ _ b t s hnm=>
 cases r with
 | var ty' cs=>
  obtain ⟨rfl,hfit⟩:=hst
  have hz:w.nm i 0=some z:=hz
  rw [hnm] at hz;cases hz
  obtain ⟨rfl,cur,hh,⟨hsz',hl⟩,hr⟩:=hrow
  have hl:cs.length≤t:=hl
  have hs0:(Row.var ty' cs).stride=0:=rfl
  have hsp:=jf9 (cells:=cs) (new:=x.cells) (off:=j) (by omega)
  obtain ⟨w',hrun,g1,g2,_⟩:=jcj (P:=P) (off:=j) (r':=.var ty' (jb9 cs j x.cells)) hw hi hnm hc h1 (by omega) rfl rfl rfl rfl (Nat.le_refl _) trivial (by show (jb9 cs j x.cells).length≤t;omega) (fun p a hp=>by
   have hp:(jb9 cs j x.cells)[p]?=some a:=hp
   rw [jjF (by omega)] at hp
   split at hp
   ·rename_i h;rw [if_pos h];exact hp
   ·rename_i h;rw [if_neg h];exact hp)
  refine ⟨w',run _ _ ?_,g1,g2⟩
  rw [hs0,Nat.mul_zero,Nat.zero_add];exact hrun
 | vec e sz css=>
  obtain ⟨rfl,hk,hfit⟩:=hst
  have hz:w.nm i css.length=some z:=hz
  rw [hnm] at hz;cases hz
  obtain ⟨hs_,cur,hh,⟨hsz',hl⟩,hr⟩:=hrow
  have hs_:sz=s:=hs_.symm
  subst hs_
  have hs0:(Row.vec e sz css).stride=sz:=rfl
  have hlen:=jeK hok.2 hk
  have hfl:(Row.vec e sz css).cells.length=css.length * sz:=jaK hok.2
  have hlt:j+n≤sz:=by omega
  have hmul:=Nat.mul_le_mul_right sz (show k+1≤css.length from hk)
  rw [Nat.add_mul,Nat.one_mul] at hmul
  have hsp:=jf9 (cells:=css.getD k []) (new:=x.cells) (off:=j) (by omega)
  have hok':∀ cs∈css.set k (jb9 (css.getD k []) j x.cells),cs.length=sz:=fun cs h=>by
   rcases List.mem_or_eq_of_mem_set h with h | h
   ·exact hok.2 _ h
   ·rw [h,hsp,hlen]
  have hfl':(css.set k (jb9 (css.getD k []) j x.cells)).flatten.length=css.length * sz:=by rw [jaK hok',List.length_set]
  obtain ⟨w',hrun,g1,g2,_⟩:=jcj (P:=P) (off:=k * sz+j) (r':=.vec e sz (css.set k (jb9 (css.getD k []) j x.cells))) hw hi hnm hc h1 (by omega) rfl rfl rfl rfl (by show css.length≤(css.set _ _).length;simp) ⟨hok.1,hok'⟩ (by show (List.flatten _).length≤t;omega) (fun p a hp=>by
   have hp:(css.set k (jb9 (css.getD k []) j x.cells)).flatten[p]?=some a:=hp
   have hpl:p < css.length * sz:=by have:=(List.getElem?_eq_some_iff.1 hp).1;omega
   obtain ⟨q,l,hq,hl',rfl⟩:=jdP hpl
   rw [jbI hok' (by simpa using hq) hl'] at hp
   show if k * sz+j≤q * sz+l∧q * sz+l < k * sz+j+x.cells.length then _ else css.flatten[q * sz+l]?=some a
   rw [jbI hok.2 hq hl']
   by_cases e':q=k
   ·subst e'
    have e1:(css.set q (jb9 (css.getD q []) j x.cells)).getD q []=jb9 (css.getD q []) j x.cells:=by simp [hk]
    rw [e1,jjF (by omega)] at hp
    split at hp
    ·rename_i h
     rw [if_pos (by omega),show q * sz+l - (q * sz+j)=l - j by omega];exact hp
    ·rename_i h
     rw [if_neg (by omega)];exact hp
   ·have e1:(css.set k (jb9 (css.getD k []) j x.cells)).getD q []=css.getD q []:=by simp [List.getElem?_set,Ne.symm e']
    rw [e1] at hp
    rw [if_neg]
    ·exact hp
    ·rintro ⟨h1,h2⟩
     apply e'
     rcases Nat.lt_trichotomy q k with h | h | h
     ·have:=Nat.mul_le_mul_right sz (show q+1≤k from h)
      rw [Nat.add_mul] at this;omega
     ·exact h
     ·have:=Nat.mul_le_mul_right sz (show k+1≤q from h)
      rw [Nat.add_mul] at this;omega)
  exact ⟨w',run _ _ hrun,g1,g2⟩
 | mp ks vs=>exact hst.elim
theorem jlk {t:TypeId} {x:AV} {v:Value} {i:Nat} (hw:RelW w H) (hi:H.get i=none) (hx:RelV w x v) (h1:Gd.ones x.cells=true) :
  ∃ (u:Value) (w':NW),(Instr.box t v).run P w.toWorld=.ok u w'.toWorld∧RelV w' (.pt i 0 0 0) u∧RelW w' (H.put i (.var t x.cells))∧Ext w H w' (H.put i (.var t x.cells)):=by
 have hc:=hx.cells_rel h1
 have hlen:x.cells.length=v.cells.size:=by have:=hc.1;simpa using this
 obtain ⟨g1,g2⟩:=jgA (row:=.var t x.cells) hw (hw.none hi _) (fun r' hr=>by rw [hi] at hr;cases hr) trivial v.cells ⟨rfl,by show x.cells.length≤_;omega⟩ (fun k a u ha hu=>hc.2 k a u ha (by simpa using hu))
 refine ⟨.pointer (some ⟨w.heap.size,0,none⟩),_,by simp [Instr.box,newVar,newRow];rfl,?_,g1,g2⟩
 have:=RelV.pt (w:=((w.to (w.alloc ((Row.var t x.cells).obj v.cells))).seize w.heap.size).name i (Row.var t x.cells).ver (.at w.heap.size v.cells.size (Row.var t x.cells).stride)) i 0 0 0 w.heap.size v.cells.size 0 (NW.name_same _ _ _ _)
 simpa using this
theorem je3 {w:World} {t:TypeId} {zs:List Value} (h:jbK P t=some zs):∃ z:Value,(zeroValue t).run P w=.ok z w∧z.cells.toList=zs:=by
 unfold jbK at h
 cases hi:P.info? t with
 | none=>rw [hi] at h;cases h
 | some i=>
  rw [hi] at h
  simp only [Option.bind_some,Option.map_eq_some_iff] at h
  obtain ⟨z,hz,rfl⟩:=h
  exact ⟨z,by simp [zeroValue,typeInfo,hi,hz],rfl⟩
theorem jl6 {t:TypeId} {zs:List Value} {i:Nat} (hw:RelW w H) (hi:H.get i=none) (hz:jbK P t=some zs) :
  ∃ (u:Value) (w':NW),(Instr.alloc t true (.tuple #[])).run P w.toWorld=.ok u w'.toWorld∧RelV w' (.pt i 0 0 0) u∧RelW w' (H.put i (.var t (zs.map .raw)))∧Ext w H w' (H.put i (.var t (zs.map .raw))):=by
 obtain ⟨z,hrun,rfl⟩:=je3 (w:=w.toWorld) hz
 obtain ⟨g1,g2⟩:=jgA (row:=.var t (z.cells.toList.map .raw)) hw (hw.none hi _) (fun r' hr=>by rw [hi] at hr;cases hr) trivial z.cells ⟨rfl,by show (z.cells.toList.map AV.raw).length≤_;simp⟩ (fun k a u ha hu=>by
  have ha:(z.cells.toList.map AV.raw)[k]?=some a:=ha
  simp only [List.getElem?_map,Array.getElem?_toList,hu,Option.map_some,Option.some.injEq] at ha
  subst ha
  exact .raw _)
 refine ⟨.pointer (some ⟨w.heap.size,0,none⟩),_,by simp [Instr.alloc,hrun,newVar,newRow];rfl,?_,g1,g2⟩
 have:=RelV.pt (w:=((w.to (w.alloc ((Row.var t (z.cells.toList.map .raw)).obj z.cells))).seize w.heap.size).name i (Row.var t (z.cells.toList.map .raw)).ver (.at w.heap.size z.cells.size (Row.var t (z.cells.toList.map .raw)).stride)) i 0 0 0 w.heap.size z.cells.size 0 (NW.name_same _ _ _ _)
 simpa using this
end
abbrev PA:=Prop×AV
def jfq:PA:=(False,.any)
def jhL (P:Program) (w:NW) (s:Sem Value) (q:PA):Prop:=q.1→∃ v,s.run P w.toWorld=.ok v w.toWorld∧RelV w q.2 v
theorem jpZ {P:Program} {w:NW} {s:Sem Value}:jhL P w s jfq:=fun h=>h.elim
def unG:AV→Bool×AV
 | .gd p v=>(p,v)
 | v=>(true,v)
def jxr (c x y:Bool):Bool:=if c then x else y
def jfX (c a b:AV):PA:=match c,unG a,unG b with
 | .raw (.bool c),(pa,.raw (.bool x)),(pb,.raw (.bool y))=>((c=true→pa=true)∧(c=false→pb=true),.raw (.bool (jxr c x y)))
 | _,_,_=>jfq
def jqG:AV→PA
 | .ip cs=>(True,.ip cs)
 | .pt i m k j=>(True,.pt i m k j)
 | .raw (.pointer (some a))=>(True,.raw (.pointer (some a)))
 | .raw (.func (.func f) x y)=>(True,.raw (.func (.func f) x y))
 | .raw (.iface t v)=>(True,.raw (.iface t v))
 | .raw (.slice a n c)=>(True,.raw (.slice a n c))
 | .raw (.map (some r))=>(True,.raw (.map (some r)))
 | _=>jfq
def j4h (k:IntKind) (n:Int):AV:=.raw (.int k n)
def j7r (b:Bool):AV:=.raw (.bool b)
def jdK (op:BinOp) (k:IntKind) (x y:Int):Int:=
 let a:=BitVec.ofInt k.bits x
 let b:=BitVec.ofInt k.bits y
 match op with
 | .and=>k.wrap (a &&& b).toNat
 | .or=>k.wrap (a ||| b).toNat
 | .xor=>k.wrap (a ^^^ b).toNat
 | _=>k.wrap (a &&& ~~~b).toNat
def jzQ (op:BinOp) (k:IntKind) (a:Int) (k':IntKind) (b:Int):PA:=match op with
 | .add=>(k=k',.raw (.int k (k.wrap (a+b))))
 | .sub=>(k=k',.raw (.int k (k.wrap (a - b))))
 | .mul=>(k=k',.raw (.int k (k.wrap (a * b))))
 | .quo=>(k=k'∧b≠0,.raw (.int k (k.wrap (a.tdiv b))))
 | .rem=>(k=k'∧b≠0,.raw (.int k (a.tmod b)))
 | .and=>(k=k',.raw (.int k (jdK .and k a b)))
 | .or=>(k=k',.raw (.int k (jdK .or k a b)))
 | .xor=>(k=k',.raw (.int k (jdK .xor k a b)))
 | .andNot=>(k=k',.raw (.int k (jdK .andNot k a b)))
 | .shl=>(0≤b,.raw (.int k (k.wrap (a * 2 ^ (min b.toNat k.bits)))))
 | .shr=>(0≤b,.raw (.int k (a.fdiv (2 ^ (min b.toNat k.bits)))))
 | .eql=>(k=k',.raw (.bool (decide (a=b))))
 | .neq=>(k=k',.raw (.bool (!decide (a=b))))
 | .lss=>(k=k',.raw (.bool (decide (a < b))))
 | .leq=>(k=k',.raw (.bool (decide (a≤b))))
 | .gtr=>(k=k',.raw (.bool (decide (b < a))))
 | .geq=>(k=k',.raw (.bool (decide (b≤a))))
def jzR (op:BinOp) (a b:ByteArray):PA:=match op with
 | .add=>(a.size+b.size≤9223372036854775807,.raw (.string (a++b)))
 | .eql=>(True,.raw (.bool (decide (a=b))))
 | .neq=>(True,.raw (.bool (!decide (a=b))))
 | .lss=>(True,.raw (.bool (Op.bytesLess a.toList b.toList)))
 | .gtr=>(True,.raw (.bool (!(Op.bytesLess a.toList b.toList || decide (a=b)))))
 | .leq=>(True,.raw (.bool (Op.bytesLess a.toList b.toList || decide (a=b))))
 | .geq=>(True,.raw (.bool (!(Op.bytesLess a.toList b.toList))))
 | _=>jfq
def eqL:List AV→List AV→Bool
 | [],[]=>true
 | .raw (.int _ a)::l,.raw (.int _ b)::m=>decide (a=b) && eqL l m
 | .raw (.string a)::l,.raw (.string b)::m=>decide (a=b) && eqL l m
 | .raw (.bool a)::l,.raw (.bool b)::m=>(a == b) && eqL l m
 | _,_=>false
def jgY (P:Program) (t:TypeId):Bool:=match P.underlying t with
 | some (.pointer _)=>true
 | _=>false
def jka (P:Program) (t:TypeId):Bool:=match P.underlying t with
 | some (.interface _)=>true
 | _=>false
def jgs (P:Program) (t:TypeId):Bool:=match P.underlying t with
 | some .bool=>true
 | _=>false
def jgZ (P:Program) (t:TypeId):Bool:=match P.underlying t with
 | some .string=>true
 | _=>false
def jaV (P:Program) (t:TypeId):Bool:=match P.underlying t with
 | some (.slice _)=>true
 | _=>false
inductive LK where
 | int (k:IntKind) | str | bool
 deriving DecidableEq
def jc4:AV→Option LK
 | .raw (.int k _)=>some (.int k)
 | .raw (.string _)=>some .str
 | .raw (.bool _)=>some .bool
 | _=>none
def jdR (P:Program) (leafK:TypeId→Option (List LK)):Nat→List Field→Option (List LK)
 | _,[]=>some []
 | off, f :: fs => if f.name ≠ "_" ∧ f.offset = off then match leafK f.type, jct P f.type with
   | some ks,some k=>if ks.length=k then (jdR P leafK (off+k) fs).map (ks++·) else none
   | _,_=>none
  else none
def jcT (P:Program):Nat→TypeId→Option (List LK)
 | 0,_=>none
 | d+1,t=>match P.underlying t with
  | some (.int k)=>some [.int k]
  | some .string=>some [.str]
  | some .bool=>some [.bool]
  | some (.struct fs)=>if P.stoodInHeld t then none else jdR P (jcT P d) 0 fs.toList
  | _=>none
def jhY (P:Program) (t:TypeId):Option (List LK):=if P.eqGuardType P.depth t then none else jcT P 8 t
def jqD (P:Program) (ne:Bool) (t:TypeId) (x y:AV):PA:=match x,y with
 | .raw (.bool a),.raw (.bool b)=>(jgs P t=true,.raw (.bool (ne ^^ (a == b))))
 | .raw (.pointer none),.raw (.pointer b)=>(jgY P t=true,.raw (.bool (ne ^^ b.isNone)))
 | .raw (.pointer (some _)),.raw (.pointer none)=>(jgY P t=true,.raw (.bool ne))
 | .ip _,.raw (.pointer none)=>(jgY P t=true,.raw (.bool ne))
 | .pt ..,.raw (.pointer none)=>(jgY P t=true,.raw (.bool ne))
 | .raw (.slice none _ _),.raw (.slice b _ _)=>(jaV P t=true,.raw (.bool (ne ^^ b.isNone)))
 | .raw (.slice (some _) _ _),.raw (.slice none _ _)=>(jaV P t=true,.raw (.bool ne))
 | .sl _ _ css _,.raw (.slice none _ _)=>(jaV P t=true∧css≠[],.raw (.bool ne))
 | .agg cs,.agg ds=>match jhY P t with
  | some ks=>(jaM P t=some true∧cs.map jc4=ks.map some∧ds.map jc4=ks.map some,.raw (.bool (ne ^^ eqL cs ds)))
  | none=>jfq
 | _,_=>jfq
def jdn (P:Program) (op:BinOp) (t:TypeId) (x y:AV):PA:=match x,y with
 | .raw (.int k a),.raw (.int k' b)=>jzQ op k a k' b
 | .raw (.string a),.raw (.string b)=>jzR op a b
 | x,y=>match op with
  | .eql=>jqD P false t x y
  | .neq=>jqD P true t x y
  | _=>jfq
def qUn (op:UnOp) (x:AV):PA:=match op,x with
 | .not,.raw (.bool b)=>(True,.raw (.bool (!b)))
 | .neg,.raw (.int k n)=>(True,.raw (.int k (k.wrap (0 - n))))
 | _,_=>jfq
def jfW (P:Program) (H:Hp) (t:TypeId) (a:AV):PA:=match jdf H a,jaM P t,jct P t with
 | some (c,cs),some true,some k=>(c∧k≤cs.length∧1≤cs.length,.agg (cs.take k))
 | some (c,cs),some false,some k=>(c∧k≤cs.length∧1≤cs.length,cs.getD 0 .any)
 | _,_,_=>jfq
def jbW (P:Program) (t:TypeId) (a:AV) (f:Nat):PA:=match a,jck P t f with
 | .ip cs,some off=>(True,.ip (cs.drop off))
 | .pt i m k j,some off=>(True,.pt i m k (j+off))
 | _,_=>jfq
def fTy (P:Program) (t:TypeId) (f:Nat):Option (TypeId×Nat):=match P.underlying t with
 | some (.struct fs)=>(fs[f]?).map fun fd=>(fd.type,fd.offset)
 | _=>none
def jsD (P:Program) (t:TypeId) (cs:List AV) (off:Nat):PA:=match jaM P t,jct P t with
 | some true,some k=>(off+k≤cs.length,.agg ((cs.drop off).take k))
 | some false,some _=>(off < cs.length,cs.getD off .any)
 | _,_=>jfq
def jg6 (P:Program) (t:TypeId) (a:AV) (f:Nat):PA:=match a,fTy P t f with
 | .agg cs,some (ft,off)=>jsD P ft cs off
 | _,_=>jfq
def jiQ (P:Program) (t:TypeId):Option Nat:=(elT P t).bind (jct P)
def joq (P:Program) (t:TypeId):Option (Nat×Nat):=match P.underlying t with
 | some (.array len e)=>(jct P e).map fun s=>(len,s)
 | _=>none
def jyo (o:Option (Nat×Nat)) (i:Int) (f:Nat→AV):PA:=match o with
 | some (len,s)=>(0≤i∧i < len,f (i.toNat * s))
 | none=>jfq
def jbX (P:Program) (t:TypeId) (a i:AV):PA:=match a,i with
 | .sl _ sz css d,.raw (.int _ i)=>(jiQ P t=some sz∧0≤i∧i < css.length,.ip (css.getD i.toNat d))
 | .rs d m sz n,.raw (.int _ i)=>(jiQ P t=some sz∧0≤i∧i < n,.pt d m i.toNat 0)
 | .rv d m sz o n,.raw (.int _ i)=>(jiQ P t=some sz∧0≤i∧i < n,.pt d m (o+i.toNat) 0)
 | .pt d m k j,.raw (.int _ i)=>jyo (joq P t) i fun o=>.pt d m k (j+o)
 | .ip cs,.raw (.int _ i)=>jyo (joq P t) i fun o=>.ip (cs.drop o)
 | _,_=>jfq
def jaL (s:ByteArray) (i:Int):Int:=((s.data[i.toNat]?.getD 0).toNat:Int)
def jg7 (P:Program) (t:TypeId) (a i:AV):PA:=match a,i with
 | .raw (.string s),.raw (.int _ i)=>(jgZ P t=true∧0≤i∧i < s.size,.raw (.int .u8 (jaL s i)))
 | _,_=>jfq
def jeS (a:AV) (i:Nat):PA:=match a with
 | .tup vs=>(i < vs.length,vs.getD i .any)
 | _=>jfq
def jfV:Option AV→Option (Option Int)
 | none=>some none
 | some (.raw (.int _ i))=>some (some i)
 | _=>none
def jg9 (P:Program) (t:TypeId) (a:AV) (lo hi mx:Option AV):PA:=match a,jfV lo,jfV hi,jfV mx with
 | .raw (.string s),some lo,some hi,some none=>(jgZ P t=true∧0≤lo.getD 0∧lo.getD 0≤hi.getD s.size∧hi.getD s.size≤s.size,.raw (.string (s.extract (lo.getD 0).toNat (hi.getD s.size).toNat)))
 | .sl _ sz css d,some lo,some hi,some none=>
  (jiQ P t=some sz∧0≤lo.getD 0∧lo.getD 0≤hi.getD css.length∧hi.getD css.length≤css.length,.sl false sz ((css.drop (lo.getD 0).toNat).take ((hi.getD css.length).toNat - (lo.getD 0).toNat)) d)
 | .rs d m sz n,some none,some hi,some none=>(jiQ P t=some sz∧0≤hi.getD n∧hi.getD n≤n,.rs d m sz (hi.getD n).toNat)
 | .rs d m sz n,some (some lo),some hi,some none=>(jiQ P t=some sz∧0≤lo∧lo≤hi.getD n∧hi.getD n≤n,.rv d m sz lo.toNat ((hi.getD n).toNat - lo.toNat))
 | .rv d m sz o n,some lo,some hi,some none=>(jiQ P t=some sz∧0≤lo.getD 0∧lo.getD 0≤hi.getD n∧hi.getD n≤n,.rv d m sz (o+(lo.getD 0).toNat) ((hi.getD n).toNat - (lo.getD 0).toNat))
 | .rs d m sz n,some lo,some (some hi),some (some mx)=>(jiQ P t=some sz∧0≤lo.getD 0∧lo.getD 0≤hi∧hi≤mx∧mx≤n,.rv d m sz (lo.getD 0).toNat (hi.toNat - (lo.getD 0).toNat))
 | .raw (.slice none 0 0),some lo,some hi,some none=>(jaV P t=true∧(jiQ P t).isSome=true∧lo.getD 0=0∧hi.getD 0=0,.raw (.slice none 0 0))
 | _,_,_,_=>jfq
def jtQ:List AV→Option (List Value)
 | []=>some []
 | .raw v::l=>(jtQ l).map (v::·)
 | _=>none
def joX (fn:Fn) (first captured:List AV):PA:=match fn,first with
 | .func f,[]=>(True,.clo f captured)
 | .func f,x::l=>(captured=[],.bd f (x::l))
 | _,_=>jfq
def jn1 (P:Program) (t:TypeId) (x:AV):PA:=match x,jka P t,P.underlying t with
 | .raw v,false,some _=>(True,.raw (.iface t v))
 | a,false,some _=>(True,.ifc t a)
 | _,_,_=>jfq
def jp4 (P:Program) (t:TypeId):Option IntKind:=match P.underlying t with
 | some (.int k)=>some k
 | _=>none
def joV (P:Program) (s d:TypeId) (x:AV):PA:=match x,jp4 P d with
 | .raw (.int _ n),some k=>((P.underlying s).isSome=true,.raw (.int k (k.wrap n)))
 | .raw (.string s'),none=>((P.underlying s).isSome=true∧jgZ P d=true,.raw (.string s'))
 | _,_=>jfq
def jp5 (P:Program) (t:TypeId):Bool:=match P.underlying t with
 | some (.map _ _)=>true
 | _=>false
def jvg (P:Program) (H:Hp) (t:TypeId) (x:AV):PA:=match x with
 | .mr i=>if mapTs.contains t=true then (match H.get i with
  | some (.mp ks _)=>(jp5 P t=true,.raw (.int .i64 ks.length))
  | _=>jfq) else jfq
 | .sl _ _ css _=>(jaV P t=true,.raw (.int .i64 css.length))
 | .rs _ _ _ n=>(jaV P t=true,.raw (.int .i64 n))
 | .rv _ _ _ _ n=>(jaV P t=true,.raw (.int .i64 n))
 | .raw (.slice _ n _)=>(jaV P t=true,.raw (.int .i64 n))
 | .raw (.string s)=>(jgZ P t=true,.raw (.int .i64 s.size))
 | _=>jfq
def jzP (P:Program) (t:TypeId) (x:AV):PA:=match x with
 | .sl true _ css _=>(jaV P t=true,.raw (.int .i64 css.length))
 | .raw (.slice _ _ n)=>(jaV P t=true,.raw (.int .i64 n))
 | _=>jfq
def jiq (mx:Bool) (args:List AV):PA:=match args with
 | [.raw (.int k a),.raw (.int k' b)]=>(k=k',.raw (.int k (if mx then (if b > a then b else a) else (if b < a then b else a))))
 | _=>jfq
def jbH (P:Program) (H:Hp) (b:Builtin) (ts:List TypeId) (args:List AV):PA:=match b,ts,args with
 | .len,t::_,x::_=>jvg P H t x
 | .cap,t::_,x::_=>jzP P t x
 | .max,_,args=>jiq true args
 | .min,_,args=>jiq false args
 | _,_,_=>jfq
def jcs (P:Program) (t:TypeId):Option (List (Nat×Nat)):=match P.underlying t with
 | some (.struct fs)=>fs.toList.mapM fun f=>(jct P f.type).map fun k=>(f.offset,k)
 | _=>none
def jj4 (pl:Nat→Option (Nat×Nat)) (cells:List AV):List (Nat×AV)→Option (List AV)
 | []=>some cells
 | (i,a)::rest=>match pl i with
  | some (off,k)=>if a.cells.length=k∧off+k≤cells.length then jj4 pl (jb9 cells off a.cells) rest else none
  | none=>none
def jjv (P:Program) (t:TypeId) (parts:List (Nat×AV)):PA:=match jbK P t,jcs P t with
 | some zs,some pl=>match jj4 (fun i=>pl[i]?) (zs.map .raw) parts with
  | some cs=>(ones ((parts.map fun p=>p.2.cells).flatten)=true,.agg cs)
  | none=>jfq
 | _,_=>jfq
def vq (P:Program) (ev:Operand→AV) (H:Hp):Op→PA
 | .move x=>(True,ev x)
 | .assign x=>(True,ev x)
 | .pick c a b=>jfX (ev c) (ev a) (ev b)
 | .nilCheck x=>jqG (ev x)
 | .binOp op t x y _=>jdn P op t (ev x) (ev y)
 | .unOp op _ x=>qUn op (ev x)
 | .load t a=>jfW P H t (ev a)
 | .fieldAddr t a f=>jbW P t (ev a) f
 | .field t a f=>jg6 P t (ev a) f
 | .indexAddr t a i=>jbX P t (ev a) (ev i)
 | .index t a i=>jg7 P t (ev a) (ev i)
 | .extract a i=>jeS (ev a) i
 | .slice t a lo hi mx=>jg9 P t (ev a) (lo.map ev) (hi.map ev) (mx.map ev)
 | .makeFunc fn first captured=>joX fn (first.toList.map ev) (captured.toList.map ev)
 | .makeInterface t x=>jn1 P t (ev x)
 | .convert s d x=>joV P s d (ev x)
 | .build t parts=>jjv P t (parts.toList.map fun p=>(p.1,ev p.2))
 | .call { callee:=.builtin b,args,argTypes }=>jbH P H b argTypes.toList (args.toList.map ev)
 | _=>jfq
section
variable {P:Program} {w:NW} {H:Hp}
theorem jar {v u:Value} (h:RelV w (.raw v) u):u=v:=by cases h;rfl
theorem jl8 (a b:Int):(a == b)=decide (a=b):=by rw [Bool.eq_iff_iff];simp
theorem jcy (a b:ByteArray):(a.toList == b.toList)=decide (a=b):=by
 rw [Bool.eq_iff_iff,beq_iff_eq,decide_eq_true_iff]
 constructor
 ·intro h
  exact ByteArray.ext (by simpa [ByteArray.toList_eq] using h)
 ·rintro rfl;rfl
theorem jeO {a:AV} {lk:LK} (h:jc4 a=some lk):match lk with
  | .int k=>∃ n,a=.raw (.int k n)
  | .str=>∃ s,a=.raw (.string s)
  | .bool=>∃ b,a=.raw (.bool b):=by
 unfold jc4 at h
 split at h<;>cases h<;>exact ⟨_,rfl⟩
theorem jjg:∀ {a c b d:List AV},a.map jc4=c.map jc4→(∀ x∈a,(jc4 x).isSome=true)→eqL (a++b) (c++d)=(eqL a c && eqL b d)
 | [],[],b,d,_,_=>by simp [eqL]
 | [],_::_,_,_,h,_=>by simp at h
 | _::_,[],_,_,h,_=>by simp at h
 | x::a,y::c,b,d,h,hs=>by
  simp only [List.map_cons,List.cons.injEq] at h
  have ih:=jjg (b:=b) (d:=d) h.2 (fun z hz=>hs z (by simp [hz]))
  obtain ⟨lk,hx⟩:=Option.isSome_iff_exists.1 (hs x (by simp))
  have hy:=h.1.symm.trans hx
  have h1:=jeO hx
  have h2:=jeO hy
  cases lk<;>(obtain ⟨u,rfl⟩:=h1;obtain ⟨v,rfl⟩:=h2;simp only [List.cons_append,eqL,ih,Bool.and_assoc])
theorem jgu {cs:List AV} {ks:List LK} (h:cs.map jc4=ks.map some):(∀ x∈cs,(jc4 x).isSome=true)∧cs.length=ks.length:=by
 refine ⟨fun x hx=>?_,by have:=congrArg List.length h;simpa using this⟩
 have:jc4 x∈cs.map jc4:=List.mem_map.2 ⟨x,hx,rfl⟩
 rw [h] at this
 obtain ⟨k,_,hk⟩:=List.mem_map.1 this
 rw [← hk];rfl
theorem ju0 {t:TypeId} {lk:LK} {a b:AV} {va vb:Value} (ht:P.underlying t=some (match lk with | .int k=>.int k | .str=>.string | .bool=>.bool)) (ha:RelV w a va) (hb:RelV w b vb) (hka:jc4 a=some lk) (hkb:jc4 b=some lk) (d:Nat) :
  (Op.equalIn (d+1) t va vb).run P w.toWorld=.ok (eqL [a] [b]) w.toWorld:=by
 have h1:=jeO hka
 have h2:=jeO hkb
 cases lk with
 | int k=>
  obtain ⟨m,rfl⟩:=h1;obtain ⟨n,rfl⟩:=h2
  have:=jar ha;have:=jar hb;subst_vars
  rw [run_equalIn_int w d t k k _ _ ht]
  simp [eqL,jl8]
 | str=>
  obtain ⟨m,rfl⟩:=h1;obtain ⟨n,rfl⟩:=h2
  have:=jar ha;have:=jar hb;subst_vars
  rw [run_equalIn_string w d t _ _ ht,jcy]
  simp [eqL]
 | bool=>
  obtain ⟨m,rfl⟩:=h1;obtain ⟨n,rfl⟩:=h2
  have:=jar ha;have:=jar hb;subst_vars
  rw [run_equalIn_bool w d t _ _ ht]
  simp [eqL]
def jl3 (P:Program) (t:TypeId) (v:Value) (vs:List Value):Prop:=(jaM P t=some true∧v=.agg vs.toArray)∨(jaM P t=some false∧vs=[v])
theorem jnY {t:TypeId} {xs:Array Value} {off k:Nat} (hag:(jaM P t).isSome=true) (hsz:jct P t=some k) (h1:jaM P t=some false→k=1) (hfit:off+k≤xs.size) :
  ∃ v,(part t xs off).run P w.toWorld=.ok v w.toWorld∧jl3 P t v ((xs.toList.drop off).take k):=by
 obtain ⟨ag,hag⟩:=Option.isSome_iff_exists.1 hag
 cases ag with
 | true=>
  refine ⟨.agg (xs.extract off (off+k)),by simp [part,jdZ hag,jaT hsz],.inl ⟨hag,?_⟩⟩
  congr 1
  apply Array.ext'
  simp [Array.toList_extract,List.extract_eq_take_drop]
 | false=>
  obtain rfl:=h1 hag
  have h2:xs[off]?=some (xs[off]'(by omega)):=Array.getElem?_eq_getElem (by omega)
  refine ⟨xs[off]'(by omega),by simp [part,jdZ hag,h2],.inr ⟨hag,?_⟩⟩
  rw [List.drop_eq_getElem_cons (by simp;omega)]
  simp
theorem jlB {cs:List AV} {vs:List Value} (h:RelL w cs vs) (n:Nat):RelL w (cs.drop n) (vs.drop n):=⟨by simp [h.1],fun i a v ha hv=>h.2 (n+i) a v (by simpa using ha) (by simpa using hv)⟩
theorem jlD {cs:List AV} {vs:List Value} (h:RelL w cs vs) (n:Nat):RelL w (cs.take n) (vs.take n):=⟨by simp [h.1],fun i a v ha hv=>by
 rw [List.getElem?_take] at ha hv
 split at ha
 ·rename_i hi;rw [if_pos hi] at hv;exact h.2 i a v ha hv
 ·cases ha⟩
theorem jpS:∀ (n:Nat),(∀ (t:TypeId) (ks:List LK),jcT P n t=some ks→∀ (d:Nat) (v v':Value) (cs ds:List AV) (vs us:List Value),jl3 P t v vs→jl3 P t v' us→RelL w cs vs→RelL w ds us→cs.map jc4=ks.map some→ds.map jc4=ks.map some→
   (Op.equalIn (d+n) t v v').run P w.toWorld=.ok (eqL cs ds) w.toWorld):=by
 intro n
 induction n with
 | zero=>intro t ks h;simp [jcT] at h
 | succ n ih=>
  intro t ks hk d v v' cs ds vs us hv hv' hcs hds h1 h2
  have leaf:∀ lk:LK,P.underlying t=some (match lk with | .int k=>.int k | .str=>.string | .bool=>.bool)→ks=[lk]→jaM P t=some false→(Op.equalIn (d+(n+1)) t v v').run P w.toWorld=.ok (eqL cs ds) w.toWorld:=by
   rintro lk ht rfl hag
   have e1:vs=[v]:=by
    rcases hv with ⟨h,_⟩ | ⟨_,h⟩
    ·rw [hag] at h;cases h
    ·exact h
   have e2:us=[v']:=by
    rcases hv' with ⟨h,_⟩ | ⟨_,h⟩
    ·rw [hag] at h;cases h
    ·exact h
   subst e1 e2
   match cs,ds,h1,h2 with
   | [a],[b],h1,h2=>
    exact ju0 ht (hcs.2 0 _ _ rfl rfl) (hds.2 0 _ _ rfl rfl) (by simpa using h1) (by simpa using h2) (d+n)
  unfold jcT at hk
  split at hk
  ·rename_i k hu;exact leaf (.int k) hu (by simpa using hk.symm) (by simp [jaM,hu])
  ·rename_i hu;exact leaf .str hu (by simpa using hk.symm) (by simp [jaM,hu])
  ·rename_i hu;exact leaf .bool hu (by simpa using hk.symm) (by simp [jaM,hu])
  ·rename_i fs hu
   split at hk
   ·cases hk
   ·rename_i hst
    have hag:jaM P t=some true:=by simp [jaM,hu]
    have e1:v=.agg vs.toArray:=by
     rcases hv with ⟨_,h⟩ | ⟨h,_⟩
     ·exact h
     ·rw [hag] at h;cases h
    have e2:v'=.agg us.toArray:=by
     rcases hv' with ⟨_,h⟩ | ⟨h,_⟩
     ·exact h
     ·rw [hag] at h;cases h
    subst e1 e2
    have hf:P.fieldsOf t=fs:=by simp [Program.fieldsOf,hu]
    rw [show d+(n+1)=(d+n)+1 by omega,run_equalIn_struct w (d+n) t _ _ (by rw [hf];exact hu) (by simpa using hst),hf]
    have gen:∀ (l:List Field) (off:Nat) (ks:List LK),jdR P (jcT P n) off l=some ks→off≤cs.length→off≤ds.length→(cs.drop off).map jc4=ks.map some→(ds.drop off).map jc4=ks.map some→
      (Op.eqFields (d+n) vs.toArray us.toArray l).run P w=.ok (eqL (cs.drop off) (ds.drop off)) w:=by
     intro l
     induction l with
     | nil=>
      intro off ks hk _ _ g1 g2
      simp only [jdR,Option.some.injEq] at hk
      subst hk
      have c1:cs.drop off=[]:=by simpa using g1
      have c2:ds.drop off=[]:=by simpa using g2
      rw [c1,c2];simp [Op.eqFields,eqL]
     | cons f l ihl=>
      intro off ks hk o1 o2 g1 g2
      unfold jdR at hk
      split at hk
      ·rename_i hno
       obtain ⟨hname,rfl⟩:=hno
       split at hk
       ·rename_i ks1 k e1 e2
        split at hk
        ·rename_i hkl
         simp only [Option.map_eq_some_iff] at hk
         obtain ⟨ks2,hk2,rfl⟩:=hk
         have l1:=(jgu g1).2
         have l2:=(jgu g2).2
         have ag:(jaM P f.type).isSome=true∧(jaM P f.type=some false→k=1):=by
          cases n with
          | zero=>simp [jcT] at e1
          | succ n=>
           unfold jcT at e1
           split at e1
           ·rename_i hu;refine ⟨by simp [jaM,hu],fun _=>?_⟩;cases e1;exact hkl.symm
           ·rename_i hu;refine ⟨by simp [jaM,hu],fun _=>?_⟩;cases e1;exact hkl.symm
           ·rename_i hu;refine ⟨by simp [jaM,hu],fun _=>?_⟩;cases e1;exact hkl.symm
           ·rename_i hu;exact ⟨by simp [jaM,hu],fun h=>by simp [jaM,hu] at h⟩
           ·cases e1
         have hvl:=hcs.1
         have hul:=hds.1
         simp only [List.length_drop,List.length_append] at l1 l2
         obtain ⟨x,hx,cx⟩:=jnY (P:=P) (w:=w) (xs:=vs.toArray) (off:=f.offset) ag.1 e2 ag.2 (by simp;omega)
         obtain ⟨y,hy,cy⟩:=jnY (P:=P) (w:=w) (xs:=us.toArray) (off:=f.offset) ag.1 e2 ag.2 (by simp;omega)
         simp only [List.map_append] at g1 g2
         have split1:∀ {zs:List AV},(zs.drop f.offset).map jc4=ks1.map some++ks2.map some→((zs.drop f.offset).take k).map jc4=ks1.map some∧(zs.drop (f.offset+k)).map jc4=ks2.map some:=by
          intro zs h
          have e:k=(ks1.map some).length:=by simp [hkl]
          constructor
          ·rw [List.map_take,h,e,List.take_left'];rfl
          ·rw [← List.drop_drop,List.map_drop,h,e,List.drop_left'];rfl
         obtain ⟨a1,a2⟩:=split1 g1
         obtain ⟨b1,b2⟩:=split1 g2
         have heq:=ih f.type ks1 e1 d x y _ _ _ _ cx cy (jlD (jlB hcs f.offset) k) (jlD (jlB hds f.offset) k) a1 b1
         have hrest:=ihl (f.offset+k) ks2 hk2 (by omega) (by omega) a2 b2
         have hsplit:eqL (cs.drop f.offset) (ds.drop f.offset)=(eqL ((cs.drop f.offset).take k) ((ds.drop f.offset).take k) && eqL (cs.drop (f.offset+k)) (ds.drop (f.offset+k))):=by
          rw [← jjg (by rw [a1,b1]) (jgu a1).1,← List.drop_drop,← List.drop_drop,List.take_append_drop,List.take_append_drop]
         simp only [Op.eqFields,ne_eq,hname,not_false_eq_true,if_true,Sem.run_bind,hx,hy,heq,Result.andThen_ok]
         rw [hsplit]
         cases hb:eqL ((cs.drop f.offset).take k) ((ds.drop f.offset).take k)
         ·simp
         ·simp only [Bool.not_true,Bool.false_eq_true,if_false,Bool.true_and];exact hrest
        ·cases hk
       ·cases hk
      ·cases hk
    have:=gen fs.toList 0 ks hk (Nat.zero_le _) (Nat.zero_le _) (by simpa using h1) (by simpa using h2)
    simpa using this
  ·cases hk
theorem jxe {ne:Bool} {t:TypeId} {cs ds:List AV} {va vb:Value} {ks:List LK} {x y:Operand} (hk:jhY P t=some ks) (hag:jaM P t=some true) (h1:cs.map jc4=ks.map some) (h2:ds.map jc4=ks.map some) (ha:RelV w (.agg cs) va) (hb:RelV w (.agg ds) vb) :
  ∃ v,(do eqGuard (if ne then .neq else .eql) t x y va vb;binOp (if ne then .neq else .eql) t va vb:Sem Value).run P w.toWorld=.ok v w.toWorld∧RelV w (.raw (.bool (ne ^^ eqL cs ds))) v:=by
 unfold jhY at hk
 split at hk
 ·cases hk
 ·rename_i hg
  cases ha with | agg _ vs l1 r1=>
  cases hb with | agg _ us l2 r2=>
  have he:=jpS (P:=P) (w:=w) 8 t ks hk 9992 (.agg vs) (.agg us) cs ds vs.toList us.toList (.inl ⟨hag,by simp⟩) (.inl ⟨hag,by simp⟩) ⟨by simpa using l1,fun i a v ha hv=>r1 i a v ha (by simpa using hv)⟩ ⟨by simpa using l2,fun i a v ha hv=>r2 i a v ha (by simpa using hv)⟩ h1 h2
  have hgr:∀ op,(eqGuard op t x y (.agg vs) (.agg us)).run P w.toWorld=.ok () w.toWorld:=fun op=>run_eqGuard_agg w op t x y vs us (by simpa using hg)
  have he':(Op.equalIn 10000 t (.agg vs) (.agg us)).run P w.toWorld=.ok (eqL cs ds) w.toWorld:=he
  cases ne
  ·simp only [Bool.false_eq_true,if_false,Sem.run_bind,hgr,Result.andThen_ok,run_eql_struct,he']
   exact ⟨_,rfl,by simpa using RelV.raw _⟩
  ·simp only [if_true,Sem.run_bind,hgr,Result.andThen_ok,run_neq_struct,he']
   exact ⟨_,rfl,by simpa using RelV.raw _⟩
end
section
variable {P:Program} {w:NW} {H:Hp}
theorem jmY {a:AV} {v:Value} (h:RelV w a v) (hp:(unG a).1=true):RelV w (unG a).2 v:=by
 unfold unG at *
 split
 ·cases h with | gd p a v hh hu=>exact hh hp
 ·exact h
theorem jjx {c a b:AV} {vc va vb:Value} (hc:RelV w c vc) (ha:RelV w a va) (hb:RelV w b vb):jhL P w (do pure (if ← asBool vc then va else vb)) (jfX c a b):=by
 intro hq
 unfold jfX at *
 split at hq
 ·rename_i cb pa x pb y e1 e2
  have:=jar hc
  subst this
  cases cb with
  | true=>
   have h:=jmY ha (by rw [e1];exact hq.1 rfl)
   rw [e1] at h
   have:=jar h
   subst this
   exact ⟨.bool x,by simp [asBool],by simpa [jxr] using RelV.raw _⟩
  | false=>
   have h:=jmY hb (by rw [e2];exact hq.2 rfl)
   rw [e2] at h
   have:=jar h
   subst this
   exact ⟨.bool y,by simp [asBool],by simpa [jxr] using RelV.raw _⟩
 ·exact hq.elim
theorem jqE (op:BinOp) (t:TypeId) (k:IntKind) (a:Int) (k':IntKind) (b:Int) (x y:Operand):jhL P w (do eqGuard op t x y (.int k a) (.int k' b);binOp op t (.int k a) (.int k' b)) (jzQ op k a k' b):=by
 intro hq
 cases op<;>simp only [jzQ] at hq ⊢
 case shl=>
  have h0:¬ b < 0:=by omega
  exact ⟨_,by simp [eqGuard_at_int,binOp,Op.shift,h0],.raw _⟩
 case shr=>
  have h0:¬ b < 0:=by omega
  exact ⟨_,by simp [eqGuard_at_int,binOp,Op.shift,h0],.raw _⟩
 case quo=>obtain ⟨rfl,h0⟩:=hq;exact ⟨_,by simp [eqGuard_at_int,binOp,Op.intDiv,h0],.raw _⟩
 case rem=>obtain ⟨rfl,h0⟩:=hq;exact ⟨_,by simp [eqGuard_at_int,binOp,Op.intDiv,h0],.raw _⟩
 case and=>subst hq;exact ⟨_,by simp [eqGuard_at_int,binOp,Op.intBits,jdK],.raw _⟩
 case or=>subst hq;exact ⟨_,by simp [eqGuard_at_int,binOp,Op.intBits,jdK],.raw _⟩
 case xor=>subst hq;exact ⟨_,by simp [eqGuard_at_int,binOp,Op.intBits,jdK],.raw _⟩
 case andNot=>subst hq;exact ⟨_,by simp [eqGuard_at_int,binOp,Op.intBits,jdK],.raw _⟩
 case eql=>subst hq;exact ⟨.bool (decide (a=b)),by simp [eqGuard_at_int,binOp,Op.intCmp,jl8],.raw _⟩
 case neq=>subst hq;exact ⟨.bool (!decide (a=b)),by simp [eqGuard_at_int,binOp,Op.intCmp,bne,jl8],.raw _⟩
 all_goals (subst hq;exact ⟨_,by simp [eqGuard_at_int,binOp,Op.intArith,Op.intCmp];try rfl,.raw _⟩)
theorem jqI (op:BinOp) (t:TypeId) (a b:ByteArray) (x y:Operand):jhL P w (do eqGuard op t x y (.string a) (.string b);binOp op t (.string a) (.string b)) (jzR op a b):=by
 intro hq
 cases op<;>simp only [jzR] at hq ⊢
 case add=>
  have h0:¬ (((a.size+b.size:Nat):Int) > IntKind.i64.max):=by rw [IntKind.max_i64];omega
  exact ⟨_,by simp only [eqGuard_at_string,binOp,Op.stringOp,pure_bind,if_neg h0,Sem.run_pure],.raw _⟩
 case eql=>exact ⟨_,by simp [eqGuard_at_string,binOp,Op.stringOp,jcy],.raw _⟩
 case neq=>exact ⟨_,by simp [eqGuard_at_string,binOp,Op.stringOp,jcy],.raw _⟩
 case lss=>exact ⟨_,by simp [eqGuard_at_string,binOp,Op.stringOp],.raw _⟩
 case gtr=>exact ⟨_,by simp [eqGuard_at_string,binOp,Op.stringOp,jcy],.raw _⟩
 case leq=>exact ⟨_,by simp [eqGuard_at_string,binOp,Op.stringOp,jcy],.raw _⟩
 case geq=>exact ⟨_,by simp [eqGuard_at_string,binOp,Op.stringOp],.raw _⟩
 all_goals exact hq.elim
theorem jqH {a:AV} {v:Value} (x:Operand) {ρ:Operand→Value} (hx:ρ x=v) (h:RelV w a v) (o:Oper) (ho:o.op=.nilCheck x):(jqG a).1→∃ v',(execOp ρ o).run P w.toWorld=.ok (.value v') w.toWorld∧RelV w (jqG a).2 v':=by
 intro hq
 unfold jqG at *
 split at hq<;>try exact hq.elim
 ·cases h with | ip _ ad vs hb hH hcell hr=>exact ⟨.pointer (some ad),by simp [execOp,ho,hx],.ip _ ad vs hb hH hcell hr⟩
 ·cases h with | pt _ _ _ _ b t s hn=>exact ⟨_,by simp [execOp,ho,hx],.pt _ _ _ _ b t s hn⟩
 all_goals (have:=jar h;subst this;exact ⟨_,by simp [execOp,ho,hx];try rfl,.raw _⟩)
theorem jzO {t:TypeId} (h:jgY P t=true):∃ e,P.underlying t=some (.pointer e):=by
 unfold jgY at h;split at h<;>simp_all
theorem j0v {t:TypeId} (h:jgs P t=true):P.underlying t=some .bool:=by
 unfold jgs at h;split at h<;>simp_all
theorem jzU {t:TypeId} (h:jgZ P t=true):P.underlying t=some .string:=by
 unfold jgZ at h;split at h<;>simp_all
theorem jfa {t:TypeId} (h:jaV P t=true):∃ e,P.underlying t=some (.slice e):=by
 unfold jaV at h;split at h<;>simp_all
theorem jc1 {t:TypeId} {x y:Value} {r:Bool} (h:∀ d,(Op.equalIn (d+1) t x y).run P w.toWorld=.ok r w.toWorld):(Op.equal t x y).run P w.toWorld=.ok r w.toWorld:=h 9999
theorem jc0 {ne:Bool} {t:TypeId} {x y:Operand} {a b:Value} {r:Bool} (hg:∀ op,eqGuard op t x y a b=pure ()) (h1:binOp .eql t a b=(do pure (.bool (← Op.equal t a b)))) (h2:binOp .neq t a b=(do pure (.bool (!(← Op.equal t a b)))))
  (he:(Op.equal t a b).run P w.toWorld=.ok r w.toWorld):∃ v,(do eqGuard (if ne then .neq else .eql) t x y a b;binOp (if ne then .neq else .eql) t a b:Sem Value).run P w.toWorld=.ok v w.toWorld∧RelV w (.raw (.bool (ne ^^ r))) v:=by
 cases ne
 ·simp only [Bool.false_eq_true,if_false,hg,h1,Sem.run_bind,he,Sem.run_pure,Result.andThen_ok]
  exact ⟨_,rfl,by simpa using RelV.raw _⟩
 ·simp only [if_true,hg,h2,Sem.run_bind,he,Sem.run_pure,Result.andThen_ok]
  exact ⟨_,rfl,by simpa using RelV.raw _⟩
theorem jjw (ne:Bool) (t:TypeId) {a b:AV} {va vb:Value} (x y:Operand) (ha:RelV w a va) (hb:RelV w b vb) :
  jhL P w (do eqGuard (if ne then .neq else .eql) t x y va vb;binOp (if ne then .neq else .eql) t va vb) (jqD P ne t a b):=by
 intro hq
 unfold jqD at *
 split at hq<;>try exact hq.elim
 ·have:=jar ha;have:=jar hb;subst_vars
  have ht:=j0v hq
  exact jc0 (fun op=>eqGuard_at_bool _ _ _ _ _ _) rfl rfl (jc1 (fun d=>by simp [Op.equalIn,run_underlying ht]))
 ·have:=jar ha;have:=jar hb;subst_vars
  obtain ⟨e,ht⟩:=jzO hq
  exact jc0 (fun op=>eqGuard_at_pointer _ _ _ _ _ _) rfl rfl (jc1 (fun d=>by simp [Op.equalIn,run_underlying ht]))
 ·have:=jar ha;have:=jar hb;subst_vars
  obtain ⟨e,ht⟩:=jzO hq
  rename_i pa
  have:=jc0 (P:=P) (w:=w) (ne:=ne) (t:=t) (x:=x) (y:=y) (a:=.pointer (some pa)) (b:=.pointer none) (r:=false) (fun op=>eqGuard_at_pointer _ _ _ _ _ _) rfl rfl (jc1 (fun d=>by simp [Op.equalIn,run_underlying ht]))
  simpa using this
 ·have:=jar hb;subst_vars
  obtain ⟨e,ht⟩:=jzO hq
  cases ha with | ip cs ad vs _ _ _ _=>
  have:=jc0 (P:=P) (w:=w) (ne:=ne) (t:=t) (x:=x) (y:=y) (a:=.pointer (some ad)) (b:=.pointer none) (r:=false) (fun op=>eqGuard_at_pointer _ _ _ _ _ _) rfl rfl (jc1 (fun d=>by simp [Op.equalIn,run_underlying ht]))
  simpa using this
 ·have:=jar hb;subst_vars
  obtain ⟨e,ht⟩:=jzO hq
  rename_i i m k j
  cases ha with | pt _ _ _ _ bb tt ss _=>
  have:=jc0 (P:=P) (w:=w) (ne:=ne) (t:=t) (x:=x) (y:=y) (a:=.pointer (some ⟨bb,k * ss+j,none⟩)) (b:=.pointer none) (r:=false) (fun op=>eqGuard_at_pointer _ _ _ _ _ _) rfl rfl (jc1 (fun d=>by simp [Op.equalIn,run_underlying ht]))
  simpa using this
 ·have:=jar ha;have:=jar hb;subst_vars
  obtain ⟨e,ht⟩:=jfa hq
  exact jc0 (fun op=>eqGuard_at_slice _ _ _ _ _ _ _ _) rfl rfl (jc1 (fun d=>by simp [Op.equalIn,run_underlying ht]))
 ·have:=jar ha;have:=jar hb;subst_vars
  obtain ⟨e,ht⟩:=jfa hq
  rename_i pa n c m d
  have:=jc0 (P:=P) (w:=w) (ne:=ne) (t:=t) (x:=x) (y:=y) (a:=.slice (some pa) n c) (b:=.slice none m d) (r:=false) (fun op=>eqGuard_at_slice _ _ _ _ _ _ _ _) rfl rfl (jc1 (fun d=>by simp [Op.equalIn,run_underlying ht]))
  simpa using this
 ·have:=jar hb;subst_vars
  obtain ⟨hq,hne⟩:=hq
  obtain ⟨e,ht⟩:=jfa hq
  rename_i css _ m d
  cases ha with
  | sl0=>exact (hne rfl).elim
  | sl _ _ _ a c vs _ _ _ _ _ _ _ _=>
   have:=jc0 (P:=P) (w:=w) (ne:=ne) (t:=t) (x:=x) (y:=y) (a:=.slice (some a) css.length c) (b:=.slice none m d) (r:=false) (fun op=>eqGuard_at_slice _ _ _ _ _ _ _ _) rfl rfl (jc1 (fun d=>by simp [Op.equalIn,run_underlying ht]))
   simpa using this
 ·split at hq
  ·rename_i ks hks
   exact jxe hks hq.1 hq.2.1 hq.2.2 ha hb
  ·exact hq.elim
theorem jlx (op:BinOp) (t:TypeId) {a b:AV} {va vb:Value} (x y:Operand) (ha:RelV w a va) (hb:RelV w b vb) :
  jhL P w (do eqGuard op t x y va vb;binOp op t va vb) (jdn P op t a b):=by
 unfold jdn
 split
 ·have:=jar ha;have:=jar hb;subst_vars;exact jqE op t _ _ _ _ x y
 ·have:=jar ha;have:=jar hb;subst_vars;exact jqI op t _ _ x y
 ·split
  ·exact jjw false t x y ha hb
  ·exact jjw true t x y ha hb
  ·exact jpZ
theorem jsE (op:UnOp) {a:AV} {v:Value} (h:RelV w a v):jhL P w (Op.unary op v) (qUn op a):=by
 intro hq
 unfold qUn at *
 split at hq<;>try exact hq.elim
 ·have:=jar h;subst this;exact ⟨_,by simp [Op.unary],.raw _⟩
 ·have:=jar h;subst this;exact ⟨_,by simp [Op.unary,Op.intArith],.raw _⟩
theorem joZ (t:TypeId) {a:AV} {v:Value} (h:RelV w a v) (hw:RelW w H):jhL P w (Instr.loadAt t v) (jfW P H t a):=by
 intro hq
 unfold jfW at *
 split at hq<;>try exact hq.elim
 ·rename_i c cs k e1 e2 e3
  exact jg3 h hw e1 hq.1 e2 e3 hq.2.1 hq.2.2
 ·rename_i c cs k e1 e2 e3
  have:=jg3 (P:=P) h hw e1 hq.1 e2 e3 hq.2.1 hq.2.2
  simpa [jib] using this
theorem jk1 {t:TypeId} {f off:Nat} (h:jck P t f=some off):∃ fs fd k,P.underlying t=some (.struct fs)∧fs[f]?=some fd∧jct P fd.type=some (k+1)∧fd.offset=off:=by
 unfold jck at h
 split at h
 ·rename_i fs hu
  split at h
  ·rename_i fd hf
   split at h
   ·rename_i k hk;exact ⟨fs,fd,k,hu,hf,hk,by simpa using h⟩
   ·cases h
  ·cases h
 ·cases h
theorem jio (t:TypeId) (f:Nat) {a:AV} {v:Value} (h:RelV w a v):jhL P w (Instr.fieldAt t v f) (jbW P t a f):=by
 intro hq
 unfold jbW at *
 split at hq<;>try exact hq.elim
 ·rename_i cs off e
  obtain ⟨fs,fd,k,hu,hf,hk,rfl⟩:=jk1 e
  cases h with | ip _ ad vs hb hH hcell hr=>
  refine ⟨.pointer (some (ad.add fd.offset)),?_,.ip _ _ (fun j=>vs (fd.offset+j)) (by rw [jbj];exact hb) (by rw [jbj];exact hH) (fun j hj=>?_) (fun j u hu=>?_)⟩
  ·simp [Instr.fieldAt,run_underlying hu,hf,Instr.sureAddr,fieldPlace,jaT hk]
  ·rw [jdH];exact hcell _ (by simp at hj;omega)
  ·rw [List.getElem?_drop] at hu;exact hr _ _ hu
 ·rename_i i m q j off e
  obtain ⟨fs,fd,k,hu,hf,hk,rfl⟩:=jk1 e
  cases h with | pt _ _ _ _ b t s hn=>
  refine ⟨.pointer (some ⟨b,q * s+j+fd.offset,none⟩),?_,?_⟩
  ·simp [Instr.fieldAt,run_underlying hu,hf,Instr.sureAddr,fieldPlace,jaT hk,jbr]
  ·rw [Nat.add_assoc];exact .pt i m q (j+fd.offset) b t s hn
theorem jr6 {t ft:TypeId} {f off:Nat} (h:fTy P t f=some (ft,off)):∃ fs fd,P.underlying t=some (.struct fs)∧fs[f]?=some fd∧fd.type=ft∧fd.offset=off:=by
 unfold fTy at h
 split at h
 ·rename_i fs hu
  simp only [Option.map_eq_some_iff,Prod.mk.injEq] at h
  obtain ⟨fd,hf,h1,h2⟩:=h
  exact ⟨fs,fd,hu,hf,h1,h2⟩
 ·cases h
theorem jo0 (t:TypeId) {cs:List AV} {vs:Array Value} (hl:cs.length=vs.size) (hr:∀ (i:Nat) a v,cs[i]?=some a→vs[i]?=some v→RelV w a v) (off:Nat):jhL P w (part t vs off) (jsD P t cs off):=by
 intro hq
 unfold jsD at *
 split at hq<;>try exact hq.elim
 ·rename_i k e1 e2
  simp only at hq
  refine ⟨.agg (vs.extract off (off+k)),by simp [part,jdZ e1,jaT e2],.agg _ _ (by simp;omega) fun i a v ha hv=>?_⟩
  rw [List.getElem?_take] at ha
  split at ha
  ·rw [List.getElem?_drop] at ha
   refine hr _ a v ha ?_
   rw [Array.getElem?_extract] at hv
   split at hv<;>simp_all
  ·cases ha
 ·rename_i k e1 e2
  simp only at hq
  have h1:vs[off]?=some (vs[off]'(by omega)):=Array.getElem?_eq_getElem (by omega)
  refine ⟨vs[off]'(by omega),by simp [part,jdZ e1,h1],hr off _ _ ?_ h1⟩
  simp [List.getElem?_eq_getElem hq]
theorem jmK (t:TypeId) (f:Nat) {a:AV} {v:Value} (h:RelV w a v):jhL P w (Instr.field t v f) (jg6 P t a f):=by
 unfold jg6
 split
 ·rename_i cs ft off e
  obtain ⟨fs,fd,hu,hf,rfl,rfl⟩:=jr6 e
  cases h with | agg _ vs hl hr=>
  intro hq
  obtain ⟨v,h1,h2⟩:=jo0 (P:=P) fd.type hl hr fd.offset hq
  exact ⟨v,by simpa [Instr.field,run_underlying hu,hf,asAgg] using h1,h2⟩
 ·exact jpZ
theorem jcv {t:TypeId} {k:Nat} (h:jiQ P t=some k):∃ e,P.underlying t=some (.slice e)∧jct P e=some k:=by
 unfold jiQ elT at h
 split at h
 ·rename_i e hu;exact ⟨e,hu,by simpa using h⟩
 ·cases h
theorem jjc {t:TypeId} {n k:Nat} (h:joq P t=some (n,k)):∃ e,P.underlying t=some (.array n e)∧jct P e=some k:=by
 unfold joq at h
 split at h
 ·rename_i len e hu
  simp only [Option.map_eq_some_iff,Prod.mk.injEq] at h
  obtain ⟨s,h1,rfl,rfl⟩:=h
  exact ⟨e,hu,h1⟩
 ·cases h
theorem jip (t:TypeId) {a i:AV} {va vi:Value} (ha:RelV w a va) (hi:RelV w i vi):jhL P w (Instr.indexAt t va vi) (jbX P t a i):=by
 intro hq
 unfold jbX at *
 split at hq<;>try exact hq.elim
 ·rename_i x sz css d k j
  have:=jar hi;subst this
  obtain ⟨e,hu,hs⟩:=jcv hq.1
  have h0:=hq.2.1
  have h1:=hq.2.2
  cases ha with
  | sl0=>simp at h1;omega
  | sl _ _ _ ad c vs hn hc hx hsz hb hH hcell hr=>
   have hln:=jeK hsz (show j.toNat < css.length by omega)
   have hd:css.getD j.toNat d=css.getD j.toNat []:=by simp [show j.toNat < css.length by omega]
   rw [hd]
   refine ⟨.pointer (some (ad.add (j.toNat * sz))),?_,.ip _ _ (fun m=>vs (j.toNat * sz+m)) (by rw [jbj];exact hb) (by rw [jbj];exact hH) (fun m hm=>?_) (fun m u hu=>?_)⟩
   ·simp [Instr.indexAt,asIntOf,run_underlying hu,h0,h1,jaT hs]
   ·rw [jdH];exact hcell _ m (by omega) (by omega)
   ·exact hr _ m u (by omega) hu
 ·rename_i d m sz n k j
  have:=jar hi;subst this
  obtain ⟨e,hu,hs⟩:=jcv hq.1
  have h0:=hq.2.1
  have h1:=hq.2.2
  cases ha with
  | rs0=>simp at h1;omega
  | rs _ _ _ _ b t c hn hc hle hs0=>
   refine ⟨.pointer (some ⟨b,j.toNat * sz,none⟩),?_,.pt d m j.toNat 0 b t sz hn⟩
   simp [Instr.indexAt,asIntOf,run_underlying hu,h0,h1,jaT hs,jbr]
 ·rename_i d m sz o n k j
  have:=jar hi;subst this
  obtain ⟨e,hu,hs⟩:=jcv hq.1
  have h0:=hq.2.1
  have h1:=hq.2.2
  cases ha with
  | rv0=>simp at h1;omega
  | rv _ _ _ _ _ b t c hn hle=>
   refine ⟨.pointer (some ⟨b,(o+j.toNat) * sz,none⟩),?_,.pt d m (o+j.toNat) 0 b t sz hn⟩
   simp [Instr.indexAt,asIntOf,run_underlying hu,h0,h1,jaT hs,jbr,Nat.add_mul]
 ·rename_i d m k j kk i
  have:=jar hi;subst this
  unfold jyo at *
  split at hq
  ·rename_i len s e
   obtain ⟨el,hu,hs⟩:=jjc e
   cases ha with
   | pt _ _ _ _ b t sz hn=>
    refine ⟨.pointer (some ⟨b,k * sz+(j+i.toNat * s),none⟩),?_,.pt d m k _ b t sz hn⟩
    simp [Instr.indexAt,asIntOf,run_underlying hu,hq.1,hq.2,jaT hs,jbr,Instr.sureAddr,Nat.add_assoc]
  ·exact hq.elim
 ·rename_i cs kk i
  have:=jar hi;subst this
  unfold jyo at *
  split at hq
  ·rename_i len s e
   obtain ⟨el,hu,hs⟩:=jjc e
   cases ha with
   | ip _ ad vs hb hH hcell hr=>
    refine ⟨.pointer (some (ad.add (i.toNat * s))),?_,.ip _ _ (fun m=>vs (i.toNat * s+m)) (by rw [jbj];exact hb) (by rw [jbj];exact hH) (fun m hm=>?_) (fun m u hu=>?_)⟩
    ·simp [Instr.indexAt,asIntOf,run_underlying hu,hq.1,hq.2,jaT hs,Instr.sureAddr]
    ·rw [jdH];exact hcell _ (by simp at hm;omega)
    ·exact hr _ u (by rwa [List.getElem?_drop] at hu)
  ·exact hq.elim
theorem jmM (t:TypeId) {a i:AV} {va vi:Value} (ha:RelV w a va) (hi:RelV w i vi):jhL P w (Instr.index t va vi) (jg7 P t a i):=by
 intro hq
 unfold jg7 at *
 split at hq<;>try exact hq.elim
 rename_i s k j
 have:=jar hi;have:=jar ha;subst_vars
 have ht:=jzU hq.1
 have h0:=hq.2.1
 have h1:j.toNat < s.size:=by have:=hq.2.2;omega
 refine ⟨.int .u8 (jaL s j),?_,.raw _⟩
 have h2:s[j.toNat]?=some s[j.toNat]:=by simp [h1]
 have h3:jaL s j=(s[j.toNat].toNat:Int):=by
  have h4:s.data[j.toNat]?=some s[j.toNat]:=Array.getElem?_eq_getElem h1
  simp only [jaL,h4,Option.getD_some]
 simp [Instr.index,asIntOf,run_underlying ht,h0,h2,h3]
theorem jkp {a:AV} {v:Value} (h:RelV w a v) (i:Nat):jhL P w (Instr.extract v i) (jeS a i):=by
 intro hq
 unfold jeS at *
 split at hq<;>try exact hq.elim
 rename_i cs
 cases h with | tup _ vs hl hr=>
 simp only at hq
 have h1:vs[i]?=some (vs[i]'(by omega)):=Array.getElem?_eq_getElem (by omega)
 refine ⟨vs[i]'(by omega),by simp [Instr.extract,h1],hr i _ _ ?_ h1⟩
 simp [List.getElem?_eq_getElem hq]
theorem joY (fn:Fn) {a b:List AV} {va vb:List Value} (ha:RelL w a va) (hb:RelL w b vb):jhL P w (Instr.makeFunc fn va.toArray vb.toArray) (joX fn a b):=by
 intro hq
 unfold joX at *
 split at hq<;>try exact hq.elim
 ·rename_i f
  have:va=[]:=by have:=ha.1;simpa using this.symm
  subst this
  exact ⟨.func (.func f) #[] vb.toArray,by simp [Instr.makeFunc],.clo f _ _ (by rw [hb.1];simp) (fun i a v h1 h2=>hb.2 i a v h1 (by simpa using h2))⟩
 ·rename_i f x l
  have hq:b=[]:=hq
  subst hq
  have:vb=[]:=by have:=hb.1;simpa using this.symm
  subst this
  exact ⟨.func (.func f) va.toArray #[],by simp [Instr.makeFunc],.bd f _ _ (by rw [ha.1];simp) (fun i a v h1 h2=>ha.2 i a v h1 (by simpa using h2))⟩
theorem jmL (t:TypeId) {a:AV} {v:Value} (h:RelV w a v):jhL P w (Instr.makeInterface t v) (jn1 P t a):=by
 intro hq
 unfold jn1 at *
 split at hq<;>try exact hq.elim
 ·rename_i u d e1 e2
  have:=jar h;subst this
  refine ⟨.iface t v,?_,.raw _⟩
  simp only [Instr.makeInterface,Sem.run_bind,run_underlying e2,Result.andThen_ok]
  cases d<;>first | rfl | (simp [jka,e2] at e1)
 ·rename_i d _ e1 hu
  refine ⟨.iface t v,?_,.ifc t _ v h⟩
  simp only [Instr.makeInterface,Sem.run_bind,run_underlying hu,Result.andThen_ok]
  cases d<;>first | rfl | (simp [jka,hu] at e1)
theorem j6E {t:TypeId} (h:jp5 P t=true):∃ k e,P.underlying t=some (.map k e):=by
 unfold jp5 at h
 split at h
 ·exact ⟨_,_,by assumption⟩
 ·cases h
theorem jhX:∀ (n:Nat) (ks vs:List Value),(jgo n ks vs).length=min ks.length vs.length
 | n,[],vs=>by simp [jgo]
 | n,k::ks,[]=>by simp [jgo]
 | n,k::ks,v::vs=>by simp [jgo,jhX (n+1) ks vs]
theorem jqF (ty t:TypeId) (ts:List TypeId) {a:AV} {v:Value} (vs:List Value) (hw:RelW w H) (h:RelV w a v):jhL P w (Builtin.len_ (t::ts).toArray ty (v::vs).toArray) (jvg P H t a):=by
 intro hq
 unfold jvg at *
 split at hq<;>try exact hq.elim
 ·split at hq<;>try exact hq.elim
  rename_i hm
  rw [if_pos hm]
  split at hq<;>try exact hq.elim
  rename_i ks vs hi
  obtain ⟨k,e,ht⟩:=j6E hq
  cases h with
  | mr _ b t' s hn=>
   obtain ⟨hok,z,hz,hrow⟩:=hw.rows _ _ hi
   have:z=.at b t' s:=by have hz:w.nm _ 0=some z:=hz;rw [hn] at hz;cases hz;rfl
   subst this
   obtain ⟨_,cur,hh,hfit,_⟩:=hrow
   have hh:w.heap[b]?=some (.map (jgo 0 ks cur.toList).toArray ks.length):=hh
   have hfit:cur.size=vs.length:=hfit
   have hok:ks.length=vs.length:=hok
   refine ⟨_,?_,.raw _⟩
   simp [Builtin.len_,run_underlying ht,MapKept.run_getObj_map hh,goInt,jhX,hok,hfit]
 ·obtain ⟨e,ht⟩:=jfa hq
  cases h<;>exact ⟨_,by simp [Builtin.len_,run_underlying ht,goInt];try rfl,.raw _⟩
 ·obtain ⟨e,ht⟩:=jfa hq
  cases h<;>exact ⟨_,by simp [Builtin.len_,run_underlying ht,goInt];try rfl,.raw _⟩
 ·obtain ⟨e,ht⟩:=jfa hq
  cases h<;>exact ⟨_,by simp [Builtin.len_,run_underlying ht,goInt];try rfl,.raw _⟩
 ·obtain ⟨e,ht⟩:=jfa hq
  have:=jar h;subst this
  exact ⟨_,by simp [Builtin.len_,run_underlying ht,goInt],.raw _⟩
 ·have ht:=jzU hq
  have:=jar h;subst this
  exact ⟨_,by simp [Builtin.len_,run_underlying ht,goInt],.raw _⟩
theorem jqC (ty t:TypeId) (ts:List TypeId) {a:AV} {v:Value} (vs:List Value) (h:RelV w a v):jhL P w (Builtin.cap_ (t::ts).toArray ty (v::vs).toArray) (jzP P t a):=by
 intro hq
 unfold jzP at *
 split at hq<;>try exact hq.elim
 ·obtain ⟨e,ht⟩:=jfa hq
  cases h with
  | sl0 _ _ _ c hx=>have:=hx rfl;subst this;exact ⟨_,by simp [Builtin.cap_,run_underlying ht,goInt],.raw _⟩
  | sl _ _ _ _ c _ _ _ hx=>have:=(hx rfl).1;subst this;exact ⟨_,by simp [Builtin.cap_,run_underlying ht,goInt],.raw _⟩
 ·obtain ⟨e,ht⟩:=jfa hq
  have:=jar h;subst this
  exact ⟨_,by simp [Builtin.cap_,run_underlying ht,goInt],.raw _⟩
end
end Go.Gd
