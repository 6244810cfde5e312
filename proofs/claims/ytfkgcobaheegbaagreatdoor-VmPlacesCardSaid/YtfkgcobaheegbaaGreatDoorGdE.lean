/- Lemmas. No conditions. -/
import Derived.Test.YtfkgcobaheegbaaGreatDoorGdB
import Derived.Laws.Slices
import Derived.WalkKit
import Derived.Laws.StructEq
set_option linter.all false
namespace Go.Gd
open Go
def da(P:Program)(t:TypeId):Option Nat:=(P.info? t).map (·.size)
def dG(P:Program)(t:TypeId):Option Bool:=(P.underlying t).map fun|.struct _|.array _ _=>true|_=>false
def cw(P:Program)(t:TypeId)(f:Nat):Option Nat:=match P.underlying t with
 |some (.struct fs)=>match fs[f]? with
  |some fd=>match da P fd.type with
   |some (_+1)=>some fd.offset
   |_=>none
  |none=>none
 |_=>none
def iw(P:Program)(t:TypeId):Option TypeId:=match P.underlying t with
 |some (.slice e)=>some e
 |_=>none
def ee(P:Program)(t:TypeId):Option (List Value):=((P.info? t).bind (·.zero)).map fun v=>v.cells.toList
def AV.one:AV->Bool
 |.raw v=>v.oneCell'
 |.sl ..=>true
 |.ip _=>true
 |.pt ..=>true
 |.rs ..=>true
 |.rv ..=>true
 |.mr _=>true
 |.fK ..=>true
 |.bd ..=>true
 |.j9 ..=>true
 |_=>false
def cR(l:List AV):Bool:=l.all AV.one
def AV.cells:AV->List AV
 |.agg cs=>cs
 |.raw (.agg vs)=>vs.toList.map .raw
 |v=>[v]
def lz(sz:Nat)(css:List (List AV)):Prop:=∀cs∈css,cs.length=sz/\cR cs=true
def pH(H:Hp):AV->Option (Prop×List AV)
 |.ip cs=>some (True,cs)
 |.pt i m k j=>match H.get i with
  |some (.var _ cs)=>some (m=0,cs.drop j)
  |some (.aO _ _ css)=>some (m=css.length/\k<css.length,(css.getD k []).drop j)
  |some (.mp _ _)=>none
  |none=>none
 |_=>none
theorem kf{sz:Nat}:∀{l:List (List AV)},(∀x∈l,x.length=sz)->l.flatten.length=l.length*sz
 |[],_=>by simp
 |x::l,h=>by
  have ih:=kf (l:=l) (fun y hy=>h y (by simp[hy]));have hx:=h x jE;simp only[List.flatten_cons,List.length_append,hx,ih,List.length_cons,Nat.add_mul,Nat.one_mul];omega
theorem pU{sz:Nat}:∀{l:List (List AV)} {i j:Nat},(∀x∈l,x.length=sz)->i<l.length->j<sz->l.flatten[i*sz+j]?=(l.getD i [])[j]?
 |[],i,j,_,h,_=>by simp at h
 |x::l,i,j,hx,hi,hj=>by
  have hxl:=hx x jE;cases i with
  |zero=>simp only[List.flatten_cons,Nat.zero_mul,Nat.zero_add,List.getD_cons_zero];rw[List.getElem?_append_left jB]
  |succ i=>
   simp only[List.flatten_cons,List.getD_cons_succ];rw[List.getElem?_append_right (by rw[Nat.add_mul];omega),hxl,show(i+1)*sz+j-sz=i*sz+j by rw[Nat.add_mul];omega];exact pU (fun y hy=>hx y (by simp[hy])) (by simpa using hi) hj
variable{sz:Nat}
theorem yO{i j n:Nat}(hi:i<n)(hj:j<sz):i*sz+j<n*sz:=by
 have:=Nat.mul_le_mul_right sz (show i+1<=n from hi);rw[Nat.add_mul]at this;omega
theorem uT{k n:Nat}(h:k<n*sz):∃i j,i<n/\j<sz/\k=i*sz+j:=by
 have hz:0<sz:=by rcases Nat.eq_zero_or_pos sz with rfl|h'<;>simp_all
 exact⟨k / sz,k % sz,by rw[Nat.div_lt_iff_lt_mul hz];exact h,Nat.mod_lt _ hz,by rw[Nat.mul_comm];exact(Nat.div_add_mod k sz).symm⟩
theorem uQ{css:List (List AV)}(h:∀cs∈css,cs.length=sz){k:Nat}(hk:k<css.length):(css.getD k []).length=sz:=by
 have:css.getD k []=css[k]:=by simp[hk]
 rw[this];exact h _ (List.getElem_mem hk)
section
variable {P:Program}{w:NW}{H:Hp}
theorem av.one{a:AV}{v:Value}(h:av w a v)(h1:a.one=true):v.oneCell'=true:=by
 cases h<;>first|exact h1|rfl|simp[AV.one]at h1
theorem tI{w:World}(g i:Nat)(cur:Array Value)(t:TypeId)(fr:Nat×Nat)(hg:w.heap[g]?=some (.cells cur t fr)):w.cell? ⟨g,i,none⟩=cur[i]?:=by simp[World.cell?,hg]
variable{va:Value}{cs:List AV}
theorem Dr{a:AV}{c:Prop}(h:av w a va)(hw:aP w H)(hc:pH H a=some (c,cs))(hcc:c) :
  ∃(ad:Addr) (vs:Nat->Value),va=.pointer (some ad)/\(∀j,j<cs.length->w.cell? (ad.add j)=some (vs j))/\∀(j:Nat) u,cs[j]?=some u->av w u (vs j):=by
 unfold pH at hc;split at hc
 ·cases hc
  cases h with
  |ip _ ad vs hb hH hcell hr=>exact⟨ad,vs,rfl,hcell,fun j u hu=>(hr j u hu).l6⟩
 ·rename_i i m k j
  cases h with
  |pt _ _ _ _ b t s hn=>
  split at hc
  ·rename_i ty cs' hi
   cases hc;subst hcc;obtain⟨hok,z,hz,hrow⟩:=hw.rows i _ hi;have:z=.at b t s:=by have hz:w.nm i 0=some z:=hz;rw[hn]at hz;cases hz;rfl
   subst this;obtain⟨rfl,cur,hh,⟨hs,hl⟩,hr⟩:=hrow;have hsr:(Row.var ty cs').bA=0:=rfl;refine⟨⟨b,k*(Row.var ty cs').bA+j,none⟩,fun q=>cur.getD (j+q) undef,rfl,fun q hq=>?_,fun q u hu=>?_⟩
   ·rw[k9,hsr,Nat.mul_zero,Nat.zero_add,tI b _ cur _ (0,0) hh]
    simp only[List.length_drop]at hq;have hl:cs'.length<=t:=hl;have:j+q<cur.size:=jB
    simp[this]
   ·rw[List.getElem?_drop]at hu
    have hlt:j+q<cs'.length:=(List.getElem?_eq_some_iff.1 hu).1;have hl:cs'.length<=t:=hl;have:j+q<cur.size:=jB
    exact hr _ _ _ hu (by simp[this])
  ·rename_i e sz css hi
   cases hc;obtain⟨rfl,hk⟩:=hcc;obtain⟨hok,z,hz,hrow⟩:=hw.rows i _ hi;have:z=.at b t s:=by have hz:w.nm i css.length=some z:=hz;rw[hn]at hz;cases hz;rfl
   subst this;obtain⟨hs_,cur,hh,⟨hs,hl⟩,hr⟩:=hrow;have hs_:sz=s:=hs_.symm;subst hs_;have hsr:(Row.aO e sz css).bA=sz:=rfl;have hlen:=uQ hok.2 hk;have hfl:(Row.aO e sz css).cells.length=css.length*sz:=kf hok.2;refine⟨⟨b,k*sz+j,none⟩,fun q=>cur.getD (k*sz+(j+q)) undef,rfl,fun q hq=>?_,fun q u hu=>?_⟩
   ·simp only[List.length_drop,hlen]at hq
    rw[k9,tI b _ cur _ (0,0) hh];have:=yO hk (show j+q<sz from jB);have:k*sz+(j+q)<cur.size:=jB
    rw[Nat.add_assoc];simp[this]
   ·rw[List.getElem?_drop]at hu
    have hlt:j+q<sz:=by have:=(List.getElem?_eq_some_iff.1 hu).1;omega
    have h3:=yO hk hlt;refine hr (k*sz+(j+q)) u _ ?_ ?_
    ·show css.flatten[k*sz+(j+q)]?=some u
     rw[pU hok.2 hk hlt];exact hu
    ·have:k*sz+(j+q)<cur.size:=jB
     simp[this]
  ·cases hc
  ·cases hc
 ·cases hc
variable{t:TypeId}
theorem vh{w:World}{b:Bool}(h:dG P t=some b):(isAgg t).run P w=.ok b w:=by
 unfold dG at h;cases hu:P.underlying t with
 |none=>rw[hu]at h;cases h
 |some d=>
  rw[hu]at h;simp only[Option.map_some,Option.some.injEq]at h;simp only[isAgg,Sem.run_bind,run_underlying hu,Result.andThen_ok];subst h;cases d<;>rfl
variable{k:Nat}
theorem lQ{w:World}(h:da P t=some k):(sizeOf t).run P w=.ok k w:=by
 unfold da at h;cases hi:P.info? t with
 |none=>rw[hi]at h;cases h
 |some i=>
  rw[hi]at h;simp only[Option.map_some,Option.some.injEq]at h;simp[sizeOf,typeInfo,hi,h]
def sX(ag:Bool)(k:Nat)(cs:List AV):AV:=if ag then .agg (cs.take k)else cs.getD 0 .any
theorem CJ{ad:Addr}{vs:Nat->Value}{ag:Bool}(hag:dG P t=some ag)(hsz:da P t=some k)(hk:k<=cs.length)(hk1:1<=cs.length)
  (hcell:∀j,j<cs.length->w.cell? (ad.add j)=some (vs j)) (hr:∀(j:Nat) u,cs[j]?=some u->av w u (vs j)) :
  ∃v,(loadVar t ad).run P w.toWorld=.ok v w.toWorld/\av w (sX ag k cs) v:=by
 simp only[loadVar,Sem.run_bind,vh hag,Result.andThen_ok];cases ag with
 |false=>
  simp only[Bool.false_eq_true,if_false,sX];have h0:=hcell 0 jB;rw[DR]at h0;refine⟨vs 0,by rw[run_load];simp[h0],?_⟩;have:cs[0]?=some (cs.getD 0 .any):=by simp[List.getElem?_eq_getElem (show 0<cs.length from jB)]
  exact hr 0 _ this
 |true=>
  simp only[if_true,sX];simp only[Sem.run_bind,lQ hsz,Result.andThen_ok,run_loadCells w.toWorld ad k vs (fun j hj=>hcell j jB),Sem.run_pure];refine⟨_,rfl,.agg _ _ jF fun i a v ha hv=>?_⟩;have hi:i<k:=by
   have:=(List.getElem?_eq_some_iff.1 ha).1;simp at this;omega
  rw[List.getElem?_take,if_pos hi]at ha;have hv':v=vs i:=by
   have:(List.map vs (List.range k)).toArray[i]?=some (vs i):=by simp[hi]
   rw[this]at hv;cases hv;rfl
  subst hv';exact hr i a ha
theorem G3{a:AV}{c:Prop}{ag:Bool}(h:av w a va)(hw:aP w H)(hc:pH H a=some (c,cs))(hcc:c)(hag:dG P t=some ag)(hsz:da P t=some k)(hk:k<=cs.length)(hk1:1<=cs.length) :
  ∃v,(Instr.loadAt t va).run P w.toWorld=.ok v w.toWorld/\av w (sX ag k cs) v:=by
 obtain⟨ad,vs,rfl,hcell,hr⟩:=Dr h hw hc hcc;obtain⟨v,h1,h2⟩:=CJ hag hsz hk hk1 hcell hr;exact⟨v,by simpa[Instr.loadAt,Instr.sureAddr]using h1,h2⟩
variable{v:Value}
theorem av.gp{a:AV}(h:av w a v)(h1:cR a.cells=true):cc w a.cells v.cells.toList:=by
 unfold AV.cells at*;split
 ·rename_i cs
  cases h with
  |agg _ vs hl hr=>exact⟨by simpa[Value.cells]using hl,fun i a v ha hv=>hr i a v ha (by simpa[Value.cells]using hv)⟩
 ·rename_i vs
  cases h;refine⟨by simp[Value.cells],fun i a v ha hv=>?_⟩;simp only[List.getElem?_map,Option.map_eq_some_iff]at ha;obtain⟨x,hx,rfl⟩:=ha;simp only[Value.cells]at hv;rw[hx]at hv;cases hv;exact .raw _
 ·rename_i hna hnr
  have h1':a.one=true:=by simpa[cR]using h1
  have ho:=h.one h1';have hcv:v.cells=#[v]:=by
   cases v<;>first|rfl|simp[Value.oneCell']at ho
  rw[hcv];refine⟨rfl,fun i a' v' ha hv=>?_⟩;cases i with
  |zero=>simp at ha hv;subst ha hv;exact h
  |succ i=>simp at ha
theorem cc.cR{cs:List AV}{vs:List Value}(h:cc w cs vs)(h1:cR cs=true):∀v∈vs,v.oneCell'=true:=by
 intro v hv;obtain⟨i,hi⟩:=List.getElem?_of_mem hv;have hlt:i<cs.length:=by rw[h.1];exact(List.getElem?_eq_some_iff.1 hi).1
 have:=h.2 i cs[i] v (List.getElem?_eq_getElem hlt) hi;exact this.one (by simp only[Gd.cR,List.all_eq_true]at h1;exact h1 _ (List.getElem_mem hlt))
def jQ(cells:List AV)(off:Nat)(new:List AV):List AV:=cells.take off++new++cells.drop (off+new.length)
variable{new:List AV}{off:Nat}
theorem Db{cells:List AV}(h:off+new.length<=cells.length):(jQ cells off new).length=cells.length:=by
 simp[jQ];omega
theorem FD{cells:List AV}{p:Nat}(h:off<=cells.length):(jQ cells off new)[p]?=if off<=p/\p<off+new.length then new[p-off]? else cells[p]?:=by
 unfold jQ;rcases Nat.lt_or_ge p off with h1|h1
 ·rw[jN,List.append_assoc,List.getElem?_append_left jF,List.getElem?_take,if_pos h1]
 ·rcases Nat.lt_or_ge p (off+new.length)with h2|h2
  ·rw[if_pos ⟨h1,h2⟩,List.append_assoc,List.getElem?_append_right jF,List.getElem?_append_left jF]
   congr 1;simp;omega
  ·rw[jN,List.getElem?_append_right jF]
   simp only[List.length_append,List.length_take,List.getElem?_drop];congr 1;omega
variable{i:Nat}
theorem vz{b t:Nat}{r r':Row}{vs:List Value}(hw:aP w H)(hi:H.get i=some r)(hnm:w.nm i r.fE=some (.at b t r.bA))(hn:cc w new vs)(h1:Gd.cR new=true)(hfit:off+new.length<=t)
  (hi1:r.za=true) (hi2:r'.za=true) (hs:r'.bA=r.bA) (he:r'.elem=r.elem) (hv:r.fE<=r'.fE) (hok:r'.ok) (hle:r'.cells.length<=t) (hcells:∀(p:Nat) a,r'.cells[p]?=some a->if off<=p/\p<off+new.length then new[p-off]?=some a else r.cells[p]?=some a) :
  ∃w':NW,(storeCells ⟨b,off,none⟩ vs).run P w.toWorld=.ok () w'.toWorld/\aP w' (H.put i r')/\Ext w H w' (H.put i r')/\w'.nm i r'.fE=some (.at b t r.bA):=by
 obtain⟨_,z,hz,hrow⟩:=hw.rows i r hi;rw[hnm]at hz;cases hz;obtain⟨_,cur,hh,hfit',hr⟩:=hrow;rw[Row.rq hi1]at hfit';obtain⟨hsz,hl⟩:=hfit';rw[Row.rA hi1]at hh;have hlen:=hn.1;have hrun:=run_storeCells_at P b off r.elem vs 0 cur w.toWorld hh jB (hn.cR h1);rw[Nat.add_zero]at hrun;generalize hcur:(cur.toList.take off++vs++cur.toList.drop (off+vs.length)).toArray=cur' at hrun;have hsz':cur'.size=t:=by
  subst hcur;simp;omega
 have hheap:(w.toWorld.setRow b cur').heap[b]?=some (.cells cur' r.elem (0,0)):=setRow_heap w.toWorld b cur cur' r.elem (0,0) hh;have hoth:∀c,c≠b->(w.toWorld.setRow b cur').heap[c]?=w.heap[c]?:=fun c hc=>setRow_other w.toWorld b c cur' hc
 have hsame:(w.toWorld.setRow b cur').heap.size=w.heap.size:=size_setRow w.toWorld b cur';obtain⟨g1,g2⟩:=HA (W:=w.toWorld.setRow b cur') hw hi hnm hs hv hok rfl rfl rfl hsame hoth cur' (by rw[Row.rA hi2,he];exact hheap) (by rw[Row.rq hi2];exact⟨hsz',hle⟩) (fun p a v ha hv=>by
  have hp:=hcells p a ha;have hpl:p<t:=by have:=(List.getElem?_eq_some_iff.1 ha).1;omega
  subst hcur;simp only[List.getElem?_toArray]at hv;split at hp
  ·rename_i hin
   rw[List.append_assoc,List.getElem?_append_right jF,List.getElem?_append_left jF]at hv;simp only[List.length_take,Array.length_toList]at hv;rw[show p-min off cur.size=p-off from jB]at hv;exact hn.2 _ a v hp hv
  ·rename_i hin
   refine hr p a v hp ?_;rcases Nat.lt_or_ge p off with h1|h1
   ·rw[List.append_assoc,List.getElem?_append_left jF,List.getElem?_take,if_pos h1]at hv
    simpa using hv
   ·rw[List.getElem?_append_right jF]at hv
    simp only[List.length_append,List.length_take,Array.length_toList,List.getElem?_drop]at hv;rw[show off+vs.length+(p-(min off cur.size+vs.length))=p from jB]at hv;simpa using hv)
 exact⟨_,hrun,g1,g2,NW.bY _ _ _ _⟩
def yr(r:Row)(k j:Nat)(new:List AV):Row:=match r with
 |.var t cs=>.var t (jQ cs j new)
 |.aO e sz css=>.aO e sz (css.set k (jQ (css.getD k []) j new))
 |.mp ks vs=>.mp ks vs
def A8(r:Row)(m k j n:Nat):Prop:=match r with
 |.var _ cs=>m=0/\j+n<=cs.length
 |.aO _ _ css=>m=css.length/\k<css.length/\j+n<=(css.getD k []).length
 |.mp _ _=>False
theorem M9{ty:TypeId}{m j n:Nat}{r:Row}{x:AV}(hw:aP w H)(ha:av w (.pt i m k j) va)(hi:H.get i=some r)(hx:av w x v)(h1:Gd.cR x.cells=true)(hsz:da P ty=some n)(hn:x.cells.length=n)(hst:A8 r m k j n) :
  ∃w':NW,(Instr.storeAt ty va v).run P w.toWorld=.ok () w'.toWorld/\aP w' (H.put i (yr r k j x.cells))/\Ext w H w' (H.put i (yr r k j x.cells)):=by
 have hc:=hx.gp h1;have hsize:v.cells.size=n:=by have:=hc.1;simp at this;omega
 have run:∀{W:World} (b off:Nat),(storeCells ⟨b,off,none⟩ v.cells.toList).run P w.toWorld=.ok () W->(Instr.storeAt ty (.pointer (some ⟨b,off,none⟩)) v).run P w.toWorld=.ok () W:=fun b off hrun=>by
  simp only[Instr.storeAt,Instr.sureAddr,pure_bind,storeVar,Sem.run_bind,lQ hsz,Result.andThen_ok,hsize,ne_eq,not_true_eq_false,if_false];simpa using hrun
 obtain⟨hok,z,hz,hrow⟩:=hw.rows i r hi;cases ha with
 |pt _ _ _ _ b t s hnm=>
 cases r with
 |var ty' cs=>
  obtain⟨rfl,hfit⟩:=hst;have hz:w.nm i 0=some z:=hz;rw[hnm]at hz;cases hz;obtain⟨rfl,cur,hh,⟨hsz',hl⟩,hr⟩:=hrow;have hl:cs.length<=t:=hl;have hs0:(Row.var ty' cs).bA=0:=rfl;have hsp:=Db (cells:=cs) (new:=x.cells) (off:=j) jB;obtain⟨w',hrun,g1,g2,_⟩:=vz (P:=P) (off:=j) (r':=.var ty' (jQ cs j x.cells)) hw hi hnm hc h1 jB rfl rfl rfl rfl jl trivial (by show(jQ cs j x.cells).length<=t;omega) (fun p a hp=>by
   have hp:(jQ cs j x.cells)[p]?=some a:=hp;rw[FD jB]at hp;split at hp
   ·rename_i h;rw[if_pos h];exact hp
   ·rename_i h;rw[if_neg h];exact hp)
  refine⟨w',run _ _ ?_,g1,g2⟩;rw[hs0,Nat.mul_zero,Nat.zero_add];exact hrun
 |aO e sz css=>
  obtain⟨rfl,hk,hfit⟩:=hst;have hz:w.nm i css.length=some z:=hz;rw[hnm]at hz;cases hz;obtain⟨hs_,cur,hh,⟨hsz',hl⟩,hr⟩:=hrow;have hs_:sz=s:=hs_.symm;subst hs_;have hs0:(Row.aO e sz css).bA=sz:=rfl;have hlen:=uQ hok.2 hk;have hfl:(Row.aO e sz css).cells.length=css.length*sz:=kf hok.2;have hlt:j+n<=sz:=jB
  have hmul:=Nat.mul_le_mul_right sz (show k+1<=css.length from hk);rw[Nat.add_mul,Nat.one_mul]at hmul;have hsp:=Db (cells:=css.getD k []) (new:=x.cells) (off:=j) jB;have hok':∀cs∈css.set k (jQ (css.getD k []) j x.cells),cs.length=sz:=fun cs h=>by
   rcases List.mem_or_eq_of_mem_set h with h|h
   ·exact hok.2 _ h
   ·rw[h,hsp,hlen]
  have hfl':(css.set k (jQ (css.getD k []) j x.cells)).flatten.length=css.length*sz:=by rw[kf hok',List.length_set]
  obtain⟨w',hrun,g1,g2,_⟩:=vz (P:=P) (off:=k*sz+j) (r':=.aO e sz (css.set k (jQ (css.getD k []) j x.cells))) hw hi hnm hc h1 jB rfl rfl rfl rfl (by show css.length<=(css.set _ _).length;simp) ⟨hok.1,hok'⟩ (by show(List.flatten _).length<=t;omega) (fun p a hp=>by
   have hp:(css.set k (jQ (css.getD k []) j x.cells)).flatten[p]?=some a:=hp;have hpl:p<css.length*sz:=by have:=(List.getElem?_eq_some_iff.1 hp).1;omega
   obtain⟨q,l,hq,hl',rfl⟩:=uT hpl;rw[pU hok' (by simpa using hq) hl']at hp;show if k*sz+j<=q*sz+l/\q*sz+l<k*sz+j+x.cells.length then _ else css.flatten[q*sz+l]?=some a
   rw[pU hok.2 hq hl'];by_cases e':q=k
   ·subst e'
    have e1:(css.set q (jQ (css.getD q []) j x.cells)).getD q []=jQ (css.getD q []) j x.cells:=by simp[hk]
    rw[e1,FD jB]at hp;split at hp
    ·rename_i h
     rw[jP,show q*sz+l-(q*sz+j)=l-j from jB];exact hp
    ·rename_i h
     rw[jN];exact hp
   ·have e1:(css.set k (jQ (css.getD k []) j x.cells)).getD q []=css.getD q []:=by simp[List.getElem?_set,Ne.symm e']
    rw[e1]at hp;rw[if_neg]
    ·exact hp
    ·rintro⟨h1,h2⟩
     apply e';rcases Nat.lt_trichotomy q k with h|h|h
     ·have:=Nat.mul_le_mul_right sz (show q+1<=k from h)
      rw[Nat.add_mul]at this;omega
     ·exact h
     ·have:=Nat.mul_le_mul_right sz (show k+1<=q from h)
      rw[Nat.add_mul]at this;omega)
  exact⟨w',run _ _ hrun,g1,g2⟩
 |mp ks vs=>exact hst.elim
theorem M4{x:AV}(hw:aP w H)(hi:H.get i=none)(hx:av w x v)(h1:Gd.cR x.cells=true) :
  ∃(u:Value) (w':NW),(Instr.box t v).run P w.toWorld=.ok u w'.toWorld/\av w' (.pt i 0 0 0) u/\aP w' (H.put i (.var t x.cells))/\Ext w H w' (H.put i (.var t x.cells)):=by
 have hc:=hx.gp h1;have hlen:x.cells.length=v.cells.size:=by have:=hc.1;simpa using this
 obtain⟨g1,g2⟩:=uV (row:=.var t x.cells) hw (hw.none hi _) (fun r' hr=>by rw[hi]at hr;cases hr) trivial v.cells ⟨rfl,by show x.cells.length<=_;omega⟩ (fun k a u ha hu=>hc.2 k a u ha (by simpa using hu));refine⟨.pointer (some ⟨w.heap.size,0,none⟩),_,by simp[Instr.box,newVar,newRow];rfl,?_,g1,g2⟩;have:=av.pt (w:=((w.to (w.alloc ((Row.var t x.cells).obj v.cells))).fM w.heap.size).name i (Row.var t x.cells).fE (.at w.heap.size v.cells.size (Row.var t x.cells).bA)) i 0 0 0 w.heap.size v.cells.size 0 (NW.bY _ _ _ _);simpa using this
variable{zs:List Value}
theorem xh{w:World}(h:ee P t=some zs):∃z:Value,(zeroValue t).run P w=.ok z w/\z.cells.toList=zs:=by
 unfold ee at h;cases hi:P.info? t with
 |none=>rw[hi]at h;cases h
 |some i=>
  rw[hi]at h;simp only[Option.bind_some,Option.map_eq_some_iff]at h;obtain⟨z,hz,rfl⟩:=h;exact⟨z,by simp[zeroValue,typeInfo,hi,hz],rfl⟩
theorem NZ(hw:aP w H)(hi:H.get i=none)(hz:ee P t=some zs) :
  ∃(u:Value) (w':NW),(Instr.alloc t true (.tuple #[])).run P w.toWorld=.ok u w'.toWorld/\av w' (.pt i 0 0 0) u/\aP w' (H.put i (.var t (zs.map .raw)))/\Ext w H w' (H.put i (.var t (zs.map .raw))):=by
 obtain⟨z,hrun,rfl⟩:=xh (w:=w.toWorld) hz;obtain⟨g1,g2⟩:=uV (row:=.var t (z.cells.toList.map .raw)) hw (hw.none hi _) (fun r' hr=>by rw[hi]at hr;cases hr) trivial z.cells ⟨rfl,by show(z.cells.toList.map AV.raw).length<=_;simp⟩ (fun k a u ha hu=>by
  have ha:(z.cells.toList.map AV.raw)[k]?=some a:=ha;simp only[List.getElem?_map,Array.getElem?_toList,hu,Option.map_some,Option.some.injEq]at ha;subst ha;exact .raw _)
 refine⟨.pointer (some ⟨w.heap.size,0,none⟩),_,by simp[Instr.alloc,hrun,newVar,newRow];rfl,?_,g1,g2⟩;have:=av.pt (w:=((w.to (w.alloc ((Row.var t (z.cells.toList.map .raw)).obj z.cells))).fM w.heap.size).name i (Row.var t (z.cells.toList.map .raw)).fE (.at w.heap.size z.cells.size (Row.var t (z.cells.toList.map .raw)).bA)) i 0 0 0 w.heap.size z.cells.size 0 (NW.bY _ _ _ _);simpa using this
end
abbrev PA:=Prop×AV
def gy:PA:=(False,.any)
def jm(P:Program)(w:NW)(s:Sem Value)(q:PA):Prop:=q.1->∃v,s.run P w.toWorld=.ok v w.toWorld/\av w q.2 v
theorem He{P:Program}{w:NW}{s:Sem Value}:jm P w s gy:=fun h=>h.elim
def lr:AV->Bool×AV
 |.gd p v=>(p,v)
 |v=>(true,v)
def ve(c x y:Bool):Bool:=if c then x else y
def nq(c a b:AV):PA:=match c,lr a,lr b with
 |.raw (.bool c),(pa,.raw (.bool x)),(pb,.raw (.bool y))=>((c=true->pa=true)/\(c=false->pb=true),.raw (.bool (ve c x y)))
 |_,_,_=>gy
def ra:AV->PA
 |.ip cs=>(True,.ip cs)
 |.pt i m k j=>(True,.pt i m k j)
 |.raw (.pointer (some a))=>(True,.raw (.pointer (some a)))
 |.raw (.func (.func f) x y)=>(True,.raw (.func (.func f) x y))
 |.raw (.iface t v)=>(True,.raw (.iface t v))
 |.raw (.slice a n c)=>(True,.raw (.slice a n c))
 |.raw (.map (some r))=>(True,.raw (.map (some r)))
 |_=>gy
def rO(op:BinOp)(k:IntKind)(x y:Int):Int:=
 let a:=BitVec.ofInt k.bits x
 let b:=BitVec.ofInt k.bits y
 match op with
 |.and=>k.wrap (a &&& b).toNat
 |.or=>k.wrap (a ||| b).toNat
 |.xor=>k.wrap (a ^^^ b).toNat
 |_=>k.wrap (a &&& ~~~b).toNat
def yu(op:BinOp)(k:IntKind)(a:Int)(k':IntKind)(b:Int):PA:=match op with
 |.add=>(k=k',.raw (.int k (k.wrap (a+b))))
 |.sub=>(k=k',.raw (.int k (k.wrap (a-b))))
 |.mul=>(k=k',.raw (.int k (k.wrap (a*b))))
 |.quo=>(k=k'/\b≠0,.raw (.int k (k.wrap (a.tdiv b))))
 |.rem=>(k=k'/\b≠0,.raw (.int k (a.tmod b)))
 |.and=>(k=k',.raw (.int k (rO .and k a b)))
 |.or=>(k=k',.raw (.int k (rO .or k a b)))
 |.xor=>(k=k',.raw (.int k (rO .xor k a b)))
 |.andNot=>(k=k',.raw (.int k (rO .andNot k a b)))
 |.shl=>(0<=b,.raw (.int k (k.wrap (a*2 ^ (min b.toNat k.bits)))))
 |.shr=>(0<=b,.raw (.int k (a.fdiv (2 ^ (min b.toNat k.bits)))))
 |.eql=>(k=k',.raw (.bool (decide (a=b))))
 |.neq=>(k=k',.raw (.bool (!decide (a=b))))
 |.lss=>(k=k',.raw (.bool (decide (a<b))))
 |.leq=>(k=k',.raw (.bool (decide (a<=b))))
 |.gtr=>(k=k',.raw (.bool (decide (b<a))))
 |.geq=>(k=k',.raw (.bool (decide (b<=a))))
def ya(op:BinOp)(a b:ByteArray):PA:=match op with
 |.add=>(a.size+b.size<=9223372036854775807,.raw (.string (a++b)))
 |.eql=>(True,.raw (.bool (decide (a=b))))
 |.neq=>(True,.raw (.bool (!decide (a=b))))
 |.lss=>(True,.raw (.bool (Op.bytesLess a.toList b.toList)))
 |.gtr=>(True,.raw (.bool (!(Op.bytesLess a.toList b.toList || decide (a=b)))))
 |.leq=>(True,.raw (.bool (Op.bytesLess a.toList b.toList || decide (a=b))))
 |.geq=>(True,.raw (.bool (!(Op.bytesLess a.toList b.toList))))
 |_=>gy
def jo:List AV->List AV->Bool
 |[],[]=>true
 |.raw (.int _ a)::l,.raw (.int _ b)::m=>decide (a=b) && jo l m
 |.raw (.string a)::l,.raw (.string b)::m=>decide (a=b) && jo l m
 |.raw (.bool a)::l,.raw (.bool b)::m=>(a == b) && jo l m
 |_,_=>false
def qU(P:Program)(t:TypeId):Bool:=match P.underlying t with
 |some (.pointer _)=>true
 |_=>false
def ze(P:Program)(t:TypeId):Bool:=match P.underlying t with
 |some (.interface _)=>true
 |_=>false
def vf(P:Program)(t:TypeId):Bool:=match P.underlying t with
 |some .bool=>true
 |_=>false
def tj(P:Program)(t:TypeId):Bool:=match P.underlying t with
 |some .string=>true
 |_=>false
def gK(P:Program)(t:TypeId):Bool:=match P.underlying t with
 |some (.slice _)=>true
 |_=>false
inductive LK where
 |int (k:IntKind)|str|bool
 deriving DecidableEq
def jR:AV->Option LK
 |.raw (.int k _)=>some (.int k)
 |.raw (.string _)=>some .str
 |.raw (.bool _)=>some .bool
 |_=>none
def wL(P:Program)(leafK:TypeId->Option (List LK)):Nat->List Field->Option (List LK)
 |_,[]=>some []
 | off, f :: fs => if f.name ≠ "_" ∧ f.offset = off then match leafK f.type, da P f.type with
   |some ks,some k=>if ks.length=k then(wL P leafK (off+k) fs).map (ks++·)else none
   |_,_=>none
  else none
def sk(P:Program):Nat->TypeId->Option (List LK)
 |0,_=>none
 |d+1,t=>match P.underlying t with
  |some (.int k)=>some [.int k]
  |some .string=>some [.str]
  |some .bool=>some [.bool]
  |some (.struct fs)=>if P.stoodInHeld t then none else wL P (sk P d) 0 fs.toList
  |_=>none
def A4(P:Program)(t:TypeId):Option (List LK):=if P.eqGuardType P.depth t then none else sk P 8 t
def vk(P:Program)(ne:Bool)(t:TypeId)(x y:AV):PA:=match x,y with
 |.raw (.bool a),.raw (.bool b)=>(vf P t=true,.raw (.bool (ne ^^ (a == b))))
 |.raw (.pointer none),.raw (.pointer b)=>(qU P t=true,.raw (.bool (ne ^^ b.isNone)))
 |.raw (.pointer (some _)),.raw (.pointer none)=>(qU P t=true,.raw (.bool ne))
 |.ip _,.raw (.pointer none)=>(qU P t=true,.raw (.bool ne))
 |.pt ..,.raw (.pointer none)=>(qU P t=true,.raw (.bool ne))
 |.raw (.slice none _ _),.raw (.slice b _ _)=>(gK P t=true,.raw (.bool (ne ^^ b.isNone)))
 |.raw (.slice (some _) _ _),.raw (.slice none _ _)=>(gK P t=true,.raw (.bool ne))
 |.sl _ _ css _,.raw (.slice none _ _)=>(gK P t=true/\css≠[],.raw (.bool ne))
 |.agg cs,.agg ds=>match A4 P t with
  |some ks=>(dG P t=some true/\cs.map jR=ks.map some/\ds.map jR=ks.map some,.raw (.bool (ne ^^ jo cs ds)))
  |none=>gy
 |_,_=>gy
def fl(P:Program)(op:BinOp)(t:TypeId)(x y:AV):PA:=match x,y with
 |.raw (.int k a),.raw (.int k' b)=>yu op k a k' b
 |.raw (.string a),.raw (.string b)=>ya op a b
 |x,y=>match op with
  |.eql=>vk P false t x y
  |.neq=>vk P true t x y
  |_=>gy
def rh(op:UnOp)(x:AV):PA:=match op,x with
 |.not,.raw (.bool b)=>(True,.raw (.bool (!b)))
 |.neg,.raw (.int k n)=>(True,.raw (.int k (k.wrap (0-n))))
 |_,_=>gy
def oM(P:Program)(H:Hp)(t:TypeId)(a:AV):PA:=match pH H a,dG P t,da P t with
 |some (c,cs),some true,some k=>(c/\k<=cs.length/\1<=cs.length,.agg (cs.take k))
 |some (c,cs),some false,some k=>(c/\k<=cs.length/\1<=cs.length,cs.getD 0 .any)
 |_,_,_=>gy
def rk(P:Program)(t:TypeId)(a:AV)(f:Nat):PA:=match a,cw P t f with
 |.ip cs,some off=>(True,.ip (cs.drop off))
 |.pt i m k j,some off=>(True,.pt i m k (j+off))
 |_,_=>gy
def vF(P:Program)(t:TypeId)(f:Nat):Option (TypeId×Nat):=match P.underlying t with
 |some (.struct fs)=>(fs[f]?).map fun fd=>(fd.type,fd.offset)
 |_=>none
def xV(P:Program)(t:TypeId)(cs:List AV)(off:Nat):PA:=match dG P t,da P t with
 |some true,some k=>(off+k<=cs.length,.agg ((cs.drop off).take k))
 |some false,some _=>(off<cs.length,cs.getD off .any)
 |_,_=>gy
def ui(P:Program)(t:TypeId)(a:AV)(f:Nat):PA:=match a,vF P t f with
 |.agg cs,some (ft,off)=>xV P ft cs off
 |_,_=>gy
def iP(P:Program)(t:TypeId):Option Nat:=(iw P t).bind (da P)
def xg(P:Program)(t:TypeId):Option (Nat×Nat):=match P.underlying t with
 |some (.array len e)=>(da P e).map fun s=>(len,s)
 |_=>none
def ym(o:Option (Nat×Nat))(i:Int)(f:Nat->AV):PA:=match o with
 |some (len,s)=>(0<=i/\i<len,f (i.toNat*s))
 |none=>gy
def ru(P:Program)(t:TypeId)(a i:AV):PA:=match a,i with
 |.sl _ sz css d,.raw (.int _ i)=>(iP P t=some sz/\0<=i/\i<css.length,.ip (css.getD i.toNat d))
 |.rs d m sz n,.raw (.int _ i)=>(iP P t=some sz/\0<=i/\i<n,.pt d m i.toNat 0)
 |.rv d m sz o n,.raw (.int _ i)=>(iP P t=some sz/\0<=i/\i<n,.pt d m (o+i.toNat) 0)
 |.pt d m k j,.raw (.int _ i)=>ym (xg P t) i fun o=>.pt d m k (j+o)
 |.ip cs,.raw (.int _ i)=>ym (xg P t) i fun o=>.ip (cs.drop o)
 |_,_=>gy
def ec(s:ByteArray)(i:Int):Int:=((s.data[i.toNat]?.getD 0).toNat:Int)
def rf(P:Program)(t:TypeId)(a i:AV):PA:=match a,i with
 |.raw (.string s),.raw (.int _ i)=>(tj P t=true/\0<=i/\i<s.size,.raw (.int .u8 (ec s i)))
 |_,_=>gy
def uh(a:AV)(i:Nat):PA:=match a with
 |.bg vs=>(i<vs.length,vs.getD i .any)
 |_=>gy
def qD:Option AV->Option (Option Int)
 |none=>some none
 |some (.raw (.int _ i))=>some (some i)
 |_=>none
def rQ(P:Program)(t:TypeId)(a:AV)(lo hi mx:Option AV):PA:=match a,qD lo,qD hi,qD mx with
 |.raw (.string s),some lo,some hi,some none=>(tj P t=true/\0<=lo.getD 0/\lo.getD 0<=hi.getD s.size/\hi.getD s.size<=s.size,.raw (.string (s.extract (lo.getD 0).toNat (hi.getD s.size).toNat)))
 |.sl _ sz css d,some lo,some hi,some none=>
  (iP P t=some sz/\0<=lo.getD 0/\lo.getD 0<=hi.getD css.length/\hi.getD css.length<=css.length,.sl false sz ((css.drop (lo.getD 0).toNat).take ((hi.getD css.length).toNat-(lo.getD 0).toNat)) d)
 |.rs d m sz n,some none,some hi,some none=>(iP P t=some sz/\0<=hi.getD n/\hi.getD n<=n,.rs d m sz (hi.getD n).toNat)
 |.rs d m sz n,some (some lo),some hi,some none=>(iP P t=some sz/\0<=lo/\lo<=hi.getD n/\hi.getD n<=n,.rv d m sz lo.toNat ((hi.getD n).toNat-lo.toNat))
 |.rv d m sz o n,some lo,some hi,some none=>(iP P t=some sz/\0<=lo.getD 0/\lo.getD 0<=hi.getD n/\hi.getD n<=n,.rv d m sz (o+(lo.getD 0).toNat) ((hi.getD n).toNat-(lo.getD 0).toNat))
 |.rs d m sz n,some lo,some (some hi),some (some mx)=>(iP P t=some sz/\0<=lo.getD 0/\lo.getD 0<=hi/\hi<=mx/\mx<=n,.rv d m sz (lo.getD 0).toNat (hi.toNat-(lo.getD 0).toNat))
 |.raw (.slice none 0 0),some lo,some hi,some none=>(gK P t=true/\(iP P t).isSome=true/\lo.getD 0=0/\hi.getD 0=0,.raw (.slice none 0 0))
 |_,_,_,_=>gy
def Fe:List AV->Option (List Value)
 |[]=>some []
 |.raw v::l=>(Fe l).map (v::·)
 |_=>none
def uk(fn:Fn)(first captured:List AV):PA:=match fn,first with
 |.func f,[]=>(True,.fK f captured)
 |.func f,x::l=>(captured=[],.bd f (x::l))
 |_,_=>gy
def xq(P:Program)(t:TypeId)(x:AV):PA:=match x,ze P t,P.underlying t with
 |.raw v,false,some _=>(True,.raw (.iface t v))
 |a,false,some _=>(True,.j9 t a)
 |_,_,_=>gy
def zl(P:Program)(t:TypeId):Option IntKind:=match P.underlying t with
 |some (.int k)=>some k
 |_=>none
def uU(P:Program)(s d:TypeId)(x:AV):PA:=match x,zl P d with
 |.raw (.int _ n),some k=>((P.underlying s).isSome=true,.raw (.int k (k.wrap n)))
 |.raw (.string s'),none=>((P.underlying s).isSome=true/\tj P d=true,.raw (.string s'))
 |_,_=>gy
def AR(P:Program)(t:TypeId):Bool:=match P.underlying t with
 |some (.map _ _)=>true
 |_=>false
def sY(P:Program)(H:Hp)(t:TypeId)(x:AV):PA:=match x with
 |.mr i=>if jh.contains t=true then(match H.get i with
  |some (.mp ks _)=>(AR P t=true,.raw (.int .i64 ks.length))
  |_=>gy)else gy
 |.sl _ _ css _=>(gK P t=true,.raw (.int .i64 css.length))
 |.rs _ _ _ n=>(gK P t=true,.raw (.int .i64 n))
 |.rv _ _ _ _ n=>(gK P t=true,.raw (.int .i64 n))
 |.raw (.slice _ n _)=>(gK P t=true,.raw (.int .i64 n))
 |.raw (.string s)=>(tj P t=true,.raw (.int .i64 s.size))
 |_=>gy
def xw(P:Program)(t:TypeId)(x:AV):PA:=match x with
 |.sl true _ css _=>(gK P t=true,.raw (.int .i64 css.length))
 |.raw (.slice _ _ n)=>(gK P t=true,.raw (.int .i64 n))
 |_=>gy
def wg(mx:Bool)(args:List AV):PA:=match args with
 |[.raw (.int k a),.raw (.int k' b)]=>(k=k',.raw (.int k (if mx then(if b>a then b else a)else(if b<a then b else a))))
 |_=>gy
def mJ(P:Program)(H:Hp)(b:Builtin)(ts:List TypeId)(args:List AV):PA:=match b,ts,args with
 |.len,t::_,x::_=>sY P H t x
 |.cap,t::_,x::_=>xw P t x
 |.max,_,args=>wg true args
 |.min,_,args=>wg false args
 |_,_,_=>gy
def jV(P:Program)(t:TypeId):Option (List (Nat×Nat)):=match P.underlying t with
 |some (.struct fs)=>fs.toList.mapM fun f=>(da P f.type).map fun k=>(f.offset,k)
 |_=>none
def qy(pl:Nat->Option (Nat×Nat))(cells:List AV):List (Nat×AV)->Option (List AV)
 |[]=>some cells
 |(i,a)::rest=>match pl i with
  |some (off,k)=>if a.cells.length=k/\off+k<=cells.length then qy pl (jQ cells off a.cells) rest else none
  |none=>none
def tU(P:Program)(t:TypeId)(parts:List (Nat×AV)):PA:=match ee P t,jV P t with
 |some zs,some pl=>match qy (fun i=>pl[i]?) (zs.map .raw) parts with
  |some cs=>(cR ((parts.map fun p=>p.2.cells).flatten)=true,.agg cs)
  |none=>gy
 |_,_=>gy
def vq(P:Program)(ev:Operand->AV)(H:Hp):Op->PA
 |.move x=>(True,ev x)
 |.assign x=>(True,ev x)
 |.pick c a b=>nq (ev c) (ev a) (ev b)
 |.nilCheck x=>ra (ev x)
 |.binOp op t x y _=>fl P op t (ev x) (ev y)
 |.unOp op _ x=>rh op (ev x)
 |.load t a=>oM P H t (ev a)
 |.fieldAddr t a f=>rk P t (ev a) f
 |.field t a f=>ui P t (ev a) f
 |.indexAddr t a i=>ru P t (ev a) (ev i)
 |.index t a i=>rf P t (ev a) (ev i)
 |.extract a i=>uh (ev a) i
 |.slice t a lo hi mx=>rQ P t (ev a) (lo.map ev) (hi.map ev) (mx.map ev)
 |.makeFunc fn first captured=>uk fn (first.toList.map ev) (captured.toList.map ev)
 |.makeInterface t x=>xq P t (ev x)
 |.convert s d x=>uU P s d (ev x)
 |.build t parts=>tU P t (parts.toList.map fun p=>(p.1,ev p.2))
 |.call { callee:=.builtin b,args,argTypes }=>mJ P H b argTypes.toList (args.toList.map ev)
 |_=>gy
section
variable {P:Program}{w:NW}{H:Hp}
theorem de{v u:Value}(h:av w (.raw v) u):u=v:=by cases h;rfl
theorem zu(a b:Int):(a == b)=decide (a=b):=by rw[Bool.eq_iff_iff];simp
theorem wu(a b:ByteArray):(a.toList == b.toList)=decide (a=b):=by
 rw[Bool.eq_iff_iff,beq_iff_eq,decide_eq_true_iff];constructor
 ·intro h
  exact ByteArray.ext (by simpa[ByteArray.toList_eq]using h)
 ·rintro rfl;rfl
theorem xZ{a:AV}{lk:LK}(h:jR a=some lk):match lk with
  |.int k=>∃n,a=.raw (.int k n)
  |.str=>∃s,a=.raw (.string s)
  |.bool=>∃b,a=.raw (.bool b):=by
 unfold jR at h;split at h<;>cases h<;>exact⟨_,rfl⟩
theorem Cw:∀{a c b d:List AV},a.map jR=c.map jR->(∀x∈a,(jR x).isSome=true)->jo (a++b) (c++d)=(jo a c && jo b d)
 |[],[],b,d,_,_=>by simp[jo]
 |[],_::_,_,_,h,_=>by simp at h
 |_::_,[],_,_,h,_=>by simp at h
 |x::a,y::c,b,d,h,hs=>by
  simp only[List.map_cons,List.cons.injEq]at h;have ih:=Cw (b:=b) (d:=d) h.2 (fun z hz=>hs z (by simp[hz]));obtain⟨lk,hx⟩:=Option.isSome_iff_exists.1 (hs x jE);have hy:=h.1.symm.trans hx;have h1:=xZ hx;have h2:=xZ hy;cases lk<;>(obtain⟨u,rfl⟩:=h1;obtain⟨v,rfl⟩:=h2;simp only[List.cons_append,jo,ih,Bool.and_assoc])
variable{cs:List AV}
theorem zg{ks:List LK}(h:cs.map jR=ks.map some):(∀x∈cs,(jR x).isSome=true)/\cs.length=ks.length:=by
 refine⟨fun x hx=>?_,by have:=congrArg List.length h;simpa using this⟩;have:jR x∈cs.map jR:=List.mem_map.2 ⟨x,hx,rfl⟩;rw[h]at this;obtain⟨k,_,hk⟩:=List.mem_map.1 this;rw[<-hk];rfl
variable{t:TypeId}
theorem Ia{lk:LK}{a b:AV}{va vb:Value}(ht:P.underlying t=some (match lk with|.int k=>.int k|.str=>.string|.bool=>.bool))(ha:av w a va)(hb:av w b vb)(hka:jR a=some lk)(hkb:jR b=some lk)(d:Nat) :
  (Op.equalIn (d+1) t va vb).run P w.toWorld=.ok (jo [a] [b]) w.toWorld:=by
 have h1:=xZ hka;have h2:=xZ hkb;cases lk with
 |int k=>
  obtain⟨m,rfl⟩:=h1;obtain⟨n,rfl⟩:=h2;have:=de ha;have:=de hb;subst_vars
  rw[run_equalIn_int w d t k k _ _ ht];simp[jo,zu]
 |str=>
  obtain⟨m,rfl⟩:=h1;obtain⟨n,rfl⟩:=h2;have:=de ha;have:=de hb;subst_vars
  rw[run_equalIn_string w d t _ _ ht,wu];simp[jo]
 |bool=>
  obtain⟨m,rfl⟩:=h1;obtain⟨n,rfl⟩:=h2;have:=de ha;have:=de hb;subst_vars
  rw[run_equalIn_bool w d t _ _ ht];simp[jo]
def Bt(P:Program)(t:TypeId)(v:Value)(vs:List Value):Prop:=(dG P t=some true/\v=.agg vs.toArray)\/(dG P t=some false/\vs=[v])
theorem DB{xs:Array Value}{off k:Nat}(hag:(dG P t).isSome=true)(hsz:da P t=some k)(h1:dG P t=some false->k=1)(hfit:off+k<=xs.size) :
  ∃v,(part t xs off).run P w.toWorld=.ok v w.toWorld/\Bt P t v ((xs.toList.drop off).take k):=by
 obtain⟨ag,hag⟩:=Option.isSome_iff_exists.1 hag;cases ag with
 |true=>
  refine⟨.agg (xs.extract off (off+k)),by simp[part,vh hag,lQ hsz],.inl ⟨hag,?_⟩⟩;congr 1
  apply Array.ext';simp[Array.toList_extract,List.extract_eq_take_drop]
 |false=>
  obtain rfl:=h1 hag;have h2:xs[off]?=some (xs[off]' jB):=Array.getElem?_eq_getElem jB;refine⟨xs[off]' jB,by simp[part,vh hag,h2],.inr ⟨hag,?_⟩⟩;rw[List.drop_eq_getElem_cons jF];simp
variable{vs:List Value}
theorem D0(h:cc w cs vs)(n:Nat):cc w (cs.drop n) (vs.drop n):=⟨by simp[h.1],fun i a v ha hv=>h.2 (n+i) a v (by simpa using ha) (by simpa using hv)⟩
theorem Fl(h:cc w cs vs)(n:Nat):cc w (cs.take n) (vs.take n):=⟨by simp[h.1],fun i a v ha hv=>by
 rw[List.getElem?_take]at ha hv;split at ha
 ·rename_i hi;rw[if_pos hi]at hv;exact h.2 i a v ha hv
 ·cases ha⟩
theorem I3:∀(n:Nat),(∀(t:TypeId) (ks:List LK),sk P n t=some ks->∀(d:Nat) (v v':Value) (cs ds:List AV) (vs us:List Value),Bt P t v vs->Bt P t v' us->cc w cs vs->cc w ds us->cs.map jR=ks.map some->ds.map jR=ks.map some->
   (Op.equalIn (d+n) t v v').run P w.toWorld=.ok (jo cs ds) w.toWorld):=by
 intro n;induction n with
 |zero=>intro t ks h;simp[sk]at h
 |succ n ih=>
  intro t ks hk d v v' cs ds vs us hv hv' hcs hds h1 h2;have leaf:∀lk:LK,P.underlying t=some (match lk with|.int k=>.int k|.str=>.string|.bool=>.bool)->ks=[lk]->dG P t=some false->(Op.equalIn (d+(n+1)) t v v').run P w.toWorld=.ok (jo cs ds) w.toWorld:=by
   rintro lk ht rfl hag;have e1:vs=[v]:=by
    rcases hv with⟨h,_⟩|⟨_,h⟩
    ·rw[hag]at h;cases h
    ·exact h
   have e2:us=[v']:=by
    rcases hv' with⟨h,_⟩|⟨_,h⟩
    ·rw[hag]at h;cases h
    ·exact h
   subst e1 e2;match cs,ds,h1,h2 with
   |[a],[b],h1,h2=>
    exact Ia ht (hcs.2 0 _ _ rfl rfl) (hds.2 0 _ _ rfl rfl) (by simpa using h1) (by simpa using h2) (d+n)
  unfold sk at hk;split at hk
  ·rename_i k hu;exact leaf (.int k) hu (by simpa using hk.symm) (by simp[dG,hu])
  ·rename_i hu;exact leaf .str hu (by simpa using hk.symm) (by simp[dG,hu])
  ·rename_i hu;exact leaf .bool hu (by simpa using hk.symm) (by simp[dG,hu])
  ·rename_i fs hu
   split at hk
   ·cases hk
   ·rename_i hst
    have hag:dG P t=some true:=by simp[dG,hu]
    have e1:v=.agg vs.toArray:=by
     rcases hv with⟨_,h⟩|⟨h,_⟩
     ·exact h
     ·rw[hag]at h;cases h
    have e2:v'=.agg us.toArray:=by
     rcases hv' with⟨_,h⟩|⟨h,_⟩
     ·exact h
     ·rw[hag]at h;cases h
    subst e1 e2;have hf:P.fieldsOf t=fs:=by simp[Program.fieldsOf,hu]
    rw[show d+(n+1)=(d+n)+1 from jB,run_equalIn_struct w (d+n) t _ _ (by rw[hf];exact hu) (by simpa using hst),hf];have gen:∀(l:List Field) (off:Nat) (ks:List LK),wL P (sk P n) off l=some ks->off<=cs.length->off<=ds.length->(cs.drop off).map jR=ks.map some->(ds.drop off).map jR=ks.map some->
      (Op.eqFields (d+n) vs.toArray us.toArray l).run P w=.ok (jo (cs.drop off) (ds.drop off)) w:=by
     intro l;induction l with
     |nil=>
      intro off ks hk _ _ g1 g2;simp only[wL,Option.some.injEq]at hk;subst hk;have c1:cs.drop off=[]:=by simpa using g1
      have c2:ds.drop off=[]:=by simpa using g2
      rw[c1,c2];simp[Op.eqFields,jo]
     |cons f l ihl=>
      intro off ks hk o1 o2 g1 g2;unfold wL at hk;split at hk
      ·rename_i hno
       obtain⟨hname,rfl⟩:=hno;split at hk
       ·rename_i ks1 k e1 e2
        split at hk
        ·rename_i hkl
         simp only[Option.map_eq_some_iff]at hk;obtain⟨ks2,hk2,rfl⟩:=hk;have l1:=(zg g1).2;have l2:=(zg g2).2;have ag:(dG P f.type).isSome=true/\(dG P f.type=some false->k=1):=by
          cases n with
          |zero=>simp[sk]at e1
          |succ n=>
           unfold sk at e1;split at e1
           ·rename_i hu;refine⟨by simp[dG,hu],fun _=>?_⟩;cases e1;exact hkl.symm
           ·rename_i hu;refine⟨by simp[dG,hu],fun _=>?_⟩;cases e1;exact hkl.symm
           ·rename_i hu;refine⟨by simp[dG,hu],fun _=>?_⟩;cases e1;exact hkl.symm
           ·rename_i hu;exact⟨by simp[dG,hu],fun h=>by simp[dG,hu]at h⟩
           ·cases e1
         have hvl:=hcs.1;have hul:=hds.1;simp only[List.length_drop,List.length_append]at l1 l2;obtain⟨x,hx,cx⟩:=DB (P:=P) (w:=w) (xs:=vs.toArray) (off:=f.offset) ag.1 e2 ag.2 jF;obtain⟨y,hy,cy⟩:=DB (P:=P) (w:=w) (xs:=us.toArray) (off:=f.offset) ag.1 e2 ag.2 jF;simp only[List.map_append]at g1 g2;have split1:∀{zs:List AV},(zs.drop f.offset).map jR=ks1.map some++ks2.map some->((zs.drop f.offset).take k).map jR=ks1.map some/\(zs.drop (f.offset+k)).map jR=ks2.map some:=by
          intro zs h;have e:k=(ks1.map some).length:=by simp[hkl]
          constructor
          ·rw[List.map_take,h,e,List.take_left'];rfl
          ·rw[<-List.drop_drop,List.map_drop,h,e,List.drop_left'];rfl
         obtain⟨a1,a2⟩:=split1 g1;obtain⟨b1,b2⟩:=split1 g2;have heq:=ih f.type ks1 e1 d x y _ _ _ _ cx cy (Fl (D0 hcs f.offset) k) (Fl (D0 hds f.offset) k) a1 b1;have hrest:=ihl (f.offset+k) ks2 hk2 jB jB a2 b2;have hsplit:jo (cs.drop f.offset) (ds.drop f.offset)=(jo ((cs.drop f.offset).take k) ((ds.drop f.offset).take k) && jo (cs.drop (f.offset+k)) (ds.drop (f.offset+k))):=by
          rw[<-Cw (by rw[a1,b1]) (zg a1).1,<-List.drop_drop,<-List.drop_drop,List.take_append_drop,List.take_append_drop]
         simp only[Op.eqFields,ne_eq,hname,not_false_eq_true,if_true,Sem.run_bind,hx,hy,heq,Result.andThen_ok];rw[hsplit];cases hb:jo ((cs.drop f.offset).take k) ((ds.drop f.offset).take k)
         ·simp
         ·simp only[Bool.not_true,Bool.false_eq_true,if_false,Bool.true_and];exact hrest
        ·cases hk
       ·cases hk
      ·cases hk
    have:=gen fs.toList 0 ks hk (Nat.zero_le _) (Nat.zero_le _) (by simpa using h1) (by simpa using h2);simpa using this
  ·cases hk
theorem L4{ne:Bool}{ds:List AV}{va vb:Value}{ks:List LK}{x y:Operand}(hk:A4 P t=some ks)(hag:dG P t=some true)(h1:cs.map jR=ks.map some)(h2:ds.map jR=ks.map some)(ha:av w (.agg cs) va)(hb:av w (.agg ds) vb) :
  ∃v,(do eqGuard (if ne then .neq else .eql) t x y va vb;binOp (if ne then .neq else .eql) t va vb:Sem Value).run P w.toWorld=.ok v w.toWorld/\av w (.raw (.bool (ne ^^ jo cs ds))) v:=by
 unfold A4 at hk;split at hk
 ·cases hk
 ·rename_i hg
  cases ha with|agg _ vs l1 r1=>
  cases hb with|agg _ us l2 r2=>
  have he:=I3 (P:=P) (w:=w) 8 t ks hk 9992 (.agg vs) (.agg us) cs ds vs.toList us.toList (.inl ⟨hag,jE⟩) (.inl ⟨hag,jE⟩) ⟨by simpa using l1,fun i a v ha hv=>r1 i a v ha (by simpa using hv)⟩ ⟨by simpa using l2,fun i a v ha hv=>r2 i a v ha (by simpa using hv)⟩ h1 h2;have hgr:∀op,(eqGuard op t x y (.agg vs) (.agg us)).run P w.toWorld=.ok () w.toWorld:=fun op=>run_eqGuard_agg w op t x y vs us (by simpa using hg)
  have he':(Op.equalIn 10000 t (.agg vs) (.agg us)).run P w.toWorld=.ok (jo cs ds) w.toWorld:=he;cases ne
  ·simp only[Bool.false_eq_true,if_false,Sem.run_bind,hgr,Result.andThen_ok,run_eql_struct,he']
   exact⟨_,rfl,by simpa using av.raw _⟩
  ·simp only[if_true,Sem.run_bind,hgr,Result.andThen_ok,run_neq_struct,he']
   exact⟨_,rfl,by simpa using av.raw _⟩
end
section
variable {P:Program}{w:NW}{H:Hp}
variable{a:AV}{v:Value}
theorem A1(h:av w a v)(hp:(lr a).1=true):av w (lr a).2 v:=by
 unfold lr at*;split
 ·cases h with|gd p a v hh hu=>exact hh hp
 ·exact h
variable{va vb:Value}
theorem Cm{c b:AV}{vc:Value}(hc:av w c vc)(ha:av w a va)(hb:av w b vb):jm P w (do pure (if<-asBool vc then va else vb)) (nq c a b):=by
 intro hq;unfold nq at*;split at hq
 ·rename_i cb pa x pb y e1 e2
  have:=de hc;subst this;cases cb with
  |true=>
   have h:=A1 ha (by rw[e1];exact hq.1 rfl);rw[e1]at h;have:=de h;subst this;exact⟨.bool x,by simp[asBool],by simpa[ve]using av.raw _⟩
  |false=>
   have h:=A1 hb (by rw[e2];exact hq.2 rfl);rw[e2]at h;have:=de h;subst this;exact⟨.bool y,by simp[asBool],by simpa[ve]using av.raw _⟩
 ·exact hq.elim
theorem OL(op:BinOp)(t:TypeId)(k:IntKind)(a:Int)(k':IntKind)(b:Int)(x y:Operand):jm P w (do eqGuard op t x y (.int k a) (.int k' b);binOp op t (.int k a) (.int k' b)) (yu op k a k' b):=by
 intro hq;cases op<;>simp only[yu]at hq ⊢
 case shl=>
  have h0:¬b<0:=jB
  exact⟨_,by simp[eqGuard_at_int,binOp,Op.shift,h0],.raw _⟩
 case shr=>
  have h0:¬b<0:=jB
  exact⟨_,by simp[eqGuard_at_int,binOp,Op.shift,h0],.raw _⟩
 case quo=>obtain⟨rfl,h0⟩:=hq;exact⟨_,by simp[eqGuard_at_int,binOp,Op.intDiv,h0],.raw _⟩
 case rem=>obtain⟨rfl,h0⟩:=hq;exact⟨_,by simp[eqGuard_at_int,binOp,Op.intDiv,h0],.raw _⟩
 case and=>subst hq;exact⟨_,by simp[eqGuard_at_int,binOp,Op.intBits,rO],.raw _⟩
 case or=>subst hq;exact⟨_,by simp[eqGuard_at_int,binOp,Op.intBits,rO],.raw _⟩
 case xor=>subst hq;exact⟨_,by simp[eqGuard_at_int,binOp,Op.intBits,rO],.raw _⟩
 case andNot=>subst hq;exact⟨_,by simp[eqGuard_at_int,binOp,Op.intBits,rO],.raw _⟩
 case eql=>subst hq;exact⟨.bool (decide (a=b)),by simp[eqGuard_at_int,binOp,Op.intCmp,zu],.raw _⟩
 case neq=>subst hq;exact⟨.bool (!decide (a=b)),by simp[eqGuard_at_int,binOp,Op.intCmp,bne,zu],.raw _⟩
 all_goals(subst hq;exact⟨_,by simp[eqGuard_at_int,binOp,Op.intArith,Op.intCmp];try rfl,.raw _⟩)
theorem Lc(op:BinOp)(t:TypeId)(a b:ByteArray)(x y:Operand):jm P w (do eqGuard op t x y (.string a) (.string b);binOp op t (.string a) (.string b)) (ya op a b):=by
 intro hq;cases op<;>simp only[ya]at hq ⊢
 case add=>
  have h0:¬(((a.size+b.size:Nat):Int)>IntKind.i64.max):=by rw[IntKind.max_i64];omega
  exact⟨_,by simp only[eqGuard_at_string,binOp,Op.stringOp,pure_bind,if_neg h0,Sem.run_pure],.raw _⟩
 case eql=>exact⟨_,by simp[eqGuard_at_string,binOp,Op.stringOp,wu],.raw _⟩
 case neq=>exact⟨_,by simp[eqGuard_at_string,binOp,Op.stringOp,wu],.raw _⟩
 case lss=>exact⟨_,by simp[eqGuard_at_string,binOp,Op.stringOp],.raw _⟩
 case gtr=>exact⟨_,by simp[eqGuard_at_string,binOp,Op.stringOp,wu],.raw _⟩
 case leq=>exact⟨_,by simp[eqGuard_at_string,binOp,Op.stringOp,wu],.raw _⟩
 case geq=>exact⟨_,by simp[eqGuard_at_string,binOp,Op.stringOp],.raw _⟩
 all_goals exact hq.elim
theorem N4(x:Operand){ρ:Operand->Value}(hx:ρ x=v)(h:av w a v)(o:Oper)(ho:o.op=.nilCheck x):(ra a).1->∃v',(execOp ρ o).run P w.toWorld=.ok (.value v') w.toWorld/\av w (ra a).2 v':=by
 intro hq;unfold ra at*;split at hq<;>try exact hq.elim
 ·cases h with|ip _ ad vs hb hH hcell hr=>exact⟨.pointer (some ad),by simp[execOp,ho,hx],.ip _ ad vs hb hH hcell hr⟩
 ·cases h with|pt _ _ _ _ b t s hn=>exact⟨_,by simp[execOp,ho,hx],.pt _ _ _ _ b t s hn⟩
 all_goals(have:=de h;subst this;exact⟨_,by simp[execOp,ho,hx];try rfl,.raw _⟩)
variable{t:TypeId}
theorem xH(h:qU P t=true):∃e,P.underlying t=some (.pointer e):=by
 unfold qU at h;split at h<;>simp_all
theorem LQ(h:vf P t=true):P.underlying t=some .bool:=by
 unfold vf at h;split at h<;>simp_all
theorem yS(h:tj P t=true):P.underlying t=some .string:=by
 unfold tj at h;split at h<;>simp_all
theorem qg(h:gK P t=true):∃e,P.underlying t=some (.slice e):=by
 unfold gK at h;split at h<;>simp_all
theorem qG{x y:Value}{r:Bool}(h:∀d,(Op.equalIn (d+1) t x y).run P w.toWorld=.ok r w.toWorld):(Op.equal t x y).run P w.toWorld=.ok r w.toWorld:=h 9999
theorem qR{ne:Bool}{x y:Operand}{a b:Value}{r:Bool}(hg:∀op,eqGuard op t x y a b=pure ())(h1:binOp .eql t a b=(do pure (.bool (<-Op.equal t a b))))(h2:binOp .neq t a b=(do pure (.bool (!(<-Op.equal t a b)))))
  (he:(Op.equal t a b).run P w.toWorld=.ok r w.toWorld):∃v,(do eqGuard (if ne then .neq else .eql) t x y a b;binOp (if ne then .neq else .eql) t a b:Sem Value).run P w.toWorld=.ok v w.toWorld/\av w (.raw (.bool (ne ^^ r))) v:=by
 cases ne
 ·simp only[Bool.false_eq_true,if_false,hg,h1,Sem.run_bind,he,Sem.run_pure,Result.andThen_ok]
  exact⟨_,rfl,by simpa using av.raw _⟩
 ·simp only[if_true,hg,h2,Sem.run_bind,he,Sem.run_pure,Result.andThen_ok]
  exact⟨_,rfl,by simpa using av.raw _⟩
theorem Cz(ne:Bool)(t:TypeId){b:AV}(x y:Operand)(ha:av w a va)(hb:av w b vb) :
  jm P w (do eqGuard (if ne then .neq else .eql) t x y va vb;binOp (if ne then .neq else .eql) t va vb) (vk P ne t a b):=by
 intro hq;unfold vk at*;split at hq<;>try exact hq.elim
 ·have:=de ha;have:=de hb;subst_vars
  have ht:=LQ hq;exact qR (fun op=>eqGuard_at_bool _ _ _ _ _ _) rfl rfl (qG (fun d=>by simp[Op.equalIn,run_underlying ht]))
 ·have:=de ha;have:=de hb;subst_vars
  obtain⟨e,ht⟩:=xH hq;exact qR (fun op=>eqGuard_at_pointer _ _ _ _ _ _) rfl rfl (qG (fun d=>by simp[Op.equalIn,run_underlying ht]))
 ·have:=de ha;have:=de hb;subst_vars
  obtain⟨e,ht⟩:=xH hq;rename_i pa;have:=qR (P:=P) (w:=w) (ne:=ne) (t:=t) (x:=x) (y:=y) (a:=.pointer (some pa)) (b:=.pointer none) (r:=false) (fun op=>eqGuard_at_pointer _ _ _ _ _ _) rfl rfl (qG (fun d=>by simp[Op.equalIn,run_underlying ht]));simpa using this
 ·have:=de hb;subst_vars
  obtain⟨e,ht⟩:=xH hq;cases ha with|ip cs ad vs _ _ _ _=>
  have:=qR (P:=P) (w:=w) (ne:=ne) (t:=t) (x:=x) (y:=y) (a:=.pointer (some ad)) (b:=.pointer none) (r:=false) (fun op=>eqGuard_at_pointer _ _ _ _ _ _) rfl rfl (qG (fun d=>by simp[Op.equalIn,run_underlying ht]));simpa using this
 ·have:=de hb;subst_vars
  obtain⟨e,ht⟩:=xH hq;rename_i i m k j;cases ha with|pt _ _ _ _ bb tt ss _=>
  have:=qR (P:=P) (w:=w) (ne:=ne) (t:=t) (x:=x) (y:=y) (a:=.pointer (some ⟨bb,k*ss+j,none⟩)) (b:=.pointer none) (r:=false) (fun op=>eqGuard_at_pointer _ _ _ _ _ _) rfl rfl (qG (fun d=>by simp[Op.equalIn,run_underlying ht]));simpa using this
 ·have:=de ha;have:=de hb;subst_vars
  obtain⟨e,ht⟩:=qg hq;exact qR (fun op=>eqGuard_at_slice _ _ _ _ _ _ _ _) rfl rfl (qG (fun d=>by simp[Op.equalIn,run_underlying ht]))
 ·have:=de ha;have:=de hb;subst_vars
  obtain⟨e,ht⟩:=qg hq;rename_i pa n c m d;have:=qR (P:=P) (w:=w) (ne:=ne) (t:=t) (x:=x) (y:=y) (a:=.slice (some pa) n c) (b:=.slice none m d) (r:=false) (fun op=>eqGuard_at_slice _ _ _ _ _ _ _ _) rfl rfl (qG (fun d=>by simp[Op.equalIn,run_underlying ht]));simpa using this
 ·have:=de hb;subst_vars
  obtain⟨hq,hne⟩:=hq;obtain⟨e,ht⟩:=qg hq;rename_i css _ m d;cases ha with
  |fZ=>exact(hne rfl).elim
  |sl _ _ _ a c vs _ _ _ _ _ _ _ _=>
   have:=qR (P:=P) (w:=w) (ne:=ne) (t:=t) (x:=x) (y:=y) (a:=.slice (some a) css.length c) (b:=.slice none m d) (r:=false) (fun op=>eqGuard_at_slice _ _ _ _ _ _ _ _) rfl rfl (qG (fun d=>by simp[Op.equalIn,run_underlying ht]));simpa using this
 ·split at hq
  ·rename_i ks hks
   exact L4 hks hq.1 hq.2.1 hq.2.2 ha hb
  ·exact hq.elim
theorem Hm(op:BinOp)(t:TypeId){b:AV}(x y:Operand)(ha:av w a va)(hb:av w b vb) :
  jm P w (do eqGuard op t x y va vb;binOp op t va vb) (fl P op t a b):=by
 unfold fl;split
 ·have:=de ha;have:=de hb;subst_vars;exact OL op t _ _ _ _ x y
 ·have:=de ha;have:=de hb;subst_vars;exact Lc op t _ _ x y
 ·split
  ·exact Cz false t x y ha hb
  ·exact Cz true t x y ha hb
  ·exact He
theorem LD(op:UnOp)(h:av w a v):jm P w (Op.unary op v) (rh op a):=by
 intro hq;unfold rh at*;split at hq<;>try exact hq.elim
 ·have:=de h;subst this;exact⟨_,by simp[Op.unary],.raw _⟩
 ·have:=de h;subst this;exact⟨_,by simp[Op.unary,Op.intArith],.raw _⟩
theorem IW(t:TypeId)(h:av w a v)(hw:aP w H):jm P w (Instr.loadAt t v) (oM P H t a):=by
 intro hq;unfold oM at*;split at hq<;>try exact hq.elim
 ·rename_i c cs k e1 e2 e3
  exact G3 h hw e1 hq.1 e2 e3 hq.2.1 hq.2.2
 ·rename_i c cs k e1 e2 e3
  have:=G3 (P:=P) h hw e1 hq.1 e2 e3 hq.2.1 hq.2.2;simpa[sX]using this
theorem GC{f off:Nat}(h:cw P t f=some off):∃fs fd k,P.underlying t=some (.struct fs)/\fs[f]?=some fd/\da P fd.type=some (k+1)/\fd.offset=off:=by
 unfold cw at h;split at h
 ·rename_i fs hu
  split at h
  ·rename_i fd hf
   split at h
   ·rename_i k hk;exact⟨fs,fd,k,hu,hf,hk,by simpa using h⟩
   ·cases h
  ·cases h
 ·cases h
theorem L8(t:TypeId)(f:Nat)(h:av w a v):jm P w (Instr.fieldAt t v f) (rk P t a f):=by
 intro hq;unfold rk at*;split at hq<;>try exact hq.elim
 ·rename_i cs off e
  obtain⟨fs,fd,k,hu,hf,hk,rfl⟩:=GC e;cases h with|ip _ ad vs hb hH hcell hr=>
  refine⟨.pointer (some (ad.add fd.offset)),?_,.ip _ _ (fun j=>vs (fd.offset+j)) (by rw[pF];exact hb) (by rw[pF];exact hH) (fun j hj=>?_) (fun j u hu=>?_)⟩
  ·simp[Instr.fieldAt,run_underlying hu,hf,Instr.sureAddr,fieldPlace,lQ hk]
  ·rw[vG];exact hcell _ (by simp at hj;omega)
  ·rw[List.getElem?_drop]at hu;exact hr _ _ hu
 ·rename_i i m q j off e
  obtain⟨fs,fd,k,hu,hf,hk,rfl⟩:=GC e;cases h with|pt _ _ _ _ b t s hn=>
  refine⟨.pointer (some ⟨b,q*s+j+fd.offset,none⟩),?_,?_⟩
  ·simp[Instr.fieldAt,run_underlying hu,hf,Instr.sureAddr,fieldPlace,lQ hk,k9]
  ·rw[Nat.add_assoc];exact .pt i m q (j+fd.offset) b t s hn
theorem IU{ft:TypeId}{f off:Nat}(h:vF P t f=some (ft,off)):∃fs fd,P.underlying t=some (.struct fs)/\fs[f]?=some fd/\fd.type=ft/\fd.offset=off:=by
 unfold vF at h;split at h
 ·rename_i fs hu
  simp only[Option.map_eq_some_iff,Prod.mk.injEq]at h;obtain⟨fd,hf,h1,h2⟩:=h;exact⟨fs,fd,hu,hf,h1,h2⟩
 ·cases h
theorem KD(t:TypeId){cs:List AV}{vs:Array Value}(hl:cs.length=vs.size)(hr:∀(i:Nat) a v,cs[i]?=some a->vs[i]?=some v->av w a v)(off:Nat):jm P w (part t vs off) (xV P t cs off):=by
 intro hq;unfold xV at*;split at hq<;>try exact hq.elim
 ·rename_i k e1 e2
  simp only at hq;refine⟨.agg (vs.extract off (off+k)),by simp[part,vh e1,lQ e2],.agg _ _ jF fun i a v ha hv=>?_⟩;rw[List.getElem?_take]at ha;split at ha
  ·rw[List.getElem?_drop]at ha
   refine hr _ a v ha ?_;rw[Array.getElem?_extract]at hv;split at hv<;>simp_all
  ·cases ha
 ·rename_i k e1 e2
  simp only at hq;have h1:vs[off]?=some (vs[off]' jB):=Array.getElem?_eq_getElem jB;refine⟨vs[off]' jB,by simp[part,vh e1,h1],hr off _ _ ?_ h1⟩;simp[List.getElem?_eq_getElem hq]
theorem IY(t:TypeId)(f:Nat)(h:av w a v):jm P w (Instr.field t v f) (ui P t a f):=by
 unfold ui;split
 ·rename_i cs ft off e
  obtain⟨fs,fd,hu,hf,rfl,rfl⟩:=IU e;cases h with|agg _ vs hl hr=>
  intro hq;obtain⟨v,h1,h2⟩:=KD (P:=P) fd.type hl hr fd.offset hq;exact⟨v,by simpa[Instr.field,run_underlying hu,hf,asAgg]using h1,h2⟩
 ·exact He
theorem qE{k:Nat}(h:iP P t=some k):∃e,P.underlying t=some (.slice e)/\da P e=some k:=by
 unfold iP iw at h;split at h
 ·rename_i e hu;exact⟨e,hu,by simpa using h⟩
 ·cases h
theorem Ez{n k:Nat}(h:xg P t=some (n,k)):∃e,P.underlying t=some (.array n e)/\da P e=some k:=by
 unfold xg at h;split at h
 ·rename_i len e hu
  simp only[Option.map_eq_some_iff,Prod.mk.injEq]at h;obtain⟨s,h1,rfl,rfl⟩:=h;exact⟨e,hu,h1⟩
 ·cases h
theorem NH(t:TypeId){i:AV}{vi:Value}(ha:av w a va)(hi:av w i vi):jm P w (Instr.indexAt t va vi) (ru P t a i):=by
 intro hq;unfold ru at*;split at hq<;>try exact hq.elim
 ·rename_i x sz css d k j
  have:=de hi;subst this;obtain⟨e,hu,hs⟩:=qE hq.1;have h0:=hq.2.1;have h1:=hq.2.2;cases ha with
  |fZ=>simp at h1;omega
  |sl _ _ _ ad c vs hn hc hx hsz hb hH hcell hr=>
   have hln:=uQ hsz (show j.toNat<css.length from jB);have hd:css.getD j.toNat d=css.getD j.toNat []:=by simp[show j.toNat<css.length from jB]
   rw[hd];refine⟨.pointer (some (ad.add (j.toNat*sz))),?_,.ip _ _ (fun m=>vs (j.toNat*sz+m)) (by rw[pF];exact hb) (by rw[pF];exact hH) (fun m hm=>?_) (fun m u hu=>?_)⟩
   ·simp[Instr.indexAt,asIntOf,run_underlying hu,h0,h1,lQ hs]
   ·rw[vG];exact hcell _ m jB jB
   ·exact hr _ m u jB hu
 ·rename_i d m sz n k j
  have:=de hi;subst this;obtain⟨e,hu,hs⟩:=qE hq.1;have h0:=hq.2.1;have h1:=hq.2.2;cases ha with
  |iq=>simp at h1;omega
  |rs _ _ _ _ b t c hn hc hle hs0=>
   refine⟨.pointer (some ⟨b,j.toNat*sz,none⟩),?_,.pt d m j.toNat 0 b t sz hn⟩;simp[Instr.indexAt,asIntOf,run_underlying hu,h0,h1,lQ hs,k9]
 ·rename_i d m sz o n k j
  have:=de hi;subst this;obtain⟨e,hu,hs⟩:=qE hq.1;have h0:=hq.2.1;have h1:=hq.2.2;cases ha with
  |lp=>simp at h1;omega
  |rv _ _ _ _ _ b t c hn hle=>
   refine⟨.pointer (some ⟨b,(o+j.toNat)*sz,none⟩),?_,.pt d m (o+j.toNat) 0 b t sz hn⟩;simp[Instr.indexAt,asIntOf,run_underlying hu,h0,h1,lQ hs,k9,Nat.add_mul]
 ·rename_i d m k j kk i
  have:=de hi;subst this;unfold ym at*;split at hq
  ·rename_i len s e
   obtain⟨el,hu,hs⟩:=Ez e;cases ha with
   |pt _ _ _ _ b t sz hn=>
    refine⟨.pointer (some ⟨b,k*sz+(j+i.toNat*s),none⟩),?_,.pt d m k _ b t sz hn⟩;simp[Instr.indexAt,asIntOf,run_underlying hu,hq.1,hq.2,lQ hs,k9,Instr.sureAddr,Nat.add_assoc]
  ·exact hq.elim
 ·rename_i cs kk i
  have:=de hi;subst this;unfold ym at*;split at hq
  ·rename_i len s e
   obtain⟨el,hu,hs⟩:=Ez e;cases ha with
   |ip _ ad vs hb hH hcell hr=>
    refine⟨.pointer (some (ad.add (i.toNat*s))),?_,.ip _ _ (fun m=>vs (i.toNat*s+m)) (by rw[pF];exact hb) (by rw[pF];exact hH) (fun m hm=>?_) (fun m u hu=>?_)⟩
    ·simp[Instr.indexAt,asIntOf,run_underlying hu,hq.1,hq.2,lQ hs,Instr.sureAddr]
    ·rw[vG];exact hcell _ (by simp at hm;omega)
    ·exact hr _ u (by rwa [List.getElem?_drop]at hu)
  ·exact hq.elim
theorem Mr(t:TypeId){i:AV}{vi:Value}(ha:av w a va)(hi:av w i vi):jm P w (Instr.index t va vi) (rf P t a i):=by
 intro hq;unfold rf at*;split at hq<;>try exact hq.elim
 rename_i s k j;have:=de hi;have:=de ha;subst_vars
 have ht:=yS hq.1;have h0:=hq.2.1;have h1:j.toNat<s.size:=by have:=hq.2.2;omega
 refine⟨.int .u8 (ec s j),?_,.raw _⟩;have h2:s[j.toNat]?=some s[j.toNat]:=by simp[h1]
 have h3:ec s j=(s[j.toNat].toNat:Int):=by
  have h4:s.data[j.toNat]?=some s[j.toNat]:=Array.getElem?_eq_getElem h1;simp only[ec,h4,Option.getD_some]
 simp[Instr.index,asIntOf,run_underlying ht,h0,h2,h3]
theorem K9(h:av w a v)(i:Nat):jm P w (Instr.extract v i) (uh a i):=by
 intro hq;unfold uh at*;split at hq<;>try exact hq.elim
 rename_i cs;cases h with|bg _ vs hl hr=>
 simp only at hq;have h1:vs[i]?=some (vs[i]' jB):=Array.getElem?_eq_getElem jB;refine⟨vs[i]' jB,by simp[Instr.extract,h1],hr i _ _ ?_ h1⟩;simp[List.getElem?_eq_getElem hq]
theorem LV(fn:Fn){a b:List AV}{va vb:List Value}(ha:cc w a va)(hb:cc w b vb):jm P w (Instr.makeFunc fn va.toArray vb.toArray) (uk fn a b):=by
 intro hq;unfold uk at*;split at hq<;>try exact hq.elim
 ·rename_i f
  have:va=[]:=by have:=ha.1;simpa using this.symm
  subst this;exact⟨.func (.func f) #[] vb.toArray,by simp[Instr.makeFunc],.fK f _ _ (by rw[hb.1];simp) (fun i a v h1 h2=>hb.2 i a v h1 (by simpa using h2))⟩
 ·rename_i f x l
  have hq:b=[]:=hq;subst hq;have:vb=[]:=by have:=hb.1;simpa using this.symm
  subst this;exact⟨.func (.func f) va.toArray #[],by simp[Instr.makeFunc],.bd f _ _ (by rw[ha.1];simp) (fun i a v h1 h2=>ha.2 i a v h1 (by simpa using h2))⟩
theorem Jb(t:TypeId)(h:av w a v):jm P w (Instr.makeInterface t v) (xq P t a):=by
 intro hq;unfold xq at*;split at hq<;>try exact hq.elim
 ·rename_i u d e1 e2
  have:=de h;subst this;refine⟨.iface t v,?_,.raw _⟩;simp only[Instr.makeInterface,Sem.run_bind,run_underlying e2,Result.andThen_ok];cases d<;>first|rfl|(simp[ze,e2]at e1)
 ·rename_i d _ e1 hu
  refine⟨.iface t v,?_,.j9 t _ v h⟩;simp only[Instr.makeInterface,Sem.run_bind,run_underlying hu,Result.andThen_ok];cases d<;>first|rfl|(simp[ze,hu]at e1)
theorem OU(h:AR P t=true):∃k e,P.underlying t=some (.map k e):=by
 unfold AR at h;split at h
 ·exact⟨_,_,by assumption⟩
 ·cases h
theorem Fj:∀(n:Nat) (ks vs:List Value),(im n ks vs).length=min ks.length vs.length
 |n,[],vs=>by simp[im]
 |n,k::ks,[]=>by simp[im]
 |n,k::ks,v::vs=>by simp[im,Fj (n+1) ks vs]
theorem Nq(ty t:TypeId)(ts:List TypeId)(vs:List Value)(hw:aP w H)(h:av w a v):jm P w (Builtin.len_ (t::ts).toArray ty (v::vs).toArray) (sY P H t a):=by
 intro hq;unfold sY at*;split at hq<;>try exact hq.elim
 ·split at hq<;>try exact hq.elim
  rename_i hm;rw[if_pos hm];split at hq<;>try exact hq.elim
  rename_i ks vs hi;obtain⟨k,e,ht⟩:=OU hq;cases h with
  |mr _ b t' s hn=>
   obtain⟨hok,z,hz,hrow⟩:=hw.rows _ _ hi;have:z=.at b t' s:=by have hz:w.nm _ 0=some z:=hz;rw[hn]at hz;cases hz;rfl
   subst this;obtain⟨_,cur,hh,hfit,_⟩:=hrow;have hh:w.heap[b]?=some (.map (im 0 ks cur.toList).toArray ks.length):=hh;have hfit:cur.size=vs.length:=hfit;have hok:ks.length=vs.length:=hok;refine⟨_,?_,.raw _⟩;simp[Builtin.len_,run_underlying ht,MapKept.run_getObj_map hh,goInt,Fj,hok,hfit]
 ·obtain⟨e,ht⟩:=qg hq
  cases h<;>exact⟨_,by simp[Builtin.len_,run_underlying ht,goInt];try rfl,.raw _⟩
 ·obtain⟨e,ht⟩:=qg hq
  cases h<;>exact⟨_,by simp[Builtin.len_,run_underlying ht,goInt];try rfl,.raw _⟩
 ·obtain⟨e,ht⟩:=qg hq
  cases h<;>exact⟨_,by simp[Builtin.len_,run_underlying ht,goInt];try rfl,.raw _⟩
 ·obtain⟨e,ht⟩:=qg hq
  have:=de h;subst this;exact⟨_,by simp[Builtin.len_,run_underlying ht,goInt],.raw _⟩
 ·have ht:=yS hq
  have:=de h;subst this;exact⟨_,by simp[Builtin.len_,run_underlying ht,goInt],.raw _⟩
theorem HS(ty t:TypeId)(ts:List TypeId)(vs:List Value)(h:av w a v):jm P w (Builtin.cap_ (t::ts).toArray ty (v::vs).toArray) (xw P t a):=by
 intro hq;unfold xw at*;split at hq<;>try exact hq.elim
 ·obtain⟨e,ht⟩:=qg hq
  cases h with
  |fZ _ _ _ c hx=>have:=hx rfl;subst this;exact⟨_,by simp[Builtin.cap_,run_underlying ht,goInt],.raw _⟩
  |sl _ _ _ _ c _ _ _ hx=>have:=(hx rfl).1;subst this;exact⟨_,by simp[Builtin.cap_,run_underlying ht,goInt],.raw _⟩
 ·obtain⟨e,ht⟩:=qg hq
  have:=de h;subst this;exact⟨_,by simp[Builtin.cap_,run_underlying ht,goInt],.raw _⟩
end
end Go.Gd
