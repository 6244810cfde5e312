/- Lemmas. No conditions. -/
import Derived.Test.YtfkgcobaheegbaaGreatDoorGdB
import Derived.Laws.Slices
import Derived.WalkKit
import Derived.Laws.StructEq
set_option linter.all false
namespace Go.Gd
open Go
def dc(P:Program)(t:TypeId):Option Nat:=(P.info? t).map (·.size)
def dR(P:Program)(t:TypeId):Option Bool:=(P.underlying t).map fun|.struct _|.array _ _=>true|_=>false
def cB(P:Program)(t:TypeId)(f:Nat):Option Nat:=match P.underlying t with
 |some (.struct fs)=>match fs[f]? with
  |some fd=>match dc P fd.type with
   |some (_+1)=>some fd.offset
   |_=>none
  |none=>none
 |_=>none
def iH(P:Program)(t:TypeId):Option TypeId:=match P.underlying t with
 |some (.slice e)=>some e
 |_=>none
def eT(P:Program)(t:TypeId):Option (List Value):=((P.info? t).bind (·.zero)).map fun v=>v.cells.toList
def AV.one:AV->Bool
 |.raw v=>v.oneCell'
 |.sl ..=>true
 |.ip _=>true
 |.pt ..=>true
 |.rs ..=>true
 |.rv ..=>true
 |.mr _=>true
 |.fQ ..=>true
 |.bd ..=>true
 |.kH ..=>true
 |_=>false
def da(l:List AV):Bool:=l.all AV.one
def AV.cells:AV->List AV
 |.agg cs=>cs
 |.raw (.agg vs)=>vs.toList.map .raw
 |v=>[v]
def lA(sz:Nat)(css:List (List AV)):Prop:=∀cs∈css,cs.length=sz/\da cs=true
def ph(H:Hp):AV->Option (Prop×List AV)
 |.ip cs=>some (True,cs)
 |.pt i m k j=>match H.get i with
  |some (.var _ cs)=>some (m=0,cs.drop j)
  |some (.aL _ _ css)=>some (m=css.length/\k<css.length,(css.getD k []).drop j)
  |some (.mp _ _)=>none
  |none=>none
 |_=>none
theorem kK{sz:Nat}:∀{l:List (List AV)},(∀x∈l,x.length=sz)->l.flatten.length=l.length*sz
 |[],_=>by simp
 |x::l,h=>by have ih:=kK (l:=l) (fun y hy=>h y (by simp[hy]));have hx:=h x jE;simp only[List.flatten_cons,List.length_append,hx,ih,List.length_cons,Nat.add_mul,Nat.one_mul];omega
theorem qp{sz:Nat}:∀{l:List (List AV)} {i j:Nat},(∀x∈l,x.length=sz)->i<l.length->j<sz->l.flatten[i*sz+j]?=(l.getD i [])[j]?
 |[],i,j,_,h,_=>by simp at h
 |x::l,i,j,hx,hi,hj=>by
  have hxl:=hx x jE;cases i with
  |zero=>simp only[List.flatten_cons,Nat.zero_mul,Nat.zero_add,List.getD_cons_zero];rw[List.getElem?_append_left jB]
  |succ i=> simp only[List.flatten_cons,List.getD_cons_succ];rw[List.getElem?_append_right (by rw[Nat.add_mul];omega),hxl,show(i+1)*sz+j-sz=i*sz+j by rw[Nat.add_mul];omega];exact qp (fun y hy=>hx y (by simp[hy])) (by simpa using hi) hj
variable{sz:Nat}
theorem yR{i j n:Nat}(hi:i<n)(hj:j<sz):i*sz+j<n*sz:=by have:=Nat.mul_le_mul_right sz (show i+1<=n from hi);rw[Nat.add_mul]at this;omega
theorem uL{k n:Nat}(h:k<n*sz):∃i j,i<n/\j<sz/\k=i*sz+j:=by
 have hz:0<sz:=by rcases Nat.eq_zero_or_pos sz with rfl|h'<;>simp_all
 exact⟨k / sz,k % sz,by rw[Nat.div_lt_iff_lt_mul hz];exact h,Nat.mod_lt _ hz,by rw[Nat.mul_comm];exact(Nat.div_add_mod k sz).symm⟩
theorem vf{css:List (List AV)}(h:∀cs∈css,cs.length=sz){k:Nat}(hk:k<css.length):(css.getD k []).length=sz:=by
 have:css.getD k []=css[k]:=by simp[hk]
 rw[this];exact h _ (List.getElem_mem hk)
section
variable {P:Program}{w:NW}{H:Hp}
theorem aw.one{a:AV}{v:Value}(h:aw w a v)(h1:a.one=true):v.oneCell'=true:=by cases h<;>first|exact h1|rfl|simp[AV.one]at h1
theorem tL{w:World}(g i:Nat)(cur:Array Value)(t:TypeId)(fr:Nat×Nat)(hg:w.heap[g]?=some (.cells cur t fr)):w.cell? ⟨g,i,none⟩=cur[i]?:=by simp[World.cell?,hg]
variable{va:Value}{cs:List AV}
theorem GH{a:AV}{c:Prop}(h:aw w a va)(hw:aO w H)(hc:ph H a=some (c,cs))(hcc:c) :
  ∃(ad:Addr) (vs:Nat->Value),va=.pointer (some ad)/\(∀j,j<cs.length->w.cell? (ad.add j)=some (vs j))/\∀(j:Nat) u,cs[j]?=some u->aw w u (vs j):=by
 unfold ph at hc;split at hc
 ·cases hc;cases h with
  |ip _ ad vs hb hH hcell hr=>exact⟨ad,vs,rfl,hcell,fun j u hu=>(hr j u hu).l7⟩
 ·rename_i i m k j;cases h with
  |pt _ _ _ _ b t s hn=>
  split at hc
  ·rename_i ty cs' hi;cases hc;subst hcc;obtain⟨hok,z,hz,hrow⟩:=hw.rows i _ hi;have:z=.at b t s:=by have hz:w.nm i 0=some z:=hz;rw[hn]at hz;cases hz;rfl
   subst this;obtain⟨rfl,cur,hh,⟨hs,hl⟩,hr⟩:=hrow;have hsr:(Row.var ty cs').bA=0:=rfl;refine⟨⟨b,k*(Row.var ty cs').bA+j,none⟩,fun q=>cur.getD (j+q) undef,rfl,fun q hq=>?_,fun q u hu=>?_⟩
   ·rw[lM,hsr,Nat.mul_zero,Nat.zero_add,tL b _ cur _ (0,0) hh];simp only[List.length_drop]at hq;have hl:cs'.length<=t:=hl;have:j+q<cur.size:=jB;simp[this]
   ·rw[List.getElem?_drop]at hu;have hlt:j+q<cs'.length:=(List.getElem?_eq_some_iff.1 hu).1;have hl:cs'.length<=t:=hl;have:j+q<cur.size:=jB;exact hr _ _ _ hu (by simp[this])
  ·rename_i e sz css hi;cases hc;obtain⟨rfl,hk⟩:=hcc;obtain⟨hok,z,hz,hrow⟩:=hw.rows i _ hi;have:z=.at b t s:=by have hz:w.nm i css.length=some z:=hz;rw[hn]at hz;cases hz;rfl
   subst this;obtain⟨hs_,cur,hh,⟨hs,hl⟩,hr⟩:=hrow;have hs_:sz=s:=hs_.symm;subst hs_;have hsr:(Row.aL e sz css).bA=sz:=rfl;have hlen:=vf hok.2 hk;have hfl:(Row.aL e sz css).cells.length=css.length*sz:=kK hok.2;refine⟨⟨b,k*sz+j,none⟩,fun q=>cur.getD (k*sz+(j+q)) undef,rfl,fun q hq=>?_,fun q u hu=>?_⟩
   ·simp only[List.length_drop,hlen]at hq;rw[lM,tL b _ cur _ (0,0) hh];have:=yR hk (show j+q<sz from jB);have:k*sz+(j+q)<cur.size:=jB;rw[Nat.add_assoc];simp[this]
   ·rw[List.getElem?_drop]at hu;have hlt:j+q<sz:=by have:=(List.getElem?_eq_some_iff.1 hu).1;omega
    have h3:=yR hk hlt;refine hr (k*sz+(j+q)) u _ ?_ ?_
    ·show css.flatten[k*sz+(j+q)]?=some u;rw[qp hok.2 hk hlt];exact hu
    ·have:k*sz+(j+q)<cur.size:=jB;simp[this]
  ·cases hc
  ·cases hc
 ·cases hc
variable{t:TypeId}
theorem wc{w:World}{b:Bool}(h:dR P t=some b):(isAgg t).run P w=.ok b w:=by
 unfold dR at h;cases hu:P.underlying t with
 |none=>rw[hu]at h;cases h
 |some d=> rw[hu]at h;simp only[Option.map_some,Option.some.injEq]at h;simp only[isAgg,Sem.run_bind,run_underlying hu,Result.andThen_ok];subst h;cases d<;>rfl
variable{k:Nat}
theorem lT{w:World}(h:dc P t=some k):(sizeOf t).run P w=.ok k w:=by
 unfold dc at h;cases hi:P.info? t with
 |none=>rw[hi]at h;cases h
 |some i=> rw[hi]at h;simp only[Option.map_some,Option.some.injEq]at h;simp[sizeOf,typeInfo,hi,h]
def tz(ag:Bool)(k:Nat)(cs:List AV):AV:=if ag then .agg (cs.take k)else cs.getD 0 .any
theorem Dg{ad:Addr}{vs:Nat->Value}{ag:Bool}(hag:dR P t=some ag)(hsz:dc P t=some k)(hk:k<=cs.length)(hk1:1<=cs.length)
  (hcell:∀j,j<cs.length->w.cell? (ad.add j)=some (vs j)) (hr:∀(j:Nat) u,cs[j]?=some u->aw w u (vs j)) :
  ∃v,(loadVar t ad).run P w.toWorld=.ok v w.toWorld/\aw w (tz ag k cs) v:=by
 simp only[loadVar,Sem.run_bind,wc hag,Result.andThen_ok];cases ag with
 |false=>
  simp only[Bool.false_eq_true,if_false,tz];have h0:=hcell 0 jB;rw[Fc]at h0;refine⟨vs 0,by rw[run_load];simp[h0],?_⟩;have:cs[0]?=some (cs.getD 0 .any):=by simp[List.getElem?_eq_getElem (show 0<cs.length from jB)]
  exact hr 0 _ this
 |true=>
  simp only[if_true,tz];simp only[Sem.run_bind,lT hsz,Result.andThen_ok,run_loadCells w.toWorld ad k vs (fun j hj=>hcell j jB),Sem.run_pure];refine⟨_,rfl,.agg _ _ jF fun i a v ha hv=>?_⟩;have hi:i<k:=by have:=(List.getElem?_eq_some_iff.1 ha).1;simp at this;omega
  rw[List.getElem?_take,if_pos hi]at ha;have hv':v=vs i:=by
   have:(List.map vs (List.range k)).toArray[i]?=some (vs i):=by simp[hi]
   rw[this]at hv;cases hv;rfl
  subst hv';exact hr i a ha
theorem C7{a:AV}{c:Prop}{ag:Bool}(h:aw w a va)(hw:aO w H)(hc:ph H a=some (c,cs))(hcc:c)(hag:dR P t=some ag)(hsz:dc P t=some k)(hk:k<=cs.length)(hk1:1<=cs.length) :
  ∃v,(Instr.loadAt t va).run P w.toWorld=.ok v w.toWorld/\aw w (tz ag k cs) v:=by
 obtain⟨ad,vs,rfl,hcell,hr⟩:=GH h hw hc hcc;obtain⟨v,h1,h2⟩:=Dg hag hsz hk hk1 hcell hr;exact⟨v,by simpa[Instr.loadAt,Instr.sureAddr]using h1,h2⟩
variable{v:Value}
theorem aw.gu{a:AV}(h:aw w a v)(h1:da a.cells=true):cf w a.cells v.cells.toList:=by
 unfold AV.cells at*;split
 ·rename_i cs;cases h with
  |agg _ vs hl hr=>exact⟨by simpa[Value.cells]using hl,fun i a v ha hv=>hr i a v ha (by simpa[Value.cells]using hv)⟩
 ·rename_i vs;cases h;refine⟨by simp[Value.cells],fun i a v ha hv=>?_⟩;simp only[List.getElem?_map,Option.map_eq_some_iff]at ha;obtain⟨x,hx,rfl⟩:=ha;simp only[Value.cells]at hv;rw[hx]at hv;cases hv;exact .raw _
 ·rename_i hna hnr;have h1':a.one=true:=by simpa[da]using h1
  have ho:=h.one h1';have hcv:v.cells=#[v]:=by cases v<;>first|rfl|simp[Value.oneCell']at ho
  rw[hcv];refine⟨rfl,fun i a' v' ha hv=>?_⟩;cases i with
  |zero=>simp at ha hv;subst ha hv;exact h
  |succ i=>simp at ha
theorem cf.da{cs:List AV}{vs:List Value}(h:cf w cs vs)(h1:da cs=true):∀v∈vs,v.oneCell'=true:=by
 intro v hv;obtain⟨i,hi⟩:=List.getElem?_of_mem hv;have hlt:i<cs.length:=by rw[h.1];exact(List.getElem?_eq_some_iff.1 hi).1
 have:=h.2 i cs[i] v (List.getElem?_eq_getElem hlt) hi;exact this.one (by simp only[Gd.da,List.all_eq_true]at h1;exact h1 _ (List.getElem_mem hlt))
def j8(cells:List AV)(off:Nat)(new:List AV):List AV:=cells.take off++new++cells.drop (off+new.length)
variable{new:List AV}{off:Nat}
theorem Fi{cells:List AV}(h:off+new.length<=cells.length):(j8 cells off new).length=cells.length:=by simp[j8];omega
theorem Et{cells:List AV}{p:Nat}(h:off<=cells.length):(j8 cells off new)[p]?=if off<=p/\p<off+new.length then new[p-off]? else cells[p]?:=by
 unfold j8;rcases Nat.lt_or_ge p off with h1|h1
 ·rw[jN,List.append_assoc,List.getElem?_append_left jF,List.getElem?_take,if_pos h1]
 ·rcases Nat.lt_or_ge p (off+new.length)with h2|h2
  ·rw[if_pos ⟨h1,h2⟩,List.append_assoc,List.getElem?_append_right jF,List.getElem?_append_left jF];congr 1;simp;omega
  ·rw[jN,List.getElem?_append_right jF];simp only[List.length_append,List.length_take,List.getElem?_drop];congr 1;omega
variable{i:Nat}
theorem wm{b t:Nat}{r r':Row}{vs:List Value}(hw:aO w H)(hi:H.get i=some r)(hnm:w.nm i r.fP=some (.at b t r.bA))(hn:cf w new vs)(h1:Gd.da new=true)(hfit:off+new.length<=t)
  (hi1:r.y7=true) (hi2:r'.y7=true) (hs:r'.bA=r.bA) (he:r'.elem=r.elem) (hv:r.fP<=r'.fP) (hok:r'.ok) (hle:r'.cells.length<=t) (hcells:∀(p:Nat) a,r'.cells[p]?=some a->if off<=p/\p<off+new.length then new[p-off]?=some a else r.cells[p]?=some a) :
  ∃w':NW,(storeCells ⟨b,off,none⟩ vs).run P w.toWorld=.ok () w'.toWorld/\aO w' (H.put i r')/\Ext w H w' (H.put i r')/\w'.nm i r'.fP=some (.at b t r.bA):=by
 obtain⟨_,z,hz,hrow⟩:=hw.rows i r hi;rw[hnm]at hz;cases hz;obtain⟨_,cur,hh,hfit',hr⟩:=hrow;rw[Row.rH hi1]at hfit';obtain⟨hsz,hl⟩:=hfit';rw[Row.sL hi1]at hh;have hlen:=hn.1;have hrun:=run_storeCells_at P b off r.elem vs 0 cur w.toWorld hh jB (hn.da h1);rw[Nat.add_zero]at hrun;generalize hcur:(cur.toList.take off++vs++cur.toList.drop (off+vs.length)).toArray=cur' at hrun;have hsz':cur'.size=t:=by subst hcur;simp;omega
 have hheap:(w.toWorld.setRow b cur').heap[b]?=some (.cells cur' r.elem (0,0)):=setRow_heap w.toWorld b cur cur' r.elem (0,0) hh;have hoth:∀c,c≠b->(w.toWorld.setRow b cur').heap[c]?=w.heap[c]?:=fun c hc=>setRow_other w.toWorld b c cur' hc
 have hsame:(w.toWorld.setRow b cur').heap.size=w.heap.size:=size_setRow w.toWorld b cur';obtain⟨g1,g2⟩:=Hs (W:=w.toWorld.setRow b cur') hw hi hnm hs hv hok rfl rfl rfl hsame hoth cur' (by rw[Row.sL hi2,he];exact hheap) (by rw[Row.rH hi2];exact⟨hsz',hle⟩) (fun p a v ha hv=>by
  have hp:=hcells p a ha;have hpl:p<t:=by have:=(List.getElem?_eq_some_iff.1 ha).1;omega
  subst hcur;simp only[List.getElem?_toArray]at hv;split at hp
  ·rename_i hin;rw[List.append_assoc,List.getElem?_append_right jF,List.getElem?_append_left jF]at hv;simp only[List.length_take,Array.length_toList]at hv;rw[show p-min off cur.size=p-off from jB]at hv;exact hn.2 _ a v hp hv
  ·rename_i hin;refine hr p a v hp ?_;rcases Nat.lt_or_ge p off with h1|h1
   ·rw[List.append_assoc,List.getElem?_append_left jF,List.getElem?_take,if_pos h1]at hv;simpa using hv
   ·rw[List.getElem?_append_right jF]at hv;simp only[List.length_append,List.length_take,Array.length_toList,List.getElem?_drop]at hv;rw[show off+vs.length+(p-(min off cur.size+vs.length))=p from jB]at hv;simpa using hv)
 exact⟨_,hrun,g1,g2,NW.ca _ _ _ _⟩
def ze(r:Row)(k j:Nat)(new:List AV):Row:=match r with
 |.var t cs=>.var t (j8 cs j new)
 |.aL e sz css=>.aL e sz (css.set k (j8 (css.getD k []) j new))
 |.mp ks vs=>.mp ks vs
def CI(r:Row)(m k j n:Nat):Prop:=match r with
 |.var _ cs=>m=0/\j+n<=cs.length
 |.aL _ _ css=>m=css.length/\k<css.length/\j+n<=(css.getD k []).length
 |.mp _ _=>False
theorem QX{ty:TypeId}{m j n:Nat}{r:Row}{x:AV}(hw:aO w H)(ha:aw w (.pt i m k j) va)(hi:H.get i=some r)(hx:aw w x v)(h1:Gd.da x.cells=true)(hsz:dc P ty=some n)(hn:x.cells.length=n)(hst:CI r m k j n) :
  ∃w':NW,(Instr.storeAt ty va v).run P w.toWorld=.ok () w'.toWorld/\aO w' (H.put i (ze r k j x.cells))/\Ext w H w' (H.put i (ze r k j x.cells)):=by
 have hc:=hx.gu h1;have hsize:v.cells.size=n:=by have:=hc.1;simp at this;omega
 have run:∀{W:World} (b off:Nat),(storeCells ⟨b,off,none⟩ v.cells.toList).run P w.toWorld=.ok () W->(Instr.storeAt ty (.pointer (some ⟨b,off,none⟩)) v).run P w.toWorld=.ok () W:=fun b off hrun=>by simp only[Instr.storeAt,Instr.sureAddr,pure_bind,storeVar,Sem.run_bind,lT hsz,Result.andThen_ok,hsize,ne_eq,not_true_eq_false,if_false];simpa using hrun
 obtain⟨hok,z,hz,hrow⟩:=hw.rows i r hi;cases ha with
 |pt _ _ _ _ b t s hnm=>
 cases r with
 |var ty' cs=>
  obtain⟨rfl,hfit⟩:=hst;have hz:w.nm i 0=some z:=hz;rw[hnm]at hz;cases hz;obtain⟨rfl,cur,hh,⟨hsz',hl⟩,hr⟩:=hrow;have hl:cs.length<=t:=hl;have hs0:(Row.var ty' cs).bA=0:=rfl;have hsp:=Fi (cells:=cs) (new:=x.cells) (off:=j) jB;obtain⟨w',hrun,g1,g2,_⟩:=wm (P:=P) (off:=j) (r':=.var ty' (j8 cs j x.cells)) hw hi hnm hc h1 jB rfl rfl rfl rfl jl trivial (by show(j8 cs j x.cells).length<=t;omega) (fun p a hp=>by
   have hp:(j8 cs j x.cells)[p]?=some a:=hp;rw[Et jB]at hp;split at hp
   ·rename_i h;rw[if_pos h];exact hp
   ·rename_i h;rw[if_neg h];exact hp)
  refine⟨w',run _ _ ?_,g1,g2⟩;rw[hs0,Nat.mul_zero,Nat.zero_add];exact hrun
 |aL e sz css=>
  obtain⟨rfl,hk,hfit⟩:=hst;have hz:w.nm i css.length=some z:=hz;rw[hnm]at hz;cases hz;obtain⟨hs_,cur,hh,⟨hsz',hl⟩,hr⟩:=hrow;have hs_:sz=s:=hs_.symm;subst hs_;have hs0:(Row.aL e sz css).bA=sz:=rfl;have hlen:=vf hok.2 hk;have hfl:(Row.aL e sz css).cells.length=css.length*sz:=kK hok.2;have hlt:j+n<=sz:=jB;have hmul:=Nat.mul_le_mul_right sz (show k+1<=css.length from hk);rw[Nat.add_mul,Nat.one_mul]at hmul;have hsp:=Fi (cells:=css.getD k []) (new:=x.cells) (off:=j) jB;have hok':∀cs∈css.set k (j8 (css.getD k []) j x.cells),cs.length=sz:=fun cs h=>by
   rcases List.mem_or_eq_of_mem_set h with h|h
   ·exact hok.2 _ h
   ·rw[h,hsp,hlen]
  have hfl':(css.set k (j8 (css.getD k []) j x.cells)).flatten.length=css.length*sz:=by rw[kK hok',List.length_set]
  obtain⟨w',hrun,g1,g2,_⟩:=wm (P:=P) (off:=k*sz+j) (r':=.aL e sz (css.set k (j8 (css.getD k []) j x.cells))) hw hi hnm hc h1 jB rfl rfl rfl rfl (by show css.length<=(css.set _ _).length;simp) ⟨hok.1,hok'⟩ (by show(List.flatten _).length<=t;omega) (fun p a hp=>by
   have hp:(css.set k (j8 (css.getD k []) j x.cells)).flatten[p]?=some a:=hp;have hpl:p<css.length*sz:=by have:=(List.getElem?_eq_some_iff.1 hp).1;omega
   obtain⟨q,l,hq,hl',rfl⟩:=uL hpl;rw[qp hok' (by simpa using hq) hl']at hp;show if k*sz+j<=q*sz+l/\q*sz+l<k*sz+j+x.cells.length then _ else css.flatten[q*sz+l]?=some a
   rw[qp hok.2 hq hl'];by_cases e':q=k
   ·subst e';have e1:(css.set q (j8 (css.getD q []) j x.cells)).getD q []=j8 (css.getD q []) j x.cells:=by simp[hk]
    rw[e1,Et jB]at hp;split at hp
    ·rename_i h;rw[jP,show q*sz+l-(q*sz+j)=l-j from jB];exact hp
    ·rename_i h;rw[jN];exact hp
   ·have e1:(css.set k (j8 (css.getD k []) j x.cells)).getD q []=css.getD q []:=by simp[List.getElem?_set,Ne.symm e']
    rw[e1]at hp;rw[if_neg]
    ·exact hp
    ·rintro⟨h1,h2⟩;apply e';rcases Nat.lt_trichotomy q k with h|h|h
     ·have:=Nat.mul_le_mul_right sz (show q+1<=k from h);rw[Nat.add_mul]at this;omega
     ·exact h
     ·have:=Nat.mul_le_mul_right sz (show k+1<=q from h);rw[Nat.add_mul]at this;omega)
  exact⟨w',run _ _ hrun,g1,g2⟩
 |mp ks vs=>exact hst.elim
theorem JS{x:AV}(hw:aO w H)(hi:H.get i=none)(hx:aw w x v)(h1:Gd.da x.cells=true) :
  ∃(u:Value) (w':NW),(Instr.box t v).run P w.toWorld=.ok u w'.toWorld/\aw w' (.pt i 0 0 0) u/\aO w' (H.put i (.var t x.cells))/\Ext w H w' (H.put i (.var t x.cells)):=by
 have hc:=hx.gu h1;have hlen:x.cells.length=v.cells.size:=by have:=hc.1;simpa using this
 obtain⟨g1,g2⟩:=vg (row:=.var t x.cells) hw (hw.none hi _) (fun r' hr=>by rw[hi]at hr;cases hr) trivial v.cells ⟨rfl,by show x.cells.length<=_;omega⟩ (fun k a u ha hu=>hc.2 k a u ha (by simpa using hu));refine⟨.pointer (some ⟨w.heap.size,0,none⟩),_,by simp[Instr.box,newVar,newRow];rfl,?_,g1,g2⟩;have:=aw.pt (w:=((w.to (w.alloc ((Row.var t x.cells).obj v.cells))).fV w.heap.size).name i (Row.var t x.cells).fP (.at w.heap.size v.cells.size (Row.var t x.cells).bA)) i 0 0 0 w.heap.size v.cells.size 0 (NW.ca _ _ _ _);simpa using this
variable{zs:List Value}
theorem yc{w:World}(h:eT P t=some zs):∃z:Value,(zeroValue t).run P w=.ok z w/\z.cells.toList=zs:=by
 unfold eT at h;cases hi:P.info? t with
 |none=>rw[hi]at h;cases h
 |some i=> rw[hi]at h;simp only[Option.bind_some,Option.map_eq_some_iff]at h;obtain⟨z,hz,rfl⟩:=h;exact⟨z,by simp[zeroValue,typeInfo,hi,hz],rfl⟩
theorem M4(hw:aO w H)(hi:H.get i=none)(hz:eT P t=some zs) :
  ∃(u:Value) (w':NW),(Instr.alloc t true (.tuple #[])).run P w.toWorld=.ok u w'.toWorld/\aw w' (.pt i 0 0 0) u/\aO w' (H.put i (.var t (zs.map .raw)))/\Ext w H w' (H.put i (.var t (zs.map .raw))):=by
 obtain⟨z,hrun,rfl⟩:=yc (w:=w.toWorld) hz;obtain⟨g1,g2⟩:=vg (row:=.var t (z.cells.toList.map .raw)) hw (hw.none hi _) (fun r' hr=>by rw[hi]at hr;cases hr) trivial z.cells ⟨rfl,by show(z.cells.toList.map AV.raw).length<=_;simp⟩ (fun k a u ha hu=>by have ha:(z.cells.toList.map AV.raw)[k]?=some a:=ha;simp only[List.getElem?_map,Array.getElem?_toList,hu,Option.map_some,Option.some.injEq]at ha;subst ha;exact .raw _)
 refine⟨.pointer (some ⟨w.heap.size,0,none⟩),_,by simp[Instr.alloc,hrun,newVar,newRow];rfl,?_,g1,g2⟩;have:=aw.pt (w:=((w.to (w.alloc ((Row.var t (z.cells.toList.map .raw)).obj z.cells))).fV w.heap.size).name i (Row.var t (z.cells.toList.map .raw)).fP (.at w.heap.size z.cells.size (Row.var t (z.cells.toList.map .raw)).bA)) i 0 0 0 w.heap.size z.cells.size 0 (NW.ca _ _ _ _);simpa using this
end
abbrev PA:=Prop×AV
def gV:PA:=(False,.any)
def jV(P:Program)(w:NW)(s:Sem Value)(q:PA):Prop:=q.1->∃v,s.run P w.toWorld=.ok v w.toWorld/\aw w q.2 v
theorem EH{P:Program}{w:NW}{s:Sem Value}:jV P w s gV:=fun h=>h.elim
def lR:AV->Bool×AV
 |.gd p v=>(p,v)
 |v=>(true,v)
def wW(c x y:Bool):Bool:=if c then x else y
def nG(c a b:AV):PA:=match c,lR a,lR b with
 |.raw (.bool c),(pa,.raw (.bool x)),(pb,.raw (.bool y))=>((c=true->pa=true)/\(c=false->pb=true),.raw (.bool (wW c x y)))
 |_,_,_=>gV
def ra:AV->PA
 |.ip cs=>(True,.ip cs)
 |.pt i m k j=>(True,.pt i m k j)
 |.raw (.pointer (some a))=>(True,.raw (.pointer (some a)))
 |.raw (.func (.func f) x y)=>(True,.raw (.func (.func f) x y))
 |.raw (.iface t v)=>(True,.raw (.iface t v))
 |.raw (.slice a n c)=>(True,.raw (.slice a n c))
 |.raw (.map (some r))=>(True,.raw (.map (some r)))
 |_=>gV
def sA(op:BinOp)(k:IntKind)(x y:Int):Int:=
 let a:=BitVec.ofInt k.bits x
 let b:=BitVec.ofInt k.bits y
 match op with
 |.and=>k.wrap (a &&& b).toNat
 |.or=>k.wrap (a ||| b).toNat
 |.xor=>k.wrap (a ^^^ b).toNat
 |_=>k.wrap (a &&& ~~~b).toNat
def yo(op:BinOp)(k:IntKind)(a:Int)(k':IntKind)(b:Int):PA:=match op with
 |.add=>(k=k',.raw (.int k (k.wrap (a+b))))
 |.sub=>(k=k',.raw (.int k (k.wrap (a-b))))
 |.mul=>(k=k',.raw (.int k (k.wrap (a*b))))
 |.quo=>(k=k'/\b≠0,.raw (.int k (k.wrap (a.tdiv b))))
 |.rem=>(k=k'/\b≠0,.raw (.int k (a.tmod b)))
 |.and=>(k=k',.raw (.int k (sA .and k a b)))
 |.or=>(k=k',.raw (.int k (sA .or k a b)))
 |.xor=>(k=k',.raw (.int k (sA .xor k a b)))
 |.andNot=>(k=k',.raw (.int k (sA .andNot k a b)))
 |.shl=>(0<=b,.raw (.int k (k.wrap (a*2 ^ (min b.toNat k.bits)))))
 |.shr=>(0<=b,.raw (.int k (a.fdiv (2 ^ (min b.toNat k.bits)))))
 |.eql=>(k=k',.raw (.bool (decide (a=b))))
 |.neq=>(k=k',.raw (.bool (!decide (a=b))))
 |.lss=>(k=k',.raw (.bool (decide (a<b))))
 |.leq=>(k=k',.raw (.bool (decide (a<=b))))
 |.gtr=>(k=k',.raw (.bool (decide (b<a))))
 |.geq=>(k=k',.raw (.bool (decide (b<=a))))
def xL(op:BinOp)(a b:ByteArray):PA:=match op with
 |.add=>(a.size+b.size<=9223372036854775807,.raw (.string (a++b)))
 |.eql=>(True,.raw (.bool (decide (a=b))))
 |.neq=>(True,.raw (.bool (!decide (a=b))))
 |.lss=>(True,.raw (.bool (Op.bytesLess a.toList b.toList)))
 |.gtr=>(True,.raw (.bool (!(Op.bytesLess a.toList b.toList || decide (a=b)))))
 |.leq=>(True,.raw (.bool (Op.bytesLess a.toList b.toList || decide (a=b))))
 |.geq=>(True,.raw (.bool (!(Op.bytesLess a.toList b.toList))))
 |_=>gV
def iX:List AV->List AV->Bool
 |[],[]=>true
 |.raw (.int _ a)::l,.raw (.int _ b)::m=>decide (a=b) && iX l m
 |.raw (.string a)::l,.raw (.string b)::m=>decide (a=b) && iX l m
 |.raw (.bool a)::l,.raw (.bool b)::m=>(a == b) && iX l m
 |_,_=>false
def qx(P:Program)(t:TypeId):Bool:=match P.underlying t with
 |some (.pointer _)=>true
 |_=>false
def zS(P:Program)(t:TypeId):Bool:=match P.underlying t with
 |some (.interface _)=>true
 |_=>false
def xj(P:Program)(t:TypeId):Bool:=match P.underlying t with
 |some .bool=>true
 |_=>false
def sT(P:Program)(t:TypeId):Bool:=match P.underlying t with
 |some .string=>true
 |_=>false
def iu(P:Program)(t:TypeId):Bool:=match P.underlying t with
 |some (.slice _)=>true
 |_=>false
inductive LK where
 |int (k:IntKind)|str|bool
 deriving DecidableEq
def jK:AV->Option LK
 |.raw (.int k _)=>some (.int k)
 |.raw (.string _)=>some .str
 |.raw (.bool _)=>some .bool
 |_=>none
def wI(P:Program)(leafK:TypeId->Option (List LK)):Nat->List Field->Option (List LK)
 |_,[]=>some []
 | off, f :: fs => if f.name ≠ "_" ∧ f.offset = off then match leafK f.type, dc P f.type with
   |some ks,some k=>if ks.length=k then(wI P leafK (off+k) fs).map (ks++·)else none
   |_,_=>none
  else none
def sG(P:Program):Nat->TypeId->Option (List LK)
 |0,_=>none
 |d+1,t=>match P.underlying t with
  |some (.int k)=>some [.int k]
  |some .string=>some [.str]
  |some .bool=>some [.bool]
  |some (.struct fs)=>if P.stoodInHeld t then none else wI P (sG P d) 0 fs.toList
  |_=>none
def yv(P:Program)(t:TypeId):Option (List LK):=if P.eqGuardType P.depth t then none else sG P 8 t
def wU(P:Program)(ne:Bool)(t:TypeId)(x y:AV):PA:=match x,y with
 |.raw (.bool a),.raw (.bool b)=>(xj P t=true,.raw (.bool (ne ^^ (a == b))))
 |.raw (.pointer none),.raw (.pointer b)=>(qx P t=true,.raw (.bool (ne ^^ b.isNone)))
 |.raw (.pointer (some _)),.raw (.pointer none)=>(qx P t=true,.raw (.bool ne))
 |.ip _,.raw (.pointer none)=>(qx P t=true,.raw (.bool ne))
 |.pt ..,.raw (.pointer none)=>(qx P t=true,.raw (.bool ne))
 |.raw (.slice none _ _),.raw (.slice b _ _)=>(iu P t=true,.raw (.bool (ne ^^ b.isNone)))
 |.raw (.slice (some _) _ _),.raw (.slice none _ _)=>(iu P t=true,.raw (.bool ne))
 |.sl _ _ css _,.raw (.slice none _ _)=>(iu P t=true/\css≠[],.raw (.bool ne))
 |.agg cs,.agg ds=>match yv P t with
  |some ks=>(dR P t=some true/\cs.map jK=ks.map some/\ds.map jK=ks.map some,.raw (.bool (ne ^^ iX cs ds)))
  |none=>gV
 |_,_=>gV
def fD(P:Program)(op:BinOp)(t:TypeId)(x y:AV):PA:=match x,y with
 |.raw (.int k a),.raw (.int k' b)=>yo op k a k' b
 |.raw (.string a),.raw (.string b)=>xL op a b
 |x,y=>match op with
  |.eql=>wU P false t x y
  |.neq=>wU P true t x y
  |_=>gV
def sk(op:UnOp)(x:AV):PA:=match op,x with
 |.not,.raw (.bool b)=>(True,.raw (.bool (!b)))
 |.neg,.raw (.int k n)=>(True,.raw (.int k (k.wrap (0-n))))
 |_,_=>gV
def oO(P:Program)(H:Hp)(t:TypeId)(a:AV):PA:=match ph H a,dR P t,dc P t with
 |some (c,cs),some true,some k=>(c/\k<=cs.length/\1<=cs.length,.agg (cs.take k))
 |some (c,cs),some false,some k=>(c/\k<=cs.length/\1<=cs.length,cs.getD 0 .any)
 |_,_,_=>gV
def sJ(P:Program)(t:TypeId)(a:AV)(f:Nat):PA:=match a,cB P t f with
 |.ip cs,some off=>(True,.ip (cs.drop off))
 |.pt i m k j,some off=>(True,.pt i m k (j+off))
 |_,_=>gV
def wJ(P:Program)(t:TypeId)(f:Nat):Option (TypeId×Nat):=match P.underlying t with
 |some (.struct fs)=>(fs[f]?).map fun fd=>(fd.type,fd.offset)
 |_=>none
def yC(P:Program)(t:TypeId)(cs:List AV)(off:Nat):PA:=match dR P t,dc P t with
 |some true,some k=>(off+k<=cs.length,.agg ((cs.drop off).take k))
 |some false,some _=>(off<cs.length,cs.getD off .any)
 |_,_=>gV
def vA(P:Program)(t:TypeId)(a:AV)(f:Nat):PA:=match a,wJ P t f with
 |.agg cs,some (ft,off)=>yC P ft cs off
 |_,_=>gV
def jj(P:Program)(t:TypeId):Option Nat:=(iH P t).bind (dc P)
def zz(P:Program)(t:TypeId):Option (Nat×Nat):=match P.underlying t with
 |some (.array len e)=>(dc P e).map fun s=>(len,s)
 |_=>none
def yt(o:Option (Nat×Nat))(i:Int)(f:Nat->AV):PA:=match o with
 |some (len,s)=>(0<=i/\i<len,f (i.toNat*s))
 |none=>gV
def rT(P:Program)(t:TypeId)(a i:AV):PA:=match a,i with
 |.sl _ sz css d,.raw (.int _ i)=>(jj P t=some sz/\0<=i/\i<css.length,.ip (css.getD i.toNat d))
 |.rs d m sz n,.raw (.int _ i)=>(jj P t=some sz/\0<=i/\i<n,.pt d m i.toNat 0)
 |.rv d m sz o n,.raw (.int _ i)=>(jj P t=some sz/\0<=i/\i<n,.pt d m (o+i.toNat) 0)
 |.pt d m k j,.raw (.int _ i)=>yt (zz P t) i fun o=>.pt d m k (j+o)
 |.ip cs,.raw (.int _ i)=>yt (zz P t) i fun o=>.ip (cs.drop o)
 |_,_=>gV
def eL(s:ByteArray)(i:Int):Int:=((s.data[i.toNat]?.getD 0).toNat:Int)
def rX(P:Program)(t:TypeId)(a i:AV):PA:=match a,i with
 |.raw (.string s),.raw (.int _ i)=>(sT P t=true/\0<=i/\i<s.size,.raw (.int .u8 (eL s i)))
 |_,_=>gV
def u7(a:AV)(i:Nat):PA:=match a with
 |.bj vs=>(i<vs.length,vs.getD i .any)
 |_=>gV
def rk:Option AV->Option (Option Int)
 |none=>some none
 |some (.raw (.int _ i))=>some (some i)
 |_=>none
def sC(P:Program)(t:TypeId)(a:AV)(lo hi mx:Option AV):PA:=match a,rk lo,rk hi,rk mx with
 |.raw (.string s),some lo,some hi,some none=>(sT P t=true/\0<=lo.getD 0/\lo.getD 0<=hi.getD s.size/\hi.getD s.size<=s.size,.raw (.string (s.extract (lo.getD 0).toNat (hi.getD s.size).toNat)))
 |.sl _ sz css d,some lo,some hi,some none=> (jj P t=some sz/\0<=lo.getD 0/\lo.getD 0<=hi.getD css.length/\hi.getD css.length<=css.length,.sl false sz ((css.drop (lo.getD 0).toNat).take ((hi.getD css.length).toNat-(lo.getD 0).toNat)) d)
 |.rs d m sz n,some none,some hi,some none=>(jj P t=some sz/\0<=hi.getD n/\hi.getD n<=n,.rs d m sz (hi.getD n).toNat)
 |.rs d m sz n,some (some lo),some hi,some none=>(jj P t=some sz/\0<=lo/\lo<=hi.getD n/\hi.getD n<=n,.rv d m sz lo.toNat ((hi.getD n).toNat-lo.toNat))
 |.rv d m sz o n,some lo,some hi,some none=>(jj P t=some sz/\0<=lo.getD 0/\lo.getD 0<=hi.getD n/\hi.getD n<=n,.rv d m sz (o+(lo.getD 0).toNat) ((hi.getD n).toNat-(lo.getD 0).toNat))
 |.rs d m sz n,some lo,some (some hi),some (some mx)=>(jj P t=some sz/\0<=lo.getD 0/\lo.getD 0<=hi/\hi<=mx/\mx<=n,.rv d m sz (lo.getD 0).toNat (hi.toNat-(lo.getD 0).toNat))
 |.raw (.slice none 0 0),some lo,some hi,some none=>(iu P t=true/\(jj P t).isSome=true/\lo.getD 0=0/\hi.getD 0=0,.raw (.slice none 0 0))
 |_,_,_,_=>gV
def Im:List AV->Option (List Value)
 |[]=>some []
 |.raw v::l=>(Im l).map (v::·)
 |_=>none
def vm(fn:Fn)(first captured:List AV):PA:=match fn,first with
 |.func f,[]=>(True,.fQ f captured)
 |.func f,x::l=>(captured=[],.bd f (x::l))
 |_,_=>gV
def yJ(P:Program)(t:TypeId)(x:AV):PA:=match x,zS P t,P.underlying t with
 |.raw v,false,some _=>(True,.raw (.iface t v))
 |a,false,some _=>(True,.kH t a)
 |_,_,_=>gV
def BZ(P:Program)(t:TypeId):Option IntKind:=match P.underlying t with
 |some (.int k)=>some k
 |_=>none
def uo(P:Program)(s d:TypeId)(x:AV):PA:=match x,BZ P d with
 |.raw (.int _ n),some k=>((P.underlying s).isSome=true,.raw (.int k (k.wrap n)))
 |.raw (.string s'),none=>((P.underlying s).isSome=true/\sT P d=true,.raw (.string s'))
 |_,_=>gV
def AB(P:Program)(t:TypeId):Bool:=match P.underlying t with
 |some (.map _ _)=>true
 |_=>false
def tN(P:Program)(H:Hp)(t:TypeId)(x:AV):PA:=match x with
 |.mr i=>if jX.contains t=true then(match H.get i with
  |some (.mp ks _)=>(AB P t=true,.raw (.int .i64 ks.length))
  |_=>gV)else gV
 |.sl _ _ css _=>(iu P t=true,.raw (.int .i64 css.length))
 |.rs _ _ _ n=>(iu P t=true,.raw (.int .i64 n))
 |.rv _ _ _ _ n=>(iu P t=true,.raw (.int .i64 n))
 |.raw (.slice _ n _)=>(iu P t=true,.raw (.int .i64 n))
 |.raw (.string s)=>(sT P t=true,.raw (.int .i64 s.size))
 |_=>gV
def yW(P:Program)(t:TypeId)(x:AV):PA:=match x with
 |.sl true _ css _=>(iu P t=true,.raw (.int .i64 css.length))
 |.raw (.slice _ _ n)=>(iu P t=true,.raw (.int .i64 n))
 |_=>gV
def xz(mx:Bool)(args:List AV):PA:=match args with
 |[.raw (.int k a),.raw (.int k' b)]=>(k=k',.raw (.int k (if mx then(if b>a then b else a)else(if b<a then b else a))))
 |_=>gV
def ng(P:Program)(H:Hp)(b:Builtin)(ts:List TypeId)(args:List AV):PA:=match b,ts,args with
 |.len,t::_,x::_=>tN P H t x
 |.cap,t::_,x::_=>yW P t x
 |.max,_,args=>xz true args
 |.min,_,args=>xz false args
 |_,_,_=>gV
def kq(P:Program)(t:TypeId):Option (List (Nat×Nat)):=match P.underlying t with
 |some (.struct fs)=>fs.toList.mapM fun f=>(dc P f.type).map fun k=>(f.offset,k)
 |_=>none
def qH(pl:Nat->Option (Nat×Nat))(cells:List AV):List (Nat×AV)->Option (List AV)
 |[]=>some cells
 |(i,a)::rest=>match pl i with
  |some (off,k)=>if a.cells.length=k/\off+k<=cells.length then qH pl (j8 cells off a.cells) rest else none
  |none=>none
def sO(P:Program)(t:TypeId)(parts:List (Nat×AV)):PA:=match eT P t,kq P t with
 |some zs,some pl=>match qH (fun i=>pl[i]?) (zs.map .raw) parts with
  |some cs=>(da ((parts.map fun p=>p.2.cells).flatten)=true,.agg cs)
  |none=>gV
 |_,_=>gV
def vq(P:Program)(ev:Operand->AV)(H:Hp):Op->PA
 |.move x=>(True,ev x)
 |.assign x=>(True,ev x)
 |.pick c a b=>nG (ev c) (ev a) (ev b)
 |.nilCheck x=>ra (ev x)
 |.binOp op t x y _=>fD P op t (ev x) (ev y)
 |.unOp op _ x=>sk op (ev x)
 |.load t a=>oO P H t (ev a)
 |.fieldAddr t a f=>sJ P t (ev a) f
 |.field t a f=>vA P t (ev a) f
 |.indexAddr t a i=>rT P t (ev a) (ev i)
 |.index t a i=>rX P t (ev a) (ev i)
 |.extract a i=>u7 (ev a) i
 |.slice t a lo hi mx=>sC P t (ev a) (lo.map ev) (hi.map ev) (mx.map ev)
 |.makeFunc fn first captured=>vm fn (first.toList.map ev) (captured.toList.map ev)
 |.makeInterface t x=>yJ P t (ev x)
 |.convert s d x=>uo P s d (ev x)
 |.build t parts=>sO P t (parts.toList.map fun p=>(p.1,ev p.2))
 |.call { callee:=.builtin b,args,argTypes }=>ng P H b argTypes.toList (args.toList.map ev)
 |_=>gV
section
variable {P:Program}{w:NW}{H:Hp}
theorem dm{v u:Value}(h:aw w (.raw v) u):u=v:=by cases h;rfl
theorem B8(a b:Int):(a == b)=decide (a=b):=by rw[Bool.eq_iff_iff];simp
theorem wT(a b:ByteArray):(a.toList == b.toList)=decide (a=b):=by
 rw[Bool.eq_iff_iff,beq_iff_eq,decide_eq_true_iff];constructor
 ·intro h;exact ByteArray.ext (by simpa[ByteArray.toList_eq]using h)
 ·rintro rfl;rfl
theorem xN{a:AV}{lk:LK}(h:jK a=some lk):match lk with
  |.int k=>∃n,a=.raw (.int k n)
  |.str=>∃s,a=.raw (.string s)
  |.bool=>∃b,a=.raw (.bool b):=by
 unfold jK at h;split at h<;>cases h<;>exact⟨_,rfl⟩
theorem C2:∀{a c b d:List AV},a.map jK=c.map jK->(∀x∈a,(jK x).isSome=true)->iX (a++b) (c++d)=(iX a c && iX b d)
 |[],[],b,d,_,_=>by simp[iX]
 |[],_::_,_,_,h,_=>by simp at h
 |_::_,[],_,_,h,_=>by simp at h
 |x::a,y::c,b,d,h,hs=>by simp only[List.map_cons,List.cons.injEq]at h;have ih:=C2 (b:=b) (d:=d) h.2 (fun z hz=>hs z (by simp[hz]));obtain⟨lk,hx⟩:=Option.isSome_iff_exists.1 (hs x jE);have hy:=h.1.symm.trans hx;have h1:=xN hx;have h2:=xN hy;cases lk<;>(obtain⟨u,rfl⟩:=h1;obtain⟨v,rfl⟩:=h2;simp only[List.cons_append,iX,ih,Bool.and_assoc])
variable{cs:List AV}
theorem CV{ks:List LK}(h:cs.map jK=ks.map some):(∀x∈cs,(jK x).isSome=true)/\cs.length=ks.length:=by refine⟨fun x hx=>?_,by have:=congrArg List.length h;simpa using this⟩;have:jK x∈cs.map jK:=List.mem_map.2 ⟨x,hx,rfl⟩;rw[h]at this;obtain⟨k,_,hk⟩:=List.mem_map.1 this;rw[<-hk];rfl
variable{t:TypeId}
theorem LX{lk:LK}{a b:AV}{va vb:Value}(ht:P.underlying t=some (match lk with|.int k=>.int k|.str=>.string|.bool=>.bool))(ha:aw w a va)(hb:aw w b vb)(hka:jK a=some lk)(hkb:jK b=some lk)(d:Nat) :
  (Op.equalIn (d+1) t va vb).run P w.toWorld=.ok (iX [a] [b]) w.toWorld:=by
 have h1:=xN hka;have h2:=xN hkb;cases lk with
 |int k=>
  obtain⟨m,rfl⟩:=h1;obtain⟨n,rfl⟩:=h2;have:=dm ha;have:=dm hb;subst_vars
  rw[run_equalIn_int w d t k k _ _ ht];simp[iX,B8]
 |str=>
  obtain⟨m,rfl⟩:=h1;obtain⟨n,rfl⟩:=h2;have:=dm ha;have:=dm hb;subst_vars
  rw[run_equalIn_string w d t _ _ ht,wT];simp[iX]
 |bool=>
  obtain⟨m,rfl⟩:=h1;obtain⟨n,rfl⟩:=h2;have:=dm ha;have:=dm hb;subst_vars
  rw[run_equalIn_bool w d t _ _ ht];simp[iX]
def A4(P:Program)(t:TypeId)(v:Value)(vs:List Value):Prop:=(dR P t=some true/\v=.agg vs.toArray)\/(dR P t=some false/\vs=[v])
theorem Dk{xs:Array Value}{off k:Nat}(hag:(dR P t).isSome=true)(hsz:dc P t=some k)(h1:dR P t=some false->k=1)(hfit:off+k<=xs.size) :
  ∃v,(part t xs off).run P w.toWorld=.ok v w.toWorld/\A4 P t v ((xs.toList.drop off).take k):=by
 obtain⟨ag,hag⟩:=Option.isSome_iff_exists.1 hag;cases ag with
 |true=>
  refine⟨.agg (xs.extract off (off+k)),by simp[part,wc hag,lT hsz],.inl ⟨hag,?_⟩⟩;congr 1
  apply Array.ext';simp[Array.toList_extract,List.extract_eq_take_drop]
 |false=> obtain rfl:=h1 hag;have h2:xs[off]?=some (xs[off]' jB):=Array.getElem?_eq_getElem jB;refine⟨xs[off]' jB,by simp[part,wc hag,h2],.inr ⟨hag,?_⟩⟩;rw[List.drop_eq_getElem_cons jF];simp
variable{vs:List Value}
theorem EJ(h:cf w cs vs)(n:Nat):cf w (cs.drop n) (vs.drop n):=⟨by simp[h.1],fun i a v ha hv=>h.2 (n+i) a v (by simpa using ha) (by simpa using hv)⟩
theorem Ig(h:cf w cs vs)(n:Nat):cf w (cs.take n) (vs.take n):=⟨by simp[h.1],fun i a v ha hv=>by
 rw[List.getElem?_take]at ha hv;split at ha
 ·rename_i hi;rw[if_pos hi]at hv;exact h.2 i a v ha hv
 ·cases ha⟩
theorem KV:∀(n:Nat),(∀(t:TypeId) (ks:List LK),sG P n t=some ks->∀(d:Nat) (v v':Value) (cs ds:List AV) (vs us:List Value),A4 P t v vs->A4 P t v' us->cf w cs vs->cf w ds us->cs.map jK=ks.map some->ds.map jK=ks.map some->
   (Op.equalIn (d+n) t v v').run P w.toWorld=.ok (iX cs ds) w.toWorld):=by
 intro n;induction n with
 |zero=>intro t ks h;simp[sG]at h
 |succ n ih=>
  intro t ks hk d v v' cs ds vs us hv hv' hcs hds h1 h2;have leaf:∀lk:LK,P.underlying t=some (match lk with|.int k=>.int k|.str=>.string|.bool=>.bool)->ks=[lk]->dR P t=some false->(Op.equalIn (d+(n+1)) t v v').run P w.toWorld=.ok (iX cs ds) w.toWorld:=by
   rintro lk ht rfl hag;have e1:vs=[v]:=by
    rcases hv with⟨h,_⟩|⟨_,h⟩
    ·rw[hag]at h;cases h
    ·exact h
   have e2:us=[v']:=by
    rcases hv' with⟨h,_⟩|⟨_,h⟩
    ·rw[hag]at h;cases h
    ·exact h
   subst e1 e2;match cs,ds,h1,h2 with
   |[a],[b],h1,h2=> exact LX ht (hcs.2 0 _ _ rfl rfl) (hds.2 0 _ _ rfl rfl) (by simpa using h1) (by simpa using h2) (d+n)
  unfold sG at hk;split at hk
  ·rename_i k hu;exact leaf (.int k) hu (by simpa using hk.symm) (by simp[dR,hu])
  ·rename_i hu;exact leaf .str hu (by simpa using hk.symm) (by simp[dR,hu])
  ·rename_i hu;exact leaf .bool hu (by simpa using hk.symm) (by simp[dR,hu])
  ·rename_i fs hu;split at hk
   ·cases hk
   ·rename_i hst;have hag:dR P t=some true:=by simp[dR,hu]
    have e1:v=.agg vs.toArray:=by
     rcases hv with⟨_,h⟩|⟨h,_⟩
     ·exact h
     ·rw[hag]at h;cases h
    have e2:v'=.agg us.toArray:=by
     rcases hv' with⟨_,h⟩|⟨h,_⟩
     ·exact h
     ·rw[hag]at h;cases h
    subst e1 e2;have hf:P.fieldsOf t=fs:=by simp[Program.fieldsOf,hu]
    rw[show d+(n+1)=(d+n)+1 from jB,run_equalIn_struct w (d+n) t _ _ (by rw[hf];exact hu) (by simpa using hst),hf];have gen:∀(l:List Field) (off:Nat) (ks:List LK),wI P (sG P n) off l=some ks->off<=cs.length->off<=ds.length->(cs.drop off).map jK=ks.map some->(ds.drop off).map jK=ks.map some->
      (Op.eqFields (d+n) vs.toArray us.toArray l).run P w=.ok (iX (cs.drop off) (ds.drop off)) w:=by
     intro l;induction l with
     |nil=>
      intro off ks hk _ _ g1 g2;simp only[wI,Option.some.injEq]at hk;subst hk;have c1:cs.drop off=[]:=by simpa using g1
      have c2:ds.drop off=[]:=by simpa using g2
      rw[c1,c2];simp[Op.eqFields,iX]
     |cons f l ihl=>
      intro off ks hk o1 o2 g1 g2;unfold wI at hk;split at hk
      ·rename_i hno;obtain⟨hname,rfl⟩:=hno;split at hk
       ·rename_i ks1 k e1 e2;split at hk
        ·rename_i hkl;simp only[Option.map_eq_some_iff]at hk;obtain⟨ks2,hk2,rfl⟩:=hk;have l1:=(CV g1).2;have l2:=(CV g2).2;have ag:(dR P f.type).isSome=true/\(dR P f.type=some false->k=1):=by
          cases n with
          |zero=>simp[sG]at e1
          |succ n=>
           unfold sG at e1;split at e1
           ·rename_i hu;refine⟨by simp[dR,hu],fun _=>?_⟩;cases e1;exact hkl.symm
           ·rename_i hu;refine⟨by simp[dR,hu],fun _=>?_⟩;cases e1;exact hkl.symm
           ·rename_i hu;refine⟨by simp[dR,hu],fun _=>?_⟩;cases e1;exact hkl.symm
           ·rename_i hu;exact⟨by simp[dR,hu],fun h=>by simp[dR,hu]at h⟩
           ·cases e1
         have hvl:=hcs.1;have hul:=hds.1;simp only[List.length_drop,List.length_append]at l1 l2;obtain⟨x,hx,cx⟩:=Dk (P:=P) (w:=w) (xs:=vs.toArray) (off:=f.offset) ag.1 e2 ag.2 jF;obtain⟨y,hy,cy⟩:=Dk (P:=P) (w:=w) (xs:=us.toArray) (off:=f.offset) ag.1 e2 ag.2 jF;simp only[List.map_append]at g1 g2;have split1:∀{zs:List AV},(zs.drop f.offset).map jK=ks1.map some++ks2.map some->((zs.drop f.offset).take k).map jK=ks1.map some/\(zs.drop (f.offset+k)).map jK=ks2.map some:=by
          intro zs h;have e:k=(ks1.map some).length:=by simp[hkl]
          constructor
          ·rw[List.map_take,h,e,List.take_left'];rfl
          ·rw[<-List.drop_drop,List.map_drop,h,e,List.drop_left'];rfl
         obtain⟨a1,a2⟩:=split1 g1;obtain⟨b1,b2⟩:=split1 g2;have heq:=ih f.type ks1 e1 d x y _ _ _ _ cx cy (Ig (EJ hcs f.offset) k) (Ig (EJ hds f.offset) k) a1 b1;have hrest:=ihl (f.offset+k) ks2 hk2 jB jB a2 b2;have hsplit:iX (cs.drop f.offset) (ds.drop f.offset)=(iX ((cs.drop f.offset).take k) ((ds.drop f.offset).take k) && iX (cs.drop (f.offset+k)) (ds.drop (f.offset+k))):=by rw[<-C2 (by rw[a1,b1]) (CV a1).1,<-List.drop_drop,<-List.drop_drop,List.take_append_drop,List.take_append_drop]
         simp only[Op.eqFields,ne_eq,hname,not_false_eq_true,if_true,Sem.run_bind,hx,hy,heq,Result.andThen_ok];rw[hsplit];cases hb:iX ((cs.drop f.offset).take k) ((ds.drop f.offset).take k)
         ·simp
         ·simp only[Bool.not_true,Bool.false_eq_true,if_false,Bool.true_and];exact hrest
        ·cases hk
       ·cases hk
      ·cases hk
    have:=gen fs.toList 0 ks hk (Nat.zero_le _) (Nat.zero_le _) (by simpa using h1) (by simpa using h2);simpa using this
  ·cases hk
theorem Pu{ne:Bool}{ds:List AV}{va vb:Value}{ks:List LK}{x y:Operand}(hk:yv P t=some ks)(hag:dR P t=some true)(h1:cs.map jK=ks.map some)(h2:ds.map jK=ks.map some)(ha:aw w (.agg cs) va)(hb:aw w (.agg ds) vb) :
  ∃v,(do eqGuard (if ne then .neq else .eql) t x y va vb;binOp (if ne then .neq else .eql) t va vb:Sem Value).run P w.toWorld=.ok v w.toWorld/\aw w (.raw (.bool (ne ^^ iX cs ds))) v:=by
 unfold yv at hk;split at hk
 ·cases hk
 ·rename_i hg;cases ha with|agg _ vs l1 r1=>
  cases hb with|agg _ us l2 r2=>
  have he:=KV (P:=P) (w:=w) 8 t ks hk 9992 (.agg vs) (.agg us) cs ds vs.toList us.toList (.inl ⟨hag,jE⟩) (.inl ⟨hag,jE⟩) ⟨by simpa using l1,fun i a v ha hv=>r1 i a v ha (by simpa using hv)⟩ ⟨by simpa using l2,fun i a v ha hv=>r2 i a v ha (by simpa using hv)⟩ h1 h2;have hgr:∀op,(eqGuard op t x y (.agg vs) (.agg us)).run P w.toWorld=.ok () w.toWorld:=fun op=>run_eqGuard_agg w op t x y vs us (by simpa using hg)
  have he':(Op.equalIn 10000 t (.agg vs) (.agg us)).run P w.toWorld=.ok (iX cs ds) w.toWorld:=he;cases ne
  ·simp only[Bool.false_eq_true,if_false,Sem.run_bind,hgr,Result.andThen_ok,run_eql_struct,he'];exact⟨_,rfl,by simpa using aw.raw _⟩
  ·simp only[if_true,Sem.run_bind,hgr,Result.andThen_ok,run_neq_struct,he'];exact⟨_,rfl,by simpa using aw.raw _⟩
end
section
variable {P:Program}{w:NW}{H:Hp}
variable{a:AV}{v:Value}
theorem AT(h:aw w a v)(hp:(lR a).1=true):aw w (lR a).2 v:=by
 unfold lR at*;split
 ·cases h with|gd p a v hh hu=>exact hh hp
 ·exact h
variable{va vb:Value}
theorem D5{c b:AV}{vc:Value}(hc:aw w c vc)(ha:aw w a va)(hb:aw w b vb):jV P w (do pure (if<-asBool vc then va else vb)) (nG c a b):=by
 intro hq;unfold nG at*;split at hq
 ·rename_i cb pa x pb y e1 e2;have:=dm hc;subst this;cases cb with
  |true=> have h:=AT ha (by rw[e1];exact hq.1 rfl);rw[e1]at h;have:=dm h;subst this;exact⟨.bool x,by simp[asBool],by simpa[wW]using aw.raw _⟩
  |false=> have h:=AT hb (by rw[e2];exact hq.2 rfl);rw[e2]at h;have:=dm h;subst this;exact⟨.bool y,by simp[asBool],by simpa[wW]using aw.raw _⟩
 ·exact hq.elim
theorem KY(op:BinOp)(t:TypeId)(k:IntKind)(a:Int)(k':IntKind)(b:Int)(x y:Operand):jV P w (do eqGuard op t x y (.int k a) (.int k' b);binOp op t (.int k a) (.int k' b)) (yo op k a k' b):=by
 intro hq;cases op<;>simp only[yo]at hq ⊢
 case shl=> have h0:¬b<0:=jB;exact⟨_,by simp[eqGuard_at_int,binOp,Op.shift,h0],.raw _⟩
 case shr=> have h0:¬b<0:=jB;exact⟨_,by simp[eqGuard_at_int,binOp,Op.shift,h0],.raw _⟩
 case quo=>obtain⟨rfl,h0⟩:=hq;exact⟨_,by simp[eqGuard_at_int,binOp,Op.intDiv,h0],.raw _⟩
 case rem=>obtain⟨rfl,h0⟩:=hq;exact⟨_,by simp[eqGuard_at_int,binOp,Op.intDiv,h0],.raw _⟩
 case and=>subst hq;exact⟨_,by simp[eqGuard_at_int,binOp,Op.intBits,sA],.raw _⟩
 case or=>subst hq;exact⟨_,by simp[eqGuard_at_int,binOp,Op.intBits,sA],.raw _⟩
 case xor=>subst hq;exact⟨_,by simp[eqGuard_at_int,binOp,Op.intBits,sA],.raw _⟩
 case andNot=>subst hq;exact⟨_,by simp[eqGuard_at_int,binOp,Op.intBits,sA],.raw _⟩
 case eql=>subst hq;exact⟨.bool (decide (a=b)),by simp[eqGuard_at_int,binOp,Op.intCmp,B8],.raw _⟩
 case neq=>subst hq;exact⟨.bool (!decide (a=b)),by simp[eqGuard_at_int,binOp,Op.intCmp,bne,B8],.raw _⟩
 all_goals(subst hq;exact⟨_,by simp[eqGuard_at_int,binOp,Op.intArith,Op.intCmp];try rfl,.raw _⟩)
theorem Rh(op:BinOp)(t:TypeId)(a b:ByteArray)(x y:Operand):jV P w (do eqGuard op t x y (.string a) (.string b);binOp op t (.string a) (.string b)) (xL op a b):=by
 intro hq;cases op<;>simp only[xL]at hq ⊢
 case add=>
  have h0:¬(((a.size+b.size:Nat):Int)>IntKind.i64.max):=by rw[IntKind.max_i64];omega
  exact⟨_,by simp only[eqGuard_at_string,binOp,Op.stringOp,pure_bind,if_neg h0,Sem.run_pure],.raw _⟩
 case eql=>exact⟨_,by simp[eqGuard_at_string,binOp,Op.stringOp,wT],.raw _⟩
 case neq=>exact⟨_,by simp[eqGuard_at_string,binOp,Op.stringOp,wT],.raw _⟩
 case lss=>exact⟨_,by simp[eqGuard_at_string,binOp,Op.stringOp],.raw _⟩
 case gtr=>exact⟨_,by simp[eqGuard_at_string,binOp,Op.stringOp,wT],.raw _⟩
 case leq=>exact⟨_,by simp[eqGuard_at_string,binOp,Op.stringOp,wT],.raw _⟩
 case geq=>exact⟨_,by simp[eqGuard_at_string,binOp,Op.stringOp],.raw _⟩
 all_goals exact hq.elim
theorem Kk(x:Operand){ρ:Operand->Value}(hx:ρ x=v)(h:aw w a v)(o:Oper)(ho:o.op=.nilCheck x):(ra a).1->∃v',(execOp ρ o).run P w.toWorld=.ok (.value v') w.toWorld/\aw w (ra a).2 v':=by
 intro hq;unfold ra at*;split at hq<;>try exact hq.elim
 ·cases h with|ip _ ad vs hb hH hcell hr=>exact⟨.pointer (some ad),by simp[execOp,ho,hx],.ip _ ad vs hb hH hcell hr⟩
 ·cases h with|pt _ _ _ _ b t s hn=>exact⟨_,by simp[execOp,ho,hx],.pt _ _ _ _ b t s hn⟩
 all_goals(have:=dm h;subst this;exact⟨_,by simp[execOp,ho,hx];try rfl,.raw _⟩)
variable{t:TypeId}
theorem yP(h:qx P t=true):∃e,P.underlying t=some (.pointer e):=by unfold qx at h;split at h<;>simp_all
theorem Ol(h:xj P t=true):P.underlying t=some .bool:=by unfold xj at h;split at h<;>simp_all
theorem xM(h:sT P t=true):P.underlying t=some .string:=by unfold sT at h;split at h<;>simp_all
theorem ql(h:iu P t=true):∃e,P.underlying t=some (.slice e):=by unfold iu at h;split at h<;>simp_all
theorem qY{x y:Value}{r:Bool}(h:∀d,(Op.equalIn (d+1) t x y).run P w.toWorld=.ok r w.toWorld):(Op.equal t x y).run P w.toWorld=.ok r w.toWorld:=h 9999
theorem qW{ne:Bool}{x y:Operand}{a b:Value}{r:Bool}(hg:∀op,eqGuard op t x y a b=pure ())(h1:binOp .eql t a b=(do pure (.bool (<-Op.equal t a b))))(h2:binOp .neq t a b=(do pure (.bool (!(<-Op.equal t a b)))))
  (he:(Op.equal t a b).run P w.toWorld=.ok r w.toWorld):∃v,(do eqGuard (if ne then .neq else .eql) t x y a b;binOp (if ne then .neq else .eql) t a b:Sem Value).run P w.toWorld=.ok v w.toWorld/\aw w (.raw (.bool (ne ^^ r))) v:=by
 cases ne
 ·simp only[Bool.false_eq_true,if_false,hg,h1,Sem.run_bind,he,Sem.run_pure,Result.andThen_ok];exact⟨_,rfl,by simpa using aw.raw _⟩
 ·simp only[if_true,hg,h2,Sem.run_bind,he,Sem.run_pure,Result.andThen_ok];exact⟨_,rfl,by simpa using aw.raw _⟩
theorem FH(ne:Bool)(t:TypeId){b:AV}(x y:Operand)(ha:aw w a va)(hb:aw w b vb) :
  jV P w (do eqGuard (if ne then .neq else .eql) t x y va vb;binOp (if ne then .neq else .eql) t va vb) (wU P ne t a b):=by
 intro hq;unfold wU at*;split at hq<;>try exact hq.elim
 ·have:=dm ha;have:=dm hb;subst_vars
  have ht:=Ol hq;exact qW (fun op=>eqGuard_at_bool _ _ _ _ _ _) rfl rfl (qY (fun d=>by simp[Op.equalIn,run_underlying ht]))
 ·have:=dm ha;have:=dm hb;subst_vars
  obtain⟨e,ht⟩:=yP hq;exact qW (fun op=>eqGuard_at_pointer _ _ _ _ _ _) rfl rfl (qY (fun d=>by simp[Op.equalIn,run_underlying ht]))
 ·have:=dm ha;have:=dm hb;subst_vars
  obtain⟨e,ht⟩:=yP hq;rename_i pa;have:=qW (P:=P) (w:=w) (ne:=ne) (t:=t) (x:=x) (y:=y) (a:=.pointer (some pa)) (b:=.pointer none) (r:=false) (fun op=>eqGuard_at_pointer _ _ _ _ _ _) rfl rfl (qY (fun d=>by simp[Op.equalIn,run_underlying ht]));simpa using this
 ·have:=dm hb;subst_vars
  obtain⟨e,ht⟩:=yP hq;cases ha with|ip cs ad vs _ _ _ _=>
  have:=qW (P:=P) (w:=w) (ne:=ne) (t:=t) (x:=x) (y:=y) (a:=.pointer (some ad)) (b:=.pointer none) (r:=false) (fun op=>eqGuard_at_pointer _ _ _ _ _ _) rfl rfl (qY (fun d=>by simp[Op.equalIn,run_underlying ht]));simpa using this
 ·have:=dm hb;subst_vars
  obtain⟨e,ht⟩:=yP hq;rename_i i m k j;cases ha with|pt _ _ _ _ bb tt ss _=>
  have:=qW (P:=P) (w:=w) (ne:=ne) (t:=t) (x:=x) (y:=y) (a:=.pointer (some ⟨bb,k*ss+j,none⟩)) (b:=.pointer none) (r:=false) (fun op=>eqGuard_at_pointer _ _ _ _ _ _) rfl rfl (qY (fun d=>by simp[Op.equalIn,run_underlying ht]));simpa using this
 ·have:=dm ha;have:=dm hb;subst_vars
  obtain⟨e,ht⟩:=ql hq;exact qW (fun op=>eqGuard_at_slice _ _ _ _ _ _ _ _) rfl rfl (qY (fun d=>by simp[Op.equalIn,run_underlying ht]))
 ·have:=dm ha;have:=dm hb;subst_vars
  obtain⟨e,ht⟩:=ql hq;rename_i pa n c m d;have:=qW (P:=P) (w:=w) (ne:=ne) (t:=t) (x:=x) (y:=y) (a:=.slice (some pa) n c) (b:=.slice none m d) (r:=false) (fun op=>eqGuard_at_slice _ _ _ _ _ _ _ _) rfl rfl (qY (fun d=>by simp[Op.equalIn,run_underlying ht]));simpa using this
 ·have:=dm hb;subst_vars
  obtain⟨hq,hne⟩:=hq;obtain⟨e,ht⟩:=ql hq;rename_i css _ m d;cases ha with
  |gm=>exact(hne rfl).elim
  |sl _ _ _ a c vs _ _ _ _ _ _ _ _=> have:=qW (P:=P) (w:=w) (ne:=ne) (t:=t) (x:=x) (y:=y) (a:=.slice (some a) css.length c) (b:=.slice none m d) (r:=false) (fun op=>eqGuard_at_slice _ _ _ _ _ _ _ _) rfl rfl (qY (fun d=>by simp[Op.equalIn,run_underlying ht]));simpa using this
 ·split at hq
  ·rename_i ks hks;exact Pu hks hq.1 hq.2.1 hq.2.2 ha hb
  ·exact hq.elim
theorem D2(op:BinOp)(t:TypeId){b:AV}(x y:Operand)(ha:aw w a va)(hb:aw w b vb) :
  jV P w (do eqGuard op t x y va vb;binOp op t va vb) (fD P op t a b):=by
 unfold fD;split
 ·have:=dm ha;have:=dm hb;subst_vars;exact KY op t _ _ _ _ x y
 ·have:=dm ha;have:=dm hb;subst_vars;exact Rh op t _ _ x y
 ·split
  ·exact FH false t x y ha hb
  ·exact FH true t x y ha hb
  ·exact EH
theorem Lu(op:UnOp)(h:aw w a v):jV P w (Op.unary op v) (sk op a):=by
 intro hq;unfold sk at*;split at hq<;>try exact hq.elim
 ·have:=dm h;subst this;exact⟨_,by simp[Op.unary],.raw _⟩
 ·have:=dm h;subst this;exact⟨_,by simp[Op.unary,Op.intArith],.raw _⟩
theorem Qb(t:TypeId)(h:aw w a v)(hw:aO w H):jV P w (Instr.loadAt t v) (oO P H t a):=by
 intro hq;unfold oO at*;split at hq<;>try exact hq.elim
 ·rename_i c cs k e1 e2 e3;exact C7 h hw e1 hq.1 e2 e3 hq.2.1 hq.2.2
 ·rename_i c cs k e1 e2 e3;have:=C7 (P:=P) h hw e1 hq.1 e2 e3 hq.2.1 hq.2.2;simpa[tz]using this
theorem EM{f off:Nat}(h:cB P t f=some off):∃fs fd k,P.underlying t=some (.struct fs)/\fs[f]?=some fd/\dc P fd.type=some (k+1)/\fd.offset=off:=by
 unfold cB at h;split at h
 ·rename_i fs hu;split at h
  ·rename_i fd hf;split at h
   ·rename_i k hk;exact⟨fs,fd,k,hu,hf,hk,by simpa using h⟩
   ·cases h
  ·cases h
 ·cases h
theorem L7(t:TypeId)(f:Nat)(h:aw w a v):jV P w (Instr.fieldAt t v f) (sJ P t a f):=by
 intro hq;unfold sJ at*;split at hq<;>try exact hq.elim
 ·rename_i cs off e;obtain⟨fs,fd,k,hu,hf,hk,rfl⟩:=EM e;cases h with|ip _ ad vs hb hH hcell hr=>
  refine⟨.pointer (some (ad.add fd.offset)),?_,.ip _ _ (fun j=>vs (fd.offset+j)) (by rw[pA];exact hb) (by rw[pA];exact hH) (fun j hj=>?_) (fun j u hu=>?_)⟩
  ·simp[Instr.fieldAt,run_underlying hu,hf,Instr.sureAddr,fieldPlace,lT hk]
  ·rw[wh];exact hcell _ (by simp at hj;omega)
  ·rw[List.getElem?_drop]at hu;exact hr _ _ hu
 ·rename_i i m q j off e;obtain⟨fs,fd,k,hu,hf,hk,rfl⟩:=EM e;cases h with|pt _ _ _ _ b t s hn=>
  refine⟨.pointer (some ⟨b,q*s+j+fd.offset,none⟩),?_,?_⟩
  ·simp[Instr.fieldAt,run_underlying hu,hf,Instr.sureAddr,fieldPlace,lT hk,lM]
  ·rw[Nat.add_assoc];exact .pt i m q (j+fd.offset) b t s hn
theorem Qq{ft:TypeId}{f off:Nat}(h:wJ P t f=some (ft,off)):∃fs fd,P.underlying t=some (.struct fs)/\fs[f]?=some fd/\fd.type=ft/\fd.offset=off:=by
 unfold wJ at h;split at h
 ·rename_i fs hu;simp only[Option.map_eq_some_iff,Prod.mk.injEq]at h;obtain⟨fd,hf,h1,h2⟩:=h;exact⟨fs,fd,hu,hf,h1,h2⟩
 ·cases h
theorem Qy(t:TypeId){cs:List AV}{vs:Array Value}(hl:cs.length=vs.size)(hr:∀(i:Nat) a v,cs[i]?=some a->vs[i]?=some v->aw w a v)(off:Nat):jV P w (part t vs off) (yC P t cs off):=by
 intro hq;unfold yC at*;split at hq<;>try exact hq.elim
 ·rename_i k e1 e2;simp only at hq;refine⟨.agg (vs.extract off (off+k)),by simp[part,wc e1,lT e2],.agg _ _ jF fun i a v ha hv=>?_⟩;rw[List.getElem?_take]at ha;split at ha
  ·rw[List.getElem?_drop]at ha;refine hr _ a v ha ?_;rw[Array.getElem?_extract]at hv;split at hv<;>simp_all
  ·cases ha
 ·rename_i k e1 e2;simp only at hq;have h1:vs[off]?=some (vs[off]' jB):=Array.getElem?_eq_getElem jB;refine⟨vs[off]' jB,by simp[part,wc e1,h1],hr off _ _ ?_ h1⟩;simp[List.getElem?_eq_getElem hq]
theorem J8(t:TypeId)(f:Nat)(h:aw w a v):jV P w (Instr.field t v f) (vA P t a f):=by
 unfold vA;split
 ·rename_i cs ft off e;obtain⟨fs,fd,hu,hf,rfl,rfl⟩:=Qq e;cases h with|agg _ vs hl hr=> intro hq;obtain⟨v,h1,h2⟩:=Qy (P:=P) fd.type hl hr fd.offset hq;exact⟨v,by simpa[Instr.field,run_underlying hu,hf,asAgg]using h1,h2⟩
 ·exact EH
theorem qK{k:Nat}(h:jj P t=some k):∃e,P.underlying t=some (.slice e)/\dc P e=some k:=by
 unfold jj iH at h;split at h
 ·rename_i e hu;exact⟨e,hu,by simpa using h⟩
 ·cases h
theorem Iz{n k:Nat}(h:zz P t=some (n,k)):∃e,P.underlying t=some (.array n e)/\dc P e=some k:=by
 unfold zz at h;split at h
 ·rename_i len e hu;simp only[Option.map_eq_some_iff,Prod.mk.injEq]at h;obtain⟨s,h1,rfl,rfl⟩:=h;exact⟨e,hu,h1⟩
 ·cases h
theorem Ki(t:TypeId){i:AV}{vi:Value}(ha:aw w a va)(hi:aw w i vi):jV P w (Instr.indexAt t va vi) (rT P t a i):=by
 intro hq;unfold rT at*;split at hq<;>try exact hq.elim
 ·rename_i x sz css d k j;have:=dm hi;subst this;obtain⟨e,hu,hs⟩:=qK hq.1;have h0:=hq.2.1;have h1:=hq.2.2;cases ha with
  |gm=>simp at h1;omega
  |sl _ _ _ ad c vs hn hc hx hsz hb hH hcell hr=>
   have hln:=vf hsz (show j.toNat<css.length from jB);have hd:css.getD j.toNat d=css.getD j.toNat []:=by simp[show j.toNat<css.length from jB]
   rw[hd];refine⟨.pointer (some (ad.add (j.toNat*sz))),?_,.ip _ _ (fun m=>vs (j.toNat*sz+m)) (by rw[pA];exact hb) (by rw[pA];exact hH) (fun m hm=>?_) (fun m u hu=>?_)⟩
   ·simp[Instr.indexAt,asIntOf,run_underlying hu,h0,h1,lT hs]
   ·rw[wh];exact hcell _ m jB jB
   ·exact hr _ m u jB hu
 ·rename_i d m sz n k j;have:=dm hi;subst this;obtain⟨e,hu,hs⟩:=qK hq.1;have h0:=hq.2.1;have h1:=hq.2.2;cases ha with
  |iO=>simp at h1;omega
  |rs _ _ _ _ b t c hn hc hle hs0=> refine⟨.pointer (some ⟨b,j.toNat*sz,none⟩),?_,.pt d m j.toNat 0 b t sz hn⟩;simp[Instr.indexAt,asIntOf,run_underlying hu,h0,h1,lT hs,lM]
 ·rename_i d m sz o n k j;have:=dm hi;subst this;obtain⟨e,hu,hs⟩:=qK hq.1;have h0:=hq.2.1;have h1:=hq.2.2;cases ha with
  |lu=>simp at h1;omega
  |rv _ _ _ _ _ b t c hn hle=> refine⟨.pointer (some ⟨b,(o+j.toNat)*sz,none⟩),?_,.pt d m (o+j.toNat) 0 b t sz hn⟩;simp[Instr.indexAt,asIntOf,run_underlying hu,h0,h1,lT hs,lM,Nat.add_mul]
 ·rename_i d m k j kk i;have:=dm hi;subst this;unfold yt at*;split at hq
  ·rename_i len s e;obtain⟨el,hu,hs⟩:=Iz e;cases ha with
   |pt _ _ _ _ b t sz hn=> refine⟨.pointer (some ⟨b,k*sz+(j+i.toNat*s),none⟩),?_,.pt d m k _ b t sz hn⟩;simp[Instr.indexAt,asIntOf,run_underlying hu,hq.1,hq.2,lT hs,lM,Instr.sureAddr,Nat.add_assoc]
  ·exact hq.elim
 ·rename_i cs kk i;have:=dm hi;subst this;unfold yt at*;split at hq
  ·rename_i len s e;obtain⟨el,hu,hs⟩:=Iz e;cases ha with
   |ip _ ad vs hb hH hcell hr=>
    refine⟨.pointer (some (ad.add (i.toNat*s))),?_,.ip _ _ (fun m=>vs (i.toNat*s+m)) (by rw[pA];exact hb) (by rw[pA];exact hH) (fun m hm=>?_) (fun m u hu=>?_)⟩
    ·simp[Instr.indexAt,asIntOf,run_underlying hu,hq.1,hq.2,lT hs,Instr.sureAddr]
    ·rw[wh];exact hcell _ (by simp at hm;omega)
    ·exact hr _ u (by rwa [List.getElem?_drop]at hu)
  ·exact hq.elim
theorem M9(t:TypeId){i:AV}{vi:Value}(ha:aw w a va)(hi:aw w i vi):jV P w (Instr.index t va vi) (rX P t a i):=by
 intro hq;unfold rX at*;split at hq<;>try exact hq.elim
 rename_i s k j;have:=dm hi;have:=dm ha;subst_vars
 have ht:=xM hq.1;have h0:=hq.2.1;have h1:j.toNat<s.size:=by have:=hq.2.2;omega
 refine⟨.int .u8 (eL s j),?_,.raw _⟩;have h2:s[j.toNat]?=some s[j.toNat]:=by simp[h1]
 have h3:eL s j=(s[j.toNat].toNat:Int):=by have h4:s.data[j.toNat]?=some s[j.toNat]:=Array.getElem?_eq_getElem h1;simp only[eL,h4,Option.getD_some]
 simp[Instr.index,asIntOf,run_underlying ht,h0,h2,h3]
theorem Ms(h:aw w a v)(i:Nat):jV P w (Instr.extract v i) (u7 a i):=by
 intro hq;unfold u7 at*;split at hq<;>try exact hq.elim
 rename_i cs;cases h with|bj _ vs hl hr=>
 simp only at hq;have h1:vs[i]?=some (vs[i]' jB):=Array.getElem?_eq_getElem jB;refine⟨vs[i]' jB,by simp[Instr.extract,h1],hr i _ _ ?_ h1⟩;simp[List.getElem?_eq_getElem hq]
theorem Mx(fn:Fn){a b:List AV}{va vb:List Value}(ha:cf w a va)(hb:cf w b vb):jV P w (Instr.makeFunc fn va.toArray vb.toArray) (vm fn a b):=by
 intro hq;unfold vm at*;split at hq<;>try exact hq.elim
 ·rename_i f;have:va=[]:=by have:=ha.1;simpa using this.symm
  subst this;exact⟨.func (.func f) #[] vb.toArray,by simp[Instr.makeFunc],.fQ f _ _ (by rw[hb.1];simp) (fun i a v h1 h2=>hb.2 i a v h1 (by simpa using h2))⟩
 ·rename_i f x l;have hq:b=[]:=hq;subst hq;have:vb=[]:=by have:=hb.1;simpa using this.symm
  subst this;exact⟨.func (.func f) va.toArray #[],by simp[Instr.makeFunc],.bd f _ _ (by rw[ha.1];simp) (fun i a v h1 h2=>ha.2 i a v h1 (by simpa using h2))⟩
theorem Jh(t:TypeId)(h:aw w a v):jV P w (Instr.makeInterface t v) (yJ P t a):=by
 intro hq;unfold yJ at*;split at hq<;>try exact hq.elim
 ·rename_i u d e1 e2;have:=dm h;subst this;refine⟨.iface t v,?_,.raw _⟩;simp only[Instr.makeInterface,Sem.run_bind,run_underlying e2,Result.andThen_ok];cases d<;>first|rfl|(simp[zS,e2]at e1)
 ·rename_i d _ e1 hu;refine⟨.iface t v,?_,.kH t _ v h⟩;simp only[Instr.makeInterface,Sem.run_bind,run_underlying hu,Result.andThen_ok];cases d<;>first|rfl|(simp[zS,hu]at e1)
theorem IU(h:AB P t=true):∃k e,P.underlying t=some (.map k e):=by
 unfold AB at h;split at h
 ·exact⟨_,_,by assumption⟩
 ·cases h
theorem HS:∀(n:Nat) (ks vs:List Value),(iM n ks vs).length=min ks.length vs.length
 |n,[],vs=>by simp[iM]
 |n,k::ks,[]=>by simp[iM]
 |n,k::ks,v::vs=>by simp[iM,HS (n+1) ks vs]
theorem KL(ty t:TypeId)(ts:List TypeId)(vs:List Value)(hw:aO w H)(h:aw w a v):jV P w (Builtin.len_ (t::ts).toArray ty (v::vs).toArray) (tN P H t a):=by
 intro hq;unfold tN at*;split at hq<;>try exact hq.elim
 ·split at hq<;>try exact hq.elim
  rename_i hm;rw[if_pos hm];split at hq<;>try exact hq.elim
  rename_i ks vs hi;obtain⟨k,e,ht⟩:=IU hq;cases h with
  |mr _ b t' s hn=>
   obtain⟨hok,z,hz,hrow⟩:=hw.rows _ _ hi;have:z=.at b t' s:=by have hz:w.nm _ 0=some z:=hz;rw[hn]at hz;cases hz;rfl
   subst this;obtain⟨_,cur,hh,hfit,_⟩:=hrow;have hh:w.heap[b]?=some (.map (iM 0 ks cur.toList).toArray ks.length):=hh;have hfit:cur.size=vs.length:=hfit;have hok:ks.length=vs.length:=hok;refine⟨_,?_,.raw _⟩;simp[Builtin.len_,run_underlying ht,MapKept.run_getObj_map hh,goInt,HS,hok,hfit]
 ·obtain⟨e,ht⟩:=ql hq;cases h<;>exact⟨_,by simp[Builtin.len_,run_underlying ht,goInt];try rfl,.raw _⟩
 ·obtain⟨e,ht⟩:=ql hq;cases h<;>exact⟨_,by simp[Builtin.len_,run_underlying ht,goInt];try rfl,.raw _⟩
 ·obtain⟨e,ht⟩:=ql hq;cases h<;>exact⟨_,by simp[Builtin.len_,run_underlying ht,goInt];try rfl,.raw _⟩
 ·obtain⟨e,ht⟩:=ql hq;have:=dm h;subst this;exact⟨_,by simp[Builtin.len_,run_underlying ht,goInt],.raw _⟩
 ·have ht:=xM hq;have:=dm h;subst this;exact⟨_,by simp[Builtin.len_,run_underlying ht,goInt],.raw _⟩
theorem L3(ty t:TypeId)(ts:List TypeId)(vs:List Value)(h:aw w a v):jV P w (Builtin.cap_ (t::ts).toArray ty (v::vs).toArray) (yW P t a):=by
 intro hq;unfold yW at*;split at hq<;>try exact hq.elim
 ·obtain⟨e,ht⟩:=ql hq;cases h with
  |gm _ _ _ c hx=>have:=hx rfl;subst this;exact⟨_,by simp[Builtin.cap_,run_underlying ht,goInt],.raw _⟩
  |sl _ _ _ _ c _ _ _ hx=>have:=(hx rfl).1;subst this;exact⟨_,by simp[Builtin.cap_,run_underlying ht,goInt],.raw _⟩
 ·obtain⟨e,ht⟩:=ql hq;have:=dm h;subst this;exact⟨_,by simp[Builtin.cap_,run_underlying ht,goInt],.raw _⟩
end
end Go.Gd
