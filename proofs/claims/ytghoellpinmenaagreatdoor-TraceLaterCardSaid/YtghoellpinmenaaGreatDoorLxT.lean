/- Lemmas. No conditions. -/
import Derived.Test.YtghoellpinmenaaGreatDoorGdY
import Derived.ProofKit
import Derived.Deep.Slices
import Derived.Carry
import Derived.Laws.MakeOwn
import Derived.OpenShut
import Derived.MapKept
import Derived.Test.YtghoellpinmenaaGreatDoorProg
import Derived.KernelRfl
set_option linter.all false
set_option maxRecDepth 10000
namespace Go.Gd
open Go Go.ChangeShapes Go.WideShapes Go.ChangeAt Go.RowKit Go.Deep
@[reducible] def n0(w:World):NW:={ toWorld:=w,O:=fun _=>False,nm:=fun _ _=>none }
def kN(P:P6)(t:P1)(S:PW->Prop):Prop:=
 ∀(T:Type) (enc:P1×Value->T) (w:World) (fuel:Nat) (cs:P4) (x:DataW T×List MemPlace),
  DataW.trod enc P w 0 (fun _=>true) true fuel t cs=some x->∃us,S us/\bT (n0 w) us cs
section
variable {P:P6}{t:P1}
def kN.mono{S S':PW->Prop}(h:kN P t S)(hs:∀us,S us->S' us):kN P t S':=fun T enc w fuel cs x hx=>by obtain⟨us,h1,h2⟩:=h T enc w fuel cs x hx;exact⟨us,hs us h1,h2⟩
def pC{w:NW}{a:AV}{v:Value}(h:az w a v):bT w [a] [v]:=⟨rfl,fun i b u hb hu=>by
 cases i with
 |zero=>simp at hb hu;subst hb hu;exact h
 |succ i=>simp at hb⟩
def oo{w:NW}{a:AV}{v:Value}{us:PW}{vs:P4}(h:az w a v)(hs:bT w us vs):bT w (a::us) (v::vs):=⟨by simp[hs.1],fun i b u hb hu=>by
 cases i with
 |zero=>simp at hb hu;subst hb hu;exact h
 |succ i=>exact hs.2 i b u (by simpa using hb) (by simpa using hu)⟩
def xG{k:IntKind}(ht:P.underlying t=some (.int k)):kN P t (fun us=>∃n:Int,(Lit.int k n).wf=true/\us=[.raw (.int k n)]):=fun T enc w fuel cs x hx=>by obtain⟨n,rfl,_,Yn⟩:=DataW.trod_int ht hx;exact⟨_,⟨n,Yn,rfl⟩,pC (.raw _)⟩
def Hb(ht:P.underlying t=some .string):kN P t (fun us=>∃s:P0,us=[.raw (.string s)]):=fun T enc w fuel cs x hx=>by obtain⟨n,rfl,_,Yn⟩:=DataW.trod_string ht hx;exact⟨_,⟨n,rfl⟩,pC (.raw _)⟩
def BA:List (PW->Prop)->PW->Prop
 |[],us=>us=[]
 |S::Ss,us=>∃a b,S a/\BA Ss b/\us=a++b
def yL(P:P6):List Field->List (PW->Prop)->Prop
 |[],[]=>True
 |f::l,S::Ss=>kN P f.type S/\yL P l Ss
 |_,_=>False
def uz(P:P6):List Field->Nat->P5
 |[],o,n=>o == n
 |f::l,o,n=>f.offset == o && uz P l (o+P.cellsOf f.type) n
def KM{w:NW}{us vs:PW}{cs:P4}{o n:Nat}(h1:bT w us ((cs.drop o).take n))(h2:bT w vs (cs.drop (o+n)))(hn:o+n<=cs.length):bT w (us++vs) (cs.drop o):=by
 have l1:us.length=n:=by rw[h1.1,List.length_take,List.length_drop];omega
 refine⟨by rw[List.length_append,l1,h2.1,List.length_drop,List.length_drop];omega,fun i a v ha hv=>?_⟩;by_cases hi:i<n
 ·rw[List.getElem?_append_left jB]at ha;exact h1.2 i a v ha (by rw[List.getElem?_take,if_pos hi];exact hv)
 ·rw[List.getElem?_append_right jB,l1]at ha;refine h2.2 (i-n) a v ha ?_;rw[List.getElem?_drop]at hv ⊢;rw[show o+n+(i-n)=o+i from jB];exact hv
theorem Fk{T:Type}{enc:P1×Value->T}{w:World}{m:Nat}{cs:P4}:∀(l:List Field) (Ss:List (PW->Prop)) (o:Nat),yL P l Ss->uz P l o cs.length=true->
  (∀f∈l,∃y,DataW.trod enc P w 0 (fun _=>true) true m f.type ((cs.drop f.offset).take (P.cellsOf f.type))=some y)->∃us,BA Ss us/\bT (n0 w) us (cs.drop o)/\o<=cs.length
 |[],[],o,_,ho,_=>by simp only[uz,beq_iff_eq]at ho;subst ho;exact⟨[],rfl,by rw[List.drop_length];exact⟨rfl,fun i a v ha=>by simp at ha⟩,Nat.le_refl _⟩
 |f::l,S::Ss,o,hd,ho,hf=>by
  simp only[uz,Bool.and_eq_true,beq_iff_eq]at ho;obtain⟨y,hy⟩:=hf f jE;rw[ho.1]at hy;obtain⟨a,ha,UL⟩:=hd.1 T enc w m _ y hy;obtain⟨b,hb,YZ,P'⟩:=Fk l Ss _ hd.2 ho.2 fun g hg=>hf g (by simp[hg])
  exact⟨a++b,⟨a,b,ha,hb,rfl⟩,KM UL YZ P',jB⟩
 |[],_::_,_,hd,_,_=>hd.elim
 |_::_,[],_,hd,_,_=>hd.elim
variable{fs:Array Field}
def yR{Ss:List (PW->Prop)}(ht:P.underlying t=some (.struct fs))(ho:uz P fs.toList 0 (P.cellsOf t)=true)(hd:yL P fs.toList Ss):kN P t (BA Ss):=fun T enc w fuel cs x hx=>by
 obtain⟨xs,n,rfl,rfl,hl,hn,hf⟩:=DataW.trod_struct ht hx;obtain⟨us,h1,h2,_⟩:=Fk (T:=T) (enc:=enc) (w:=w) (m:=n) (cs:=cs) fs.toList Ss 0 hd (by rw[hl];exact ho) fun f Um=>by obtain⟨i,hi,e⟩:=List.getElem_of_mem Um;have:=hf i f (by rw[<-Array.getElem?_toList,List.getElem?_eq_getElem hi,e]);rw[List.getElem?_eq_getElem (by rw[hn];simpa using hi)]at this;exact⟨_,this⟩
 exact⟨us,h1,by simpa using h2⟩
def GL{e:P1}{α:Type}[Inhabited α]{ok:α->Prop}{encA:α->PW}{sz:Nat}(ht:P.underlying t=some (.slice e))(hc:P.cellsOf e=sz)(Qh:0<sz)(he:kN P e (fun us=>∃a,ok a/\us=encA a))(hl:∀a,(encA a).length=sz) :
  kN P t (fun us=>∃l:List α,((∀a∈l,ok a)/\l.length<=9223372036854775807)/\us=[ax encA sz l]):=fun T enc w fuel cs x hx=>by
 rcases open_slice ht hx with⟨rfl,_⟩|⟨a,len,cap,m,n,D,Pl,rfl,_,Xm,TV,hm,_,hr⟩
 ·exact⟨_,⟨[],⟨jE,jE⟩,rfl⟩,pC (.gF _ _ _ _ jE)⟩
 ·simp only[if_true]at hm;obtain rfl:cap=m:=hm.symm;have Qo:∀i,i<len->∃g:α,ok g/\∃cs',w.cells? 0 (a.add (i*sz)) sz=some cs'/\bT (n0 w) (encA g) cs':=fun i hi=>by
   obtain⟨cs',h1,h2⟩:=hr i jB;rw[hc]at h1;obtain⟨us,⟨g,hok,rfl⟩,Qk⟩:=he T enc w n cs' _ h2;exact⟨g,hok,cs',h1,Qk⟩
  obtain⟨g,hg⟩:∃g:Nat->α,∀i,i<len->ok (g i)/\∃cs',w.cells? 0 (a.add (i*sz)) sz=some cs'/\bT (n0 w) (encA (g i)) cs':=by
   classical
   exact⟨fun i=>if h:i<len then(Qo i h).choose else default,fun i hi=>by simp only[dif_pos hi];exact(Qo i hi).choose_spec⟩
  have SB:((List.range len).map g).length=len:=jE;refine⟨_,⟨(List.range len).map g,⟨fun y hy=>?_,by rw[SB];have:cap<=9223372036854775807:=TV;omega⟩,rfl⟩,pC ?_⟩
  ·obtain⟨i,hi,rfl⟩:=List.mem_map.1 hy;exact(hg i (by simpa using hi)).1
  ·have Qi:(((List.range len).map g).map encA).length=len:=jE;have hn:∀i,i<len->(((List.range len).map g).map encA).getD i []=encA (g i):=fun i hi=>by simp[List.getD_eq_getElem?_getD,hi]
   by_cases h0:len=0
   ·subst h0;exact .gF _ _ _ _ jE
   ·have I':∀i j,i<len->j<sz->∃v,w.cell? (a.add (i*sz+j))=some v/\∀u,(encA (g i))[j]?=some u->az (n0 w) u v:=fun i j hi hj=>by
     obtain⟨_,cs',h1,h2⟩:=hg i hi;obtain⟨_,g',QF⟩:=World.cells?_some h1;have hv:cs'[j]?=some cs'[j]:=List.getElem?_eq_getElem jB;refine⟨cs'[j],?_,fun u hu=>h2.2 j u _ hu hv⟩;rw[<-uB,QF j hj,hv]
    have:=az.sl (w:=n0 w) (d:=encA default) false sz (((List.range len).map g).map encA) a cap (fun k=>(w.cell? (a.add k)).getD undef) jB jB jE (fun cs Ru=>by
     obtain⟨y,_,rfl⟩:=List.mem_map.1 Ru;exact hl y) (by
     obtain⟨_,cs',h1,_⟩:=hg 0 jB;have:=World.cells?_block h1 Qh;rwa [nH]at this) (fun h=>h) (fun i j hi hj=>by
     obtain⟨v,hv,_⟩:=I' i j jB hj;rw[hv];rfl) (fun i j u hi hu=>by
     rw[hn i jB]at hu;have hj:j<sz:=by rw[<-hl (g i)];exact(List.getElem?_eq_some_iff.1 hu).1
     obtain⟨v,hv,Qk⟩:=I' i j jB hj;rw[hv];exact Qk u hu)
    rw[Qi]at this;exact this
-- arguments
variable {T:Type}{enc:P1×Value->T}{w:World}{v:Value}{d:DataW T}{ps:List MemPlace}{base:Nat}
def Oj{S:PW->Prop}(ht:P.underlying t=some (.struct fs))(hd:kN P t S)(hv:Value.okWide P w .any base t v)(h:DataW.Trod enc P w 0 (fun _=>true) true t v d ps):∃us,S us/\az (n0 w) (.agg us) v:=by unfold Value.okWide at hv;rw[ht]at hv;obtain⟨cs,rfl,_,_⟩:=hv;obtain⟨fuel,hf⟩:=h;obtain⟨us,hs,hr⟩:=hd T enc w fuel _ _ hf;exact⟨us,hs,.agg us cs (by rw[hr.1];rfl) fun i a u ha hu=>hr.2 i a u ha (by show cs.toList[i]?=_;rw[Array.getElem?_toList];exact hu)⟩
def I7{S:AV->Prop}(hd:kN P t (fun us=>∃a,S a/\us=[a]))(hv:v.cells.toList=[v])(h:DataW.Trod enc P w 0 (fun _=>true) true t v d ps):∃a,S a/\az (n0 w) a v:=by obtain⟨fuel,hf⟩:=h;rw[hv]at hf;obtain⟨us,⟨a,hs,rfl⟩,hr⟩:=hd T enc w fuel _ _ hf;exact⟨a,hs,hr.2 0 a v rfl rfl⟩
end
section
variable {P:P6}{T:Type}{enc:P1×Value->T}
theorem C4(hl:laidOutB P=true){W W':World}(hb:Below W.heap.size W W'):∀(ts:List P1) (vs:P4) (ds:List (DataW T)) (ps:List MemPlace),(∀t∈ts,P.readableRec t=true/\t<P.types.size)->
  DataW.TrodAll enc P W 0 (fun _=>true) true ts vs ds ps->(∀x∈ps,x.block<W.heap.size)->DataW.TrodAll enc P W' 0 (fun b=>decide (b<W.heap.size)) true ts vs ds ps
 |[],[],[],ps,_,h,_=>h
 |t::ts,v::vs,d::ds,ps,hr,h,Qd=>by obtain⟨p,q,h1,h2,rfl⟩:=h;exact⟨p,q,Below.trod hl (hr t jE).1 (hr t jE).2 h1 hb fun x hx=>Qd x (by simp[hx]),C4 hl hb ts vs ds q (fun t ht=>hr t (by simp[ht])) h2 fun x hx=>Qd x (by simp[hx]),rfl⟩
 |[],_::_,_,_,_,h,_=>h.elim
 |[],[],_::_,_,_,h,_=>h.elim
 |_::_,[],_,_,_,h,_=>h.elim
 |_::_,_::_,[],_,_,h,_=>h.elim
def ux{fn:Func}{s:ChangeSpec}{apart fresh handsOn:Bool}{W W':World}{args:P3}{ds:List (DataW T)}{before:List MemPlace}{tb:P1}(hW:DataW.Whole enc P fn.params.toList s.vars apart W args.toList ds [] before)
  (hx:Below W.heap.size W W') (hl:laidOutB P=true) (hr:∀t∈fn.params.toList,P.readableRec t=true/\t<P.types.size) (Y0:fn.resultTypes=#[tb]) (hb:P.underlying tb=some .bool) (hv:s.vars=[])
  (e1:(s.fn T (ds++[])).results=[.lit (.bool true)]) (e2:(s.fn T (ds++[])).args=ds) (e3:(s.fn T (ds++[])).vars=[]):s.post enc P fn apart fresh handsOn false W args (.bool true) W':=by
 have TH:=hW;obtain⟨p,q,hA,hV,rfl,V',Uv⟩:=hW;rw[hv]at hV;have hq:q=[]:=hV;subst hq;refine⟨ds,[],_,[],p,[],TH,?_,?_,?_,hx.frame _,fun h=>by cases h⟩
 ·rw[Y0,e1];exact trodAll_mk1 (shut_bool hb true)
 ·rw[e2];exact C4 hl hx _ _ _ _ hr hA fun x Qg=>by simpa using TH.lt x (by simpa using Qg)
 ·rw[hv,e3];exact rfl
def Mo(W:World)(hg:j8 (n0 W)):aN (n0 W) (entry []):={
 ci:=hg
 rows:=fun i r h=>(by cases h)
 dS:=fun i m z h=>(by cases h)
 inj:=fun i m j n b t s t' s' h _=>(by cases h)
 own:=fun i m b t s h=>(by cases h)
 fin:=fun b h=>h.elim }
def uI{f:FuncId}{avs:PW}{args:P3}{W:World}(hg:j8 (n0 W))(h:aA P f avs (.raw (.bool true)))(ha:bT (n0 W) avs args.toList):Calls P f args W fun e W'=>e=.returned (.bool true)/\Below W.heap.size W W':=by refine(h (n0 W) args (Mo W hg) ⟨by rw[ha.1];simp,fun i a v h1 h2=>ha.2 i a v h1 (by rw[Array.getElem?_toList];exact h2)⟩).mono ?_;rintro e w' ⟨v,r,H',w2,rfl,rfl,⟨rfl,_⟩,_,g2,g3⟩;have:=di g2;subst this;exact⟨rfl,⟨g3.os,g3.tape,g3.output,g3.size,fun k hk=>(g3.free k hk (fun h=>h)).1⟩⟩
end
section
variable {P:P6}{f:FuncId}{args cs:PW}{H:Hp}{K:PT}{q:Prop}
def cl{l l0:PV}{r0:AV}(hc:af P f (args++cs) l fun r l'=>r=r0/\l'=l0)(k:q)(h1:fits l H:=by exact dj)(h0:aQ P f=true:=by exact dj)(h2:aU (fun i=>(ids l).contains i) (args++cs)=true:=by exact dj)(h3:pO (fun i=>(ids l).contains i) l:=by exact dj)
 (h4:fresh (ids l) H l0:=by exact dj) (h5:(ids l0).Nodup:=by exact dj) (e:K r0 ⟨H.B,jm H.l l0⟩=q:=by exact ey):dp P (.dW f cs) args H K:=C7 h0 (tN hc h1 h2 h3 h4 h5 (e ▸ k))
def cq{R:AV->Prop}{r0:AV}(hc:aA P f args r0)(k:q)(h0:aQ P f=true:=by exact dj)(h2:aU cV args=true:=by exact dj)(e:R r0=q:=by exact ey) :
  ∃r,(dp P (.raw (.func (.func f) #[] #[])) args H fun r' H'=>r'=r/\H'=H)/\R r:=⟨r0,ko h0 (ue hc h2 ⟨rfl,rfl⟩),e ▸ k⟩
end
def Sub(a' a:AV):Prop:=∀(w:NW) v,az w a' v->az w a v
def nF:PW->PW->Prop
 |[],[]=>True
 |a::l,b::m=>Sub a b/\nF l m
 |_,_=>False
def Sub.refl(a:AV):Sub a a:=fun _ _ h=>h
def Sub.nil(sz:Nat)(d:PW):Sub (.raw (.slice none 0 0)) (.sl false sz [] d):=fun w v h=>by have:=di h;subst this;exact .gF _ _ _ _ jE
def Sub.lit(sz:Nat)(css:PU)(d d':PW):Sub (.sl true sz css d) (.sl false sz css d'):=fun w v h=>by
 cases h with
 |gF _ _ A c _=>exact .gF _ _ _ _ jE
 |sl _ _ _ a c vs hn hc hx Qh hb hH I' h=>exact .sl false sz css a c vs hn hc jE Qh hb hH I' h
theorem nF.get:∀{l m:PW},nF l m->l.length=m.length/\∀(i:Nat) a b,l[i]?=some a->m[i]?=some b->Sub a b
 |[],[],_=>⟨rfl,fun i a b h=>by simp at h⟩
 |x::l,y::m,h=>by
  have ih:=nF.get h.2;refine⟨by simp[ih.1],fun i a b ha hb=>?_⟩;cases i with
  |zero=>simp at ha hb;subst ha hb;exact h.1
  |succ i=>exact ih.2 i a b (by simpa using ha) (by simpa using hb)
 |[],_::_,h=>h.elim
 |_::_,[],h=>h.elim
def xL{P:P6}{f:FuncId}{args args':PW}{r:AV}(hc:aA P f args r)(h:nF args' args):aA P f args' r:=fun w vs h1 h2=>hc w vs h1 ⟨h.get.1.symm.trans h2.1,fun i a v ha hv=>by
 have hi:i<args'.length:=by rw[h.get.1];exact(List.getElem?_eq_some_iff.1 ha).1
 exact h.get.2 i args'[i] a (List.getElem?_eq_getElem hi) ha w v (h2.2 i _ v (List.getElem?_eq_getElem hi) hv)⟩
end Go.Gd
namespace Go.Gd
open Go
variable{ty:P1}{K:PT}
@[go_sem] def Jd{P:P6}{ev:P2}{H:Hp}(t:P1)(l c:Operand):vc P ev H ty K (.makeSlice t l c)=gp P (.makeSlice t l c) ty ev H K:=by simp[vc,cP]
variable{zs:P4}{n sz:Nat}
def Ku{w:NW}{z:P3}(hz:z.toList=zs)(hl:zs.length=sz)(h0:0<sz)(k:Nat)(a:AV)(v:Value)(ha:(List.replicate n (zs.map AV.raw)).flatten[k]?=some a)(hv:(madeCells z (n*sz))[k]?=some v):az w a v:=by
 have VF:z.size=sz:=by rw[<-hl,<-hz];simp
 have hk:k<n*sz:=by have:=(Array.getElem?_eq_some_iff.1 hv).1;rwa [size_madeCells]at this
 obtain⟨i,j,hi,hj,rfl⟩:=sK hk;have Ru:∀cs∈List.replicate n (zs.map AV.raw),cs.length=sz:=fun cs Ru=>by rw[(List.mem_replicate.1 Ru).2];simpa using hl
 have hg:=ow Ru (i:=i) (j:=j) (by simpa using hi) hj;rw[hg]at ha;have:(List.replicate n (zs.map AV.raw)).getD i []=zs.map AV.raw:=by simp[List.getD_eq_getElem?_getD,hi]
 rw[this]at ha;simp only[List.getElem?_map,Option.map_eq_some_iff]at ha;obtain⟨x,hx,rfl⟩:=ha;have e:(i*sz+j) % sz=j:=by rw[Nat.add_comm,Nat.add_mul_mod_self_right];exact Nat.mod_eq_of_lt hj
 have:v=x:=by
  have Uw:(madeCells z (n*sz))[i*sz+j]?=some (z[(i*sz+j) % z.size]!):=by simp[madeCells,hk]
  rw[Uw]at hv;have hv:=Option.some.inj hv;rw[<-hv,VF,e];have Yo:j<z.size:=jB;rw[getElem!_pos z j Yo];have Qg:z.toList[j]?=some x:=by rw[hz];exact hx
  rw[Array.getElem?_toList]at Qg;exact Option.some.inj ((Array.getElem?_eq_getElem Yo).symm.trans Qg)
 subst this;exact .raw _
variable{q:Prop}{t:P1}
def A3{P:P6}{ev:P2}{H:Hp}(i:Nat){et:P1}{l c:Operand}(k:q)(hl:ev l=.raw (.int .i64 (n:Int)):=by rfl)(hc:ev c=.raw (.int .i64 (n:Int)):=by rfl)(ht:gk P t=some et:=by(simp only[go_sem];rfl))(hs:cW P et=some sz:=by(simp only[go_sem];rfl))(hz:dU P et=some zs:=by(simp only[go_sem];rfl))(SR:zs.length=sz:=by rfl)(h0:0<sz:=by decide)(hr:room (im P et) n:=by(simp only[go_sem];omega))(hi:H.get i=none:=by rfl)
  (e:K (.rs i n sz n) (H.put i (.aG et sz (List.replicate n (zs.map .raw))))=q:=by exact ey):gp P (.makeSlice t l c) ty ev H K:=fun w ρ dst pos after guard hw hρ=>by
 have h1:=hρ l (by simp[Op.operands]);have h2:=hρ c (by simp[Op.operands]);rw[hl]at h1;rw[hc]at h2;have e1:=di h1;have e2:=di h2;have hu:P.underlying t=some (.slice et):=zt ht;unfold cW at hs;cases hf:P.info? et with
 |none=>rw[hf]at hs;cases hs
 |some inf=>
  rw[hf]at hs;have Qh:inf.size=sz:=by simpa using hs
  have Rq:=hz;unfold dU at Rq;rw[hf]at Rq;simp only[Option.bind_some,Option.map_eq_some_iff]at Rq;obtain⟨z,Y1,Xu⟩:=Rq;have WS:im P et=inf.bytes:=by unfold im;rw[hf];rfl
  obtain⟨r1,r2⟩:=hr;rw[WS]at r1;have C':=run_make (P:=P) w.toWorld t et inf z hu hf Y1 .i64 .i64 (n:Int) (n:Int) jB jB (by have h:((n*inf.bytes:Nat):Int)<=140737488355328:=jB;rw[Int.natCast_mul,Int.mul_comm]at h;omega) jB
  simp only[Int.toNat_natCast]at C';rw[Qh]at C';have Ru:∀cs∈List.replicate n (zs.map AV.raw),cs.length=sz:=fun cs Ru=>by rw[(List.mem_replicate.1 Ru).2];simpa using SR
  have RN:=j6 Ru;simp only[List.length_replicate]at RN;obtain⟨q1,q2⟩:=sW (row:=.aG et sz (List.replicate n (zs.map AV.raw))) hw (hw.none hi _) (fun r' hr=>by rw[hi]at hr;cases hr) ⟨h0,Ru⟩ (madeCells z.cells (n*sz)) ⟨rfl,by show(List.replicate n (zs.map AV.raw)).flatten.length<=_;rw[RN,size_madeCells];exact Nat.le_refl _⟩ (fun k a v ha hv=>Ku Xu SR h0 k a v ha hv);refine⟨_,_,.rs i n sz n,e ▸ k,q1,q2,.inl ⟨.slice (some ⟨w.heap.size,0,none⟩) n n,?_,?_⟩⟩
  ·simp only[execOp,e1,e2];simp[C'];rfl
  ·have Qx:(((w.to (w.alloc (.cells (madeCells z.cells (n*sz)) et))).fg w.heap.size).name i n (.at w.heap.size (n*sz) sz)).nm i n=some (.at w.heap.size (n*sz) sz):=NW.cd _ _ _ _;have:=az.rs (w:=((w.to (w.alloc (.cells (madeCells z.cells (n*sz)) et))).fg w.heap.size).name i n (.at w.heap.size (n*sz) sz)) i n sz n w.heap.size (n*sz) n Qx rfl jl h0;have e3:(Row.aG et sz (List.replicate n (zs.map AV.raw))).fv=n:=by show(List.replicate n (zs.map AV.raw)).length=n;simp
   have e4:(madeCells z.cells (n*sz)).size=n*sz:=size_madeCells _ _;rw[e3,e4];exact this
open Go.ChangeShapes Go.WideShapes Go.ChangeAt Go.RowKit
def bj(a k:Nat):Nat:=1000+(8*k+a)
def gW(a k:Nat):1000<=bj a k:=by unfold bj;omega
def nz{a b k j:Nat}(ha:a<8)(hb:b<8)(h:bj a k=bj b j):a=b/\k=j:=by unfold bj at h;omega
@[go_sem] def j5o(a k n:Nat)(h:n<1000):(bj a k=n)=False:=by have:=gW a k;simp;omega
@[go_sem] def j56(a k n:Nat)(h:n<1000):(n=bj a k)=False:=by have:=gW a k;simp;omega
@[go_sem] def Mr(a b k j:Nat)(ha:a<8)(hb:b<8)(h:a≠b):(bj a k=bj b j)=False:=by simp;intro e;exact h (nz ha hb e).1
def fi(a:Nat)(f:P7):Nat->Nat->List P8->PV
 |_,0,l=>l
 |k,n+1,l=>(bj a k,f k)::fi a f (k+1) n l
def bE(a n:Nat)(f:P7)(l:PV):PV:=fi a f 0 n l
theorem Al(a:Nat)(ha:a<8)(f:P7)(l:PV):∀(n k j:Nat),aB (fi a f k n l) (bj a j)=if k<=j/\j<k+n then some (f j)else aB l (bj a j)
 |0,k,j=>by unfold fi;rw[jN]
 |n+1,k,j=>by
  show(if bj a j=bj a k then some (f k)else aB (fi a f (k+1) n l) (bj a j))=_;by_cases e:j=k
  ·subst e;rw[if_pos rfl,jP]
  ·rw[if_neg (fun h=>e (nz ha ha h).2),Al a ha f l n (k+1) j];by_cases h:k+1<=j/\j<k+1+n
   ·rw[if_pos h,jP]
   ·rw[if_neg h,jN]
theorem xi(a:Nat)(f:P7)(l:PV)(i:Nat)(hi:∀k,i≠bj a k):∀(n k:Nat),aB (fi a f k n l) i=aB l i
 |0,k=>rfl
 |n+1,k=>by show(if i=bj a k then some (f k)else aB (fi a f (k+1) n l) i)=_;rw[if_neg (hi k)];exact xi a f l i hi n (k+1)
@[go_sem] def pj(a n:Nat)(f:P7)(l:PV)(i:Nat)(h:i<1000):aB (bE a n f l) i=aB l i:=xi a f l i (fun k e=>by have:=gW a k;omega) n 0
@[go_sem] def nu(a n:Nat)(f:P7)(l:PV)(b k:Nat)(ha:a<8)(hb:b<8)(h:a≠b):aB (bE a n f l) (bj b k)=aB l (bj b k):=xi a f l _ (fun j e=>h (nz hb ha e).1.symm) n 0
@[go_sem] def rR(a n:Nat)(f:P7)(l:PV)(k:Nat)(ha:a<8)(h:k<n):aB (bE a n f l) (bj a k)=some (f k):=by unfold bE;rw[Al a ha,jP]
@[go_sem] def Oc(a n:Nat)(f:P7)(l:PV)(k:Nat)(ha:a<8)(h:n<=k):aB (bE a n f l) (bj a k)=aB l (bj a k):=by unfold bE;rw[Al a ha,jN]
theorem yw(a:Nat)(f:P7)(l:PV)(i:Nat)(r:Row)(hi:∀k,i≠bj a k):∀(n k:Nat),eD (fi a f k n l) i r=fi a f k n (eD l i r)
 |0,k=>rfl
 |n+1,k=>by unfold fi;show(if i=bj a k then _ else _)=_;rw[if_neg (hi k),yw a f l i r hi n (k+1)]
theorem Ak(a:Nat)(ha:a<8)(f:P7)(l:PV)(j:Nat)(r:Row):∀(n k:Nat),eD (fi a f k n l) (bj a j) r=if k<=j/\j<k+n then fi a (fun q=>if q=j then r else f q) k n l else fi a f k n (eD l (bj a j) r)
 |0,k=>by unfold fi;rw[jN]
 |n+1,k=>by
  have ih:=Ak a ha f l j r n (k+1);show(if bj a j=bj a k then _ else _)=_;by_cases e:j=k
  ·subst e;rw[if_pos rfl,jP];show _::_=(bj a j,if j=j then r else f j)::fi a _ (j+1) n l;rw[if_pos rfl];have:∀(n k:Nat),j<k->fi a f k n l=fi a (fun q=>if q=j then r else f q) k n l:=by
    intro n;induction n with
    |zero=>intro k _;rfl
    |succ n ih=>intro k hk;unfold fi;rw[ih (k+1) jB,jN]
   rw[this n (j+1) jB]
  ·rw[if_neg (fun h=>e (nz ha ha h).2),ih];by_cases h:k+1<=j/\j<k+1+n
   ·rw[if_pos h,jP];show _=(bj a k,if k=j then r else f k)::_;rw[if_neg (fun h=>e h.symm)]
   ·rw[if_neg h,jN];rfl
@[go_sem] def Bs(a n:Nat)(f:P7)(l:PV)(i:Nat)(r:Row)(h:i<1000):eD (bE a n f l) i r=bE a n f (eD l i r):=yw a f l i r (fun k e=>by have:=gW a k;omega) n 0
@[go_sem] def jyY(a n:Nat)(f:P7)(l:PV)(b k:Nat)(r:Row)(ha:a<8)(hb:b<8)(h:a≠b):eD (bE a n f l) (bj b k) r=bE a n f (eD l (bj b k) r):=yw a f l _ r (fun j e=>h (nz hb ha e).1.symm) n 0
@[go_sem] def jyX(a n:Nat)(f:P7)(l:PV)(k:Nat)(r:Row)(ha:a<8)(h:k<n):eD (bE a n f l) (bj a k) r=bE a n (fun q=>if q=k then r else f q) l:=by unfold bE;rw[Ak a ha,jP]
@[go_sem] def jxp(a n:Nat)(f:P7)(l:PV)(k:Nat)(r:Row)(ha:a<8)(h:n<=k):eD (bE a n f l) (bj a k) r=bE a n f (eD l (bj a k) r):=by unfold bE;rw[Ak a ha,jN]
theorem Ep(a:Nat){f g:P7}(l:PV):∀(n k:Nat),(∀j,k<=j->j<k+n->f j=g j)->fi a f k n l=fi a g k n l
 |0,k,_=>rfl
 |n+1,k,h=>by unfold fi;rw[h k jB jB,Ep a l n (k+1) fun j h1 h2=>h j jB jB]
variable{l l':PV}
def wc{a m:Nat}{f g:P7}(hn:n=m)(h:∀j,j<n->f j=g j)(hl:l=l'):bE a n f l=bE a m g l':=by subst hn hl;exact Ep a l n 0 fun j _ h2=>h j jB
def sF(a n:Nat)(ha:a<8)(f:P7)(l:PV)(i:Nat):(∃k,k<n/\i=bj a k/\aB (bE a n f l) i=some (f k))\/((∀k,k<n->i≠bj a k)/\aB (bE a n f l) i=aB l i):=by
 by_cases h:∃k,i=bj a k
 ·obtain⟨k,rfl⟩:=h;by_cases hk:k<n
  ·exact .inl ⟨k,hk,rfl,rR a n f l k ha hk⟩
  ·exact .inr ⟨fun j hj e=>hk ((nz ha ha e).2 ▸ hj),Oc a n f l k ha jB⟩
 ·exact .inr ⟨fun k _ e=>h ⟨k,e⟩,xi a f l i (fun k e=>h ⟨k,e⟩) n 0⟩
def dh{α:Type}(n:Nat)(f:Nat->α):List α:=(List.range n).map f
@[go_sem] def Kv{α:Type}(n:Nat)(f:Nat->α):(dh n f).length=n:=by simp[dh]
@[go_sem] def KH(n:Nat)(f:Nat->PW)(k:Nat)(d:PW)(h:k<n):(dh n f).getD k d=f k:=by simp[dh,h]
variable{f:Nat->PW}
def A2{l:PU}(hl:l.length=n)(h:∀k,k<n->l.getD k []=f k):l=dh n f:=by apply List.ext_getElem (by rw[hl,Kv]);intro i h1 h2;have:=h i jB;rw[List.getD_eq_getElem?_getD,List.getElem?_eq_getElem h1]at this;simpa[dh]using this
@[go_sem] def j6i(n:Nat)(f:Nat->PW)(k:Nat)(c:PW):(dh n f).set k c=dh n (fun q=>if q=k then c else f q):=by
 refine A2 (by simp[dh]) fun j hj=>?_
 rw[List.getD_eq_getElem?_getD,List.getElem?_set];by_cases e:k=j
 ·subst e;simp[dh,hj]
 ·rw[if_neg e,if_neg (fun h=>e h.symm)];simp[dh,hj]
@[go_sem] def j4H(n:Nat)(f:Nat->PW)(c:PW):dh n f++[c]=dh (n+1) (fun q=>if q=n then c else f q):=by
 refine A2 (by simp[dh]) fun j hj=>?_
 rw[List.getD_eq_getElem?_getD];by_cases e:j=n
 ·subst e;rw[if_pos rfl];simp[dh]
 ·rw[if_neg e,List.getElem?_append_left (by simp[dh];omega)];simp[dh,show j<n from jB]
def oM{α:Type}{m:Nat}{f g:Nat->α}(hn:n=m)(h:∀j,j<n->f j=g j):dh n f=dh m g:=by subst hn;unfold dh;exact List.map_congr_left fun j hj=>h j (by simpa using hj)
def qj{q:P5}(h:∀k,k<n->aU q (f k)=true):QL q (dh n f):=fun c hc=>by obtain⟨k,hk,rfl⟩:=List.mem_map.1 hc;exact h k (by simpa using hk)
variable{B:PZ}
def Bi{r:AV}(l':PV)(h:∀i,aB l i=aB l' i):hJ r ⟨B,l⟩ r ⟨B,l'⟩:=fun w v h1 h2=>by
 have hg:∀i,(Hp.mk B l').get i=(Hp.mk B l).get i:=fun i=>(h i).symm
 exact⟨w,rfl,{ rows:=fun i r hi=>h1.rows i r ((hg i) ▸ hi),dS:=fun i m z hz=>by rw[hg];exact h1.dS i m z hz,inj:=h1.inj,own:=h1.own,fin:=h1.fin,ci:=h1.ci },h2,{ ExtQ.refl _ w with base:=rfl }⟩
def wF{w:NW}(h:∀i,aB l i=aB l' i)(h1:aN w ⟨B,l⟩):aN w ⟨B,l'⟩:=by
 have hg:∀i,(Hp.mk B l').get i=(Hp.mk B l).get i:=fun i=>(h i).symm
 exact{ rows:=fun i r hi=>h1.rows i r ((hg i) ▸ hi),dS:=fun i m z hz=>by rw[hg];exact h1.dS i m z hz,inj:=h1.inj,own:=h1.own,fin:=h1.fin,ci:=h1.ci }
structure Lays(E:List (Nat×Row)->List (Nat×Row))(tl:List (Nat×Row)):Prop where
 get:∀i,aB (E tl) i=(aB (E []) i).or (aB tl i)
 apart:∀i r,aB tl i=some r->aB (E []) i=none
variable{f:FuncId}{r0:AV}
def tJ{P:P6}{args:PW}{tl:PV}{E E':List P8->PV}(hc:af P f args (E []) fun r l'=>r=r0/\l'=E' [])(h1:Lays E tl)(h2:Lays E' tl)(h3:(ids (E' [])).Nodup)
  (ha:aU (fun i=>(ids (E [])).contains i) args=true) (hr:∀i r,aB (E []) i=some r->aU (fun i=>(ids (E [])).contains i) r.cells=true) (hk:K r0 ⟨B,E' tl⟩) (h4:∀i,aB (E []) i≠none->aB (E' []) i≠none):cw P f args ⟨B,E tl⟩ K:=fun w vs hw hv=>by
 refine(vt (H:=⟨B,E tl⟩) (K:=fun r H'=>r=r0/\∃l',H'=⟨B,l'⟩/\∀i,aB l' i=aB (E' tl) i) hc (fun i r hi=>?_) ha hr (fun r l' ⟨e1,e2⟩=>⟨fun i s hs=>?_,by rw[e2];exact h3,e1,_,rfl,fun i=>?_⟩) hw hv).mono ?_
 ·show aB (E tl) i=some r;rw[h1.get,hi];rfl
 ·cases e:aB (E []) i with
  |some x=>exact .inl (tT e)
  |none=>
   right
   show aB (E tl) i=none;rw[h1.get,e,Option.none_or];cases e':aB tl i with
   |none=>rfl
   |some y=>rw[e2]at hs;have:=h2.apart i y e';rw[this]at hs;cases hs
 ·rw[e2,qY _ _ _ (fun _ _ _=>trivial) h3,h2.get,h1.get];cases e:aB (E' []) i with
  |some x=>rfl
  |none=>
   have:aB (E []) i=none:=Classical.byContradiction fun h=>h4 i h e
   rw[this];rfl
 ·rintro e W ⟨v,r,H',w',rfl,rfl,⟨rfl,l',rfl,hl⟩,g1,g2,g3⟩;exact⟨v,_,⟨B,E' tl⟩,w',rfl,rfl,hk,wF hl g1,g2,{ g3 with base:=rfl }⟩
def bf{P:P6}(i:Nat){H:Hp}(k:q)(hi:H.get i=none:=by first|rfl|exact dj)(hz:dU P t=some zs:=by(simp only[go_sem];rfl))(e:K (.pt i 0 0 0) (H.put i (.var t (zs.map .raw)))=q:=by exact ey):ll P H t K:=vS i hz hi (e ▸ k)
def bz(i:Nat){x:AV}{H:Hp}(k:q)(hi:H.get i=none:=by first|rfl|exact dj)(ho:cM x.cells=true:=by simp only[go_sem])(e:K (.pt i 0 0 0) (H.put i (.var t x.cells))=q:=by exact ey):pN H t x K:=wN i ho hi (e ▸ k)
section
variable {α:Type}[DecidableEq α]
def qN(n:α):List α->PW->Option AV
 |k::ks,v::vs=>if n=k then some v else qN n ks vs
 |_,_=>none
def lN(n:α)(x:AV):List α->PW->PW
 |k::ks,v::vs=>if n=k then x::vs else v::lN n x ks vs
 |_,_=>[x]
def lC(n:α):List α->List α
 |k::ks=>if n=k then k::ks else k::lC n ks
 |[]=>[n]
theorem EJ(n:α)(x:AV):∀(ks:List α) (vs:PW),ks.length=vs.length->(lC n ks).length=(lN n x ks vs).length
 |[],[],_=>rfl
 |[],_::_,h=>by simp at h
 |_::_,[],h=>by simp at h
 |k::ks,v::vs,h=>by
  have h:ks.length=vs.length:=by simpa using h
  unfold lC lN;split
  ·simp[h]
  ·simp[EJ n x ks vs h]
structure iF(P:Program)(kt:TypeId)(enc:α->Value):Prop where
 NU:∃d,P.underlying kt=some d/\∀a b,Instr.sameNow d (enc a) (enc b)=some (decide (a=b))
 xf:∀(w:World) a e,(Instr.checkKey e 10000 kt (enc a)).run P w=.ok () w
 bits:∀a,Instr.sameBits 10000 (enc a) (enc a)=true
variable{P:P6}{kt:P1}
def J3(h:P.underlying kt=some (.int .i64)):iF P kt (Value.int .i64):=⟨⟨_,h,fun a b=>by simp[Instr.sameNow];rfl⟩,fun w a e=>MapKept.run_checkKey h (by simp[MapKept.IsKey]) e 9999,fun a=>by unfold Instr.sameBits;simp⟩
def Nd(h:P.underlying kt=some .string):iF P kt Value.string:=⟨⟨_,h,fun a b=>by
 have:(a == b)=decide (a=b):=by rw[Bool.eq_iff_iff,MapKept.bytes_beq];simp
 simp only[Instr.sameNow,this]⟩,fun w a e=>MapKept.run_checkKey h (by simp[MapKept.IsKey]) e 9999,fun a=>by unfold Instr.sameBits;exact(MapKept.bytes_beq a a).2 rfl⟩
def mi(n:α):List α->P4->Nat->Option (Nat×Value)
 |k::ks,v::vs,i=>if n=k then some (i,v)else mi n ks vs (i+1)
 |_,_,_=>none
theorem B2{d:TypeDesc}{enc:α->Value}(h:∀a b,Instr.sameNow d (enc a) (enc b)=some (decide (a=b)))(n:α):∀(ks:List α) (vs:P4) (b i:Nat),Instr.findNow d (enc n) (gM b (ks.map enc) vs) i=some (mi n ks vs i)
 |[],vs,b,i=>by simp[gM,mi,Instr.findNow]
 |k::ks,[],b,i=>by simp[gM,mi,Instr.findNow]
 |k::ks,v::vs,b,i=>by
  simp only[List.map_cons,gM,mi,Instr.findNow,h];by_cases e:n=k
  ·simp[e]
  ·simp[e,B2 h n ks vs (b+1) (i+1)]
theorem Bz{n:α}:∀{ks:List α} {vs:P4} {i j:Nat} {v:Value},mi n ks vs i=some (j,v)->∃k,j=i+k/\vs[k]?=some v/\ks[k]?=some n/\k<ks.length/\
  (∀zl:PW,zl.length=ks.length->qN n ks zl=zl[k]?/\(∀x,lN n x ks zl=zl.set k x))/\lC n ks=ks
 |[],_,_,_,_,h=>by simp[mi]at h
 |_::_,[],_,_,_,h=>by simp[mi]at h
 |k::ks,v'::vs,i,j,v,h=>by
  unfold mi at h;split at h
  ·rename_i e;cases h;refine⟨0,rfl,rfl,by simp[e],jE,fun zl hl=>?_,by simp[lC,e]⟩;cases zl with
   |nil=>simp at hl
   |cons a zl=>exact⟨by simp[qN,e],fun x=>by simp[lN,e]⟩
  ·rename_i e;obtain⟨q,h1,h2,h3,h5,h4,h6⟩:=Bz h;refine⟨q+1,jB,by simpa using h2,by simpa using h3,by simpa using h5,fun zl hl=>?_,by unfold lC;rw[if_neg e,h6]⟩;cases zl with
   |nil=>simp at hl
   |cons a zl=> obtain⟨g1,g2⟩:=h4 zl (by simpa using hl);exact⟨by unfold qN;rw[if_neg e,g1];rfl,fun x=>by unfold lN;rw[if_neg e,g2];rfl⟩
theorem AY{n:α}:∀{ks:List α} {vs:P4} {i:Nat},ks.length=vs.length->mi n ks vs i=none->(∀zl:PW,zl.length=ks.length->qN n ks zl=none/\∀x,lN n x ks zl=zl++[x])/\lC n ks=ks++[n]
 |[],_,_,_,_=>⟨fun zl hl=>by
   have:zl=[]:=by simpa using hl
   subst this;exact⟨rfl,fun x=>rfl⟩,rfl⟩
 |_::_,[],_,h,_=>by simp at h
 |k::ks,v'::vs,i,hl,h=>by
  unfold mi at h;split at h
  ·cases h
  ·rename_i e;obtain⟨g1,g2⟩:=AY (by simpa using hl) h;refine⟨fun zl Qa=>?_,by unfold lC;rw[if_neg e,g2];rfl⟩;cases zl with
   |nil=>simp at Qa
   |cons a zl=> obtain⟨q1,q2⟩:=g1 zl (by simpa using Qa);exact⟨by unfold qN;rw[if_neg e,q1],fun x=>by unfold lN;rw[if_neg e,q2];rfl⟩
theorem DL:∀(b:Nat) (ks vs:P4) (k v:Value),ks.length=vs.length->gM b (ks++[k]) (vs++[v])=gM b ks vs++[⟨k,v,b+ks.length⟩]
 |b,[],[],k,v,_=>by simp[gM]
 |b,[],_::_,k,v,h=>by simp at h
 |b,_::_,[],k,v,h=>by simp at h
 |b,k'::ks,v'::vs,k,v,h=>by have:=DL (b+1) ks vs k v (by simpa using h);simp only[List.cons_append,gM,this,List.length_cons];rw[show b+1+ks.length=b+(ks.length+1) from jB]
theorem Fy:∀(b:Nat) (ks vs:P4) (j:Nat) (k v:Value),ks[j]?=some k->vs[j]?=some v->(gM b ks vs)[j]?=some ⟨k,v,b+j⟩
 |b,[],_,j,k,v,h,_=>by simp at h
 |b,_::_,[],j,k,v,_,h=>by simp at h
 |b,k'::ks,v'::vs,0,k,v,h1,h2=>by simp at h1 h2;subst h1 h2;rfl
 |b,k'::ks,v'::vs,j+1,k,v,h1,h2=>by have:=Fy (b+1) ks vs j k v (by simpa using h1) (by simpa using h2);simp only[gM,List.getElem?_cons_succ,this];rw[show b+1+j=b+(j+1) from jB]
theorem F0:∀(b:Nat) (ks vs:P4) (j:Nat) (k v:Value),ks[j]?=some k->j<vs.length->gM b ks (vs.set j v)=(gM b ks vs).modify j fun e=>{ e with key:=k,val:=v }
 |b,[],_,j,k,v,h,_=>by simp at h
 |b,_::_,[],j,k,v,_,h=>by simp at h
 |b,k'::ks,v'::vs,0,k,v,h1,_=>by simp at h1;subst h1;simp[gM]
 |b,k'::ks,v'::vs,j+1,k,v,h1,h2=>by have:=F0 (b+1) ks vs j k v (by simpa using h1) (by simpa using h2);simp[gM,this]
def F6{enc:α->Value}(K:iF P kt enc)(w:World)(n:α)(ks:List α)(vs:P4)(b:Nat):(Instr.findKey kt (enc n) (gM b (ks.map enc) vs)).run P w=.ok (mi n ks vs 0) w:=by obtain⟨d,h1,h2⟩:=K.NU;simp[Instr.findKey,run_underlying h1,B2 h2,Result.andThen]
end
section
variable {P:P6}{H:Hp}{α:Type}[DecidableEq α]
variable{i:Nat}{vs:PW}
def GV{w:NW}(hw:aN w H){ks:P4}{b t s:Nat}(hi:H.get i=some (.mp ks vs))(hn:w.nm i 0=some (.at b t s)) :
  s=0/\ks.length=vs.length/\∃cur:P3,w.heap[b]?=some (.map (gM 0 ks cur.toList).toArray ks.length)/\cur.size=vs.length/\∀(k:Nat) a v,vs[k]?=some a->cur[k]?=some v->az w a v:=by
 obtain⟨hok,z,hz,Qw⟩:=hw.rows _ _ hi;have:z=.at b t s:=by have hz:w.nm i 0=some z:=hz;rw[hn]at hz;cases hz;rfl
 subst this;obtain⟨h1,cur,hh,Qn,hr⟩:=Qw;exact⟨h1,hok,cur,hh,Qn,hr⟩
variable{ty t:P1}{K:PT}{q:Prop}
def o5(i:Nat){ev:P2}(k:q)(hi:H.get i=none:=by first|rfl|exact dj)(e:K (.mr i) (H.put i (.mp [] []))=q:=by exact ey):gp P (.makeMap t none) ty ev H K:=fun w ρ dst pos after guard hw hρ=>by
 obtain⟨q1,q2⟩:=sW (row:=.mp [] []) hw (hw.none hi _) (fun r' hr=>by rw[hi]at hr;cases hr) rfl #[] rfl (fun k a v ha hv=>by have ha:([]:PW)[k]?=some a:=ha;simp at ha)
 refine⟨_,_,.mr i,e ▸ k,q1,q2,.inl ⟨.map (some w.heap.size),?_,.mr _ _ _ _ (NW.cd _ _ _ _)⟩⟩;simp[execOp,Instr.makeMap,newObj,Result.andThen];rfl
variable{et:P1}{om ox:Operand}{enc:α->Value}
def IH{ev:P2}{kt:P1}{ok:Operand}{op:Op}{ks:List α}{n:α}{x:AV}(Uk:op=.insert t om ok ox\/op=.mapUpdate t om ok ox)(hK:iF P kt enc)(ht:P.underlying t=some (.map kt et))
  (hm:ev om=.mr i) (hk:ev ok=.raw (enc n)) (hx:ev ox=x) (hi:H.get i=some (.mp (ks.map enc) vs)) (k:q) (e:K .any (H.put i (.mp ((lC n ks).map enc) (lN n x ks vs)))=q):gp P op ty ev H K:=fun w ρ dst pos after guard hw hρ=>by
 have ho:om∈op.operands.toList/\ok∈op.operands.toList/\ox∈op.operands.toList:=by rcases Uk with rfl|rfl<;>simp[Op.operands]
 have h1:=hρ om ho.1;have h2:=hρ ok ho.2.1;have h3:=hρ ox ho.2.2;rw[hm]at h1;rw[hk]at h2;rw[hx]at h3;have e2:=di h2;cases e1:ρ om with
 |map r=>
  rw[e1]at h1;cases h1 with
  |mr _ b u s hn=>
  obtain⟨rfl,hl,cur,hh,Qh,hr⟩:=GV hw hi hn;have hl:ks.length=vs.length:=by simpa using hl
  have Qi:ks.length=cur.toList.length:=by simp;omega
  have hb:b<w.heap.size:=hw.lt hn;have run:∀(vs':P4) (ks':List α),ks'.length=vs'.length->(lN n x ks vs).length=vs'.length->lC n ks=ks'->
    (Instr.mapUpdate t (ρ om) (ρ ok) (ρ ox)).run P w.toWorld=.ok () { w.toWorld with heap:=w.heap.setIfInBounds b (.map (gM 0 (ks'.map enc) vs').toArray ks'.length) }->
    (∀(k:Nat) a v,(lN n x ks vs)[k]?=some a->vs'[k]?=some v->az w a v)->∃(w':NW) (H':Hp) (r:AV),K r H'/\aN w' H'/\Ext w H w' H'/\((∃v,(execOp ρ ⟨dst,op,ty,pos,after,guard⟩).run P w.toWorld=.ok (.value v) w'.toWorld/\az w' r v)\/((execOp ρ ⟨dst,op,ty,pos,after,guard⟩).run P w.toWorld=.ok .skip w'.toWorld/\r=.any)):=fun vs' ks' Rb Q4 RK C' Qk=>by
   obtain⟨g1,g2⟩:=CS (W:={ w.toWorld with heap:=w.heap.setIfInBounds b (.map (gM 0 (ks'.map enc) vs').toArray ks'.length) }) (row:=.mp (ks.map enc) vs) (row':=.mp ((lC n ks).map enc) (lN n x ks vs)) hw hi hn rfl jl (by show((lC n ks).map enc).length=_;rw[List.length_map];exact EJ n x ks vs hl) rfl rfl rfl jE (fun c hc=>by
    show(w.heap.setIfInBounds b _)[c]?=_;rw[Array.getElem?_setIfInBounds,if_neg (fun h=>hc h.symm)]) vs'.toArray (by
    show(w.heap.setIfInBounds b _)[b]?=_;rw[Array.getElem?_setIfInBounds,if_pos rfl,if_pos hb,RK];simp[Row.obj]) (by show vs'.toArray.size=_;simp;omega) (fun k a v ha hv=>Qk k a v ha (by simpa using hv))
   refine⟨_,_,.any,e ▸ k,g1,g2,.inr ⟨?_,rfl⟩⟩;rcases Uk with rfl|rfl
   ·simp only[execOp,C'];simp[C',Result.andThen];rfl
   ·simp only[execOp,C'];simp[C',Result.andThen];rfl
  have QS:=F6 hK w.toWorld n ks cur.toList 0;cases hf:mi n ks cur.toList 0 with
  |none=>
   obtain⟨f1,f2⟩:=AY Qi hf;obtain⟨f3,f4⟩:=f1 vs jB;refine run (cur.toList++[ρ ox]) (ks++[n]) jF (by rw[f4];simp;omega) f2 ?_ ?_
   ·rw[e1,e2];have es:=DL 0 (ks.map enc) cur.toList (enc n) (ρ ox) (by simpa using Qi);rw[Nat.zero_add,List.length_map]at es;rw[List.map_append,List.map_singleton,es];simp[Instr.mapUpdate,run_underlying ht,MapKept.run_getObj_map hh,hK.xf,QS,hf,MapKept.run_setObj_map _ hh,Result.andThen]
   ·intro k a v ha hv;rw[f4]at ha;rcases Nat.lt_or_ge k vs.length with h|h
    ·rw[List.getElem?_append_left h]at ha;rw[List.getElem?_append_left jF]at hv;exact hr k a v ha (by simpa using hv)
    ·rw[List.getElem?_append_right h]at ha;rw[List.getElem?_append_right jF]at hv;have Ql:k-vs.length=0:=by
      have:=(List.getElem?_eq_some_iff.1 ha).1;simp at this;omega
     rw[Ql]at ha;rw[show k-cur.toList.length=0 by simp;omega]at hv;simp at ha hv;subst ha hv;exact h3
  |some jv=>
   obtain⟨j,v0⟩:=jv;obtain⟨k0,rfl,f2,f3,f5,f4,f6⟩:=Bz hf;rw[Nat.zero_add]at hf;obtain⟨f7,f8⟩:=f4 vs jB;refine run (cur.toList.set k0 (ρ ox)) ks jF (by rw[f8];simp;omega) f6 ?_ ?_
   ·rw[e1,e2];have RT:(ks.map enc)[k0]?=some (enc n):=by simp[f3]
    have es:=F0 0 (ks.map enc) cur.toList k0 (enc n) (ρ ox) RT jB;have eg:=Fy 0 (ks.map enc) cur.toList k0 (enc n) v0 RT f2;rw[es];have hmod:∀g,(gM 0 (ks.map enc) cur.toList).toArray.modify k0 g=((gM 0 (ks.map enc) cur.toList).modify k0 g).toArray:=fun g=>jE
    simp[Instr.mapUpdate,run_underlying ht,MapKept.run_getObj_map hh,hK.xf,QS,hf,MapKept.run_setObj_map _ hh,Result.andThen,eg,Instr.keyThatStays,hK.bits]
   ·intro k a v ha hv;rw[f8,List.getElem?_set]at ha;rw[List.getElem?_set]at hv;by_cases O':k0=k
    ·rw[if_pos O']at ha hv;split at ha
     ·split at hv
      ·cases ha;cases hv;exact h3
      ·cases hv
     ·cases ha
    ·rw[if_neg O']at ha hv;exact hr k a v ha (by simpa using hv)
 |_=>rw[e1]at h1;cases h1
def tF(n:α)(ks:List α)(vs:PW)(z:AV)(ok:Bool):AV:=if ok=true then(match qN n ks vs with|some v=>.bt [v,.raw (.bool true)]|none=>.bt [z,.raw (.bool false)])else(qN n ks vs).getD z
def EE{ev:P2}{kt:P1}{c:Bool}{ks:List α}{n:α}{z:Value}(hK:iF P kt enc)(ht:P.underlying t=some (.map kt et))(hz:(P.info? et).bind (·.zero)=some z)
  (hm:ev om=.mr i) (hk:ev ox=.raw (enc n)) (hi:H.get i=some (.mp (ks.map enc) vs)) (k:q) (e:K (tF n ks vs (.raw z) c) H=q):gp P (.lookup t om ox c) ty ev H K:=fun w ρ dst pos after guard hw hρ=>by
 have h1:=hρ om (by simp[Op.operands]);have h2:=hρ ox (by simp[Op.operands]);rw[hm]at h1;rw[hk]at h2;have e2:=di h2;cases e1:ρ om with
 |map r=>
  rw[e1]at h1;cases h1 with
  |mr _ b u s hn=>
  obtain⟨rfl,hl,cur,hh,Qh,hr⟩:=GV hw hi hn;have hl:ks.length=vs.length:=by simpa using hl
  have Qi:ks.length=cur.toList.length:=by simp;omega
  have QS:=F6 hK w.toWorld n ks cur.toList 0;have Xf:(zeroValue et).run P w.toWorld=.ok z w.toWorld:=by
   cases Ti:P.info? et with
   |none=>rw[Ti]at hz;cases hz
   |some ti=>rw[Ti]at hz;simp only[Option.bind_some]at hz;simp[zeroValue,typeInfo,Ti,hz]
  cases hf:mi n ks cur.toList 0 with
  |none=>
   obtain⟨f1,f2⟩:=AY Qi hf;obtain⟨f3,_⟩:=f1 vs jB;refine⟨w,H,_,e ▸ k,hw,Ext.refl w H,.inl ⟨if c=true then .tuple #[z,.bool false]else z,?_,?_⟩⟩
   ·simp only[execOp,e1,e2];cases c<;>simp[Instr.lookup,run_underlying ht,MapKept.run_getObj_map hh,hK.xf,QS,hf,Xf,Result.andThen]
   ·unfold tF;rw[f3];cases c
    ·exact .raw _
    ·exact .bt _ _ rfl fun i a v ha hv=>by
      match i with
      |0=>simp at ha hv;subst ha hv;exact .raw _
      |1=>simp at ha hv;subst ha hv;exact .raw _
      |i+2=>simp at ha
  |some jv=>
   obtain⟨j,v0⟩:=jv;obtain⟨k0,rfl,f2,f3,f5,f4,f6⟩:=Bz hf;obtain⟨f7,_⟩:=f4 vs jB;have Ql:k0<vs.length:=jB;have Yp:az w vs[k0] v0:=hr k0 _ v0 (List.getElem?_eq_getElem Ql) (by simpa using f2);refine⟨w,H,_,e ▸ k,hw,Ext.refl w H,.inl ⟨if c=true then .tuple #[v0,.bool true]else v0,?_,?_⟩⟩
   ·simp only[execOp,e1,e2];cases c<;>simp[Instr.lookup,run_underlying ht,MapKept.run_getObj_map hh,hK.xf,QS,hf,Result.andThen]
   ·unfold tF;rw[f7,List.getElem?_eq_getElem Ql];cases c
    ·exact Yp
    ·exact .bt _ _ rfl fun i a v ha hv=>by
      match i with
      |0=>simp at ha hv;subst ha hv;exact Yp
      |1=>simp at ha hv;subst ha hv;exact .raw _
      |i+2=>simp at ha
 |_=>rw[e1]at h1;cases h1
def oK(P:P6)(t:P1):Option (Bool×P1):=match P.underlying t with
 |some (.map k e)=>match P.underlying k with
  |some .string=>some (true,e)
  |some (.int .i64)=>some (false,e)
  |_=>none
 |_=>none
def Kk{e:P1}(h:oK P t=some (true,e)):∃k,P.underlying t=some (.map k e)/\iF P k Value.string:=by
 unfold oK at h;split at h
 ·rename_i k e' h1;split at h
  ·rename_i h2;cases h;exact⟨k,h1,Nd h2⟩
  ·cases h
  ·cases h
 ·cases h
def EN{e:P1}(h:oK P t=some (false,e)):∃k,P.underlying t=some (.map k e)/\iF P k (Value.int .i64):=by
 unfold oK at h;split at h
 ·rename_i k e' h1;split at h
  ·cases h
  ·rename_i h2;cases h;exact⟨k,h1,J3 h2⟩
  ·cases h
 ·cases h
def dk{ev:P2}{ok:Operand}{op:Op}{n:Int}(ks:PY)(Wa:oK P t=some (false,et))(k:q)(Uk:op=.insert t om ok ox\/op=.mapUpdate t om ok ox:=by first|exact Or.inl rfl|exact Or.inr rfl)
  (hm:ev om=.mr i:=by rfl) (hk:ev ok=.raw (.int .i64 n):=by rfl) (hi:H.get i=some (.mp (ks.map (Value.int .i64)) vs):=by first|rfl|exact dj) (e:K .any (H.put i (.mp ((lC n ks).map (Value.int .i64)) (lN n (ev ox) ks vs)))=q:=by exact ey):gp P op ty ev H K:=by
 obtain⟨kt,h1,h2⟩:=EN Wa;exact IH Uk h2 h1 hm hk rfl hi k e
def pI{ev:P2}{c:Bool}{n:Int}(ks:PY)(z:Value)(r:AV)(Wa:oK P t=some (false,et))(hz:(P.info? et).bind (·.zero)=some z)(hr:tF n ks vs (.raw z) c=r)(k:q)
  (hm:ev om=.mr i:=by rfl) (hk:ev ox=.raw (.int .i64 n):=by rfl) (hi:H.get i=some (.mp (ks.map (Value.int .i64)) vs):=by first|rfl|exact dj) (e:K r H=q:=by exact ey):gp P (.lookup t om ox c) ty ev H K:=by
 obtain⟨kt,h1,h2⟩:=EN Wa;exact EE h2 h1 hz hm hk hi k (hr ▸ e)
def nG{ev:P2}{c:Bool}{n:P0}(ks:List P0)(z:Value)(r:AV)(Wa:oK P t=some (true,et))(hz:(P.info? et).bind (·.zero)=some z)(hr:tF n ks vs (.raw z) c=r)(k:q)
  (hm:ev om=.mr i:=by rfl) (hk:ev ox=.raw (.string n):=by rfl) (hi:H.get i=some (.mp (ks.map Value.string) vs):=by first|rfl|exact dj) (e:K r H=q:=by exact ey):gp P (.lookup t om ox c) ty ev H K:=by
 obtain⟨kt,h1,h2⟩:=Kk Wa;exact EE h2 h1 hz hm hk hi k (hr ▸ e)
@[go_sem] def Lt{ev:P2}(t:P1)(r:Option Operand):vc P ev H ty K (.makeMap t r)=gp P (.makeMap t r) ty ev H K:=by simp[vc,cP]
@[go_sem] def LA{ev:P2}(t:P1)(m k x:Operand):vc P ev H ty K (.insert t m k x)=gp P (.insert t m k x) ty ev H K:=by simp[vc,cP]
@[go_sem] def Hw{ev:P2}(t:P1)(m k x:Operand):vc P ev H ty K (.mapUpdate t m k x)=gp P (.mapUpdate t m k x) ty ev H K:=by simp[vc,cP]
@[go_sem] def Kh{ev:P2}(t:P1)(m k:Operand)(c:Bool):vc P ev H ty K (.lookup t m k c)=gp P (.lookup t m k c) ty ev H K:=by simp[vc,cP]
end
attribute [go_sem] lN lC
-- what is new, in regions that leave their order open
section
variable {P:P6}{A:AS}{ev:P2}{H:Hp}
@[go_sem] def j6x:(∀{K:PT} (t:P1) (n:Nat) (ps:Array (Nat×Operand)),og P A ev H K (.buildSlice t n ps)=lu P H t n (ps.toList.map fun p=>(p.1,ev p.2)) (AP (fun r H'=>c8 A H H'/\K r H') .mk))/\(∀{K:PT} (t:P1) (l c:Operand),og P A ev H K (.makeSlice t l c)=gp P (.makeSlice t l c) 0 ev H (AP (fun r H'=>c8 A H H'/\K r H') .mk))/\(∀{K:PT} (t:P1) (a x:Operand),og P A ev H K (.call ⟨.builtin .append,#[a,x],#[t,t]⟩)=pn P t t (ev a) (ev x) H (AP (fun r H'=>c8 A H H'/\K r H') .mk)):=by and_intros<;>(intros;rfl)
variable{t:P1}{sz:Nat}{zs:P4}{f:PT}{q:Prop}
def M6(i:Nat){e:P1}{b:Bool}{x:AV}{c:Prop}{ys:PU}{d:fz fun r H'=>c8 A H H'/\f r H'}(k:q)(ht:gk P t=some e:=by(simp only[go_sem];rfl))(hs:cW P e=some sz:=by first|(simp only[go_sem];done)|(simp only[go_sem];rfl))(hz:dU P e=some zs:=by(simp only[go_sem];rfl))(SR:zs.length=sz:=by rfl)(h0:0<sz:=by decide)
  (hx:o9 H x=some (c,ys):=by first|rfl|exact dj) (hc:c:=by first|trivial|exact dj) (hg:gh sz ys:=by first|exact Cv _ _ (fun _=>rfl)|exact dj) (hr:room (im P e) ys.length:=by(simp only[go_sem];omega)) (hi:H.get i=none:=by first|rfl|exact dj)
  (e:f (.rs i ys.length sz ys.length) (H.put i (.aG e sz ys))=q:=by exact ey):pn P t t (.sl true sz [] []) x H (AP (fun r H'=>c8 A H H'/\f r H') d):=by
 refine Bd ?_;unfold q0;rw[ht];simp only[hs,hz,hx];refine⟨⟨SR,h0,hc,hg⟩,⟨rfl,by simpa using hr,.inl rfl⟩,i,hi,c8.put (by simpa using hi),?_⟩;simp only[List.length_nil,Nat.zero_add,List.nil_append];exact e ▸ k
variable{css:PU}
def lb(i:Nat){K:PT}(k:q)(h0:0<sz:=by decide)(hi:H.get i=none:=by first|rfl|exact dj)(e:K (.rs i css.length sz css.length) (H.put i (.aG t sz css))=q:=by exact ey):pX t sz css H K:=yH i h0 hi (e ▸ k)
def tI(i:Nat){d:fz fun r H'=>c8 A H H'/\f r H'}(k:q)(h0:0<sz:=by decide)(hi:H.get i=none:=by first|rfl|exact dj)(e:f (.rs i css.length sz css.length) (H.put i (.aG t sz css))=q:=by exact ey) :
  pX t sz css H (AP (fun r H'=>c8 A H H'/\f r H') d):=yH i h0 hi ⟨c8.put hi,e ▸ k⟩
def Dw(i:Nat){et:P1}{n:Nat}{l c:Operand}{d:fz fun r H'=>c8 A H H'/\f r H'}(k:q)(hl:ev l=.raw (.int .i64 (n:Int)):=by rfl)(hc:ev c=.raw (.int .i64 (n:Int)):=by rfl)(ht:gk P t=some et:=by(simp only[go_sem];rfl))(hs:cW P et=some sz:=by(simp only[go_sem];rfl))(hz:dU P et=some zs:=by(simp only[go_sem];rfl))(SR:zs.length=sz:=by rfl)(h0:0<sz:=by decide)(hr:room (im P et) n:=by(simp only[go_sem];omega))(hi:H.get i=none:=by first|rfl|exact dj)
  (e:f (.rs i n sz n) (H.put i (.aG et sz (List.replicate n (zs.map .raw))))=q:=by exact ey):gp P (.makeSlice t l c) 0 ev H (AP (fun r H'=>c8 A H H'/\f r H') d):=
 A3 (K:=AP (fun r H'=>c8 A H H'/\f r H') d) (q:=c8 A H (H.put i (.aG et sz (List.replicate n (zs.map .raw))))/\q) i ⟨c8.put hi,k⟩ hl hc ht hs hz SR h0 hr hi (by show(c8 A H _/\f _ _)=_;rw[e])
variable{l0:PV}
def Jk(h4:fresh [] H l0)(h5:(ids l0).Nodup):c8 A H ⟨H.B,jm H.l l0⟩:=fun i r _ hi=>by
 left
 show aB (jm H.l l0) i=some r;rw[qY _ _ _ (fun _ _ _=>trivial) h5];cases e:aB l0 i with
 |none=>exact hi
 |some x=>
  rcases we h4 i x e with h|h
  ·simp at h
  ·rw[hi]at h;cases h
def cN{f:FuncId}{args:PW}{g:PT}{d:fz fun r H'=>c8 A H H'/\g r H'}{r0:AV}(hc:af P f args [] fun r l'=>r=r0/\l'=l0)(k:q)(h0:aQ P f=true:=by exact dj)(h2:aU cV args=true:=by exact dj)
 (h4:fresh [] H l0:=by exact dj) (h5:(ids l0).Nodup:=by exact dj) (e:g r0 ⟨H.B,jm H.l l0⟩=q:=by exact ey):dp P (.raw (.func (.func f) #[] #[])) args H (AP (fun r H'=>c8 A H H'/\g r H') d):=
 ko h0 (tN (K:=AP (fun r H'=>c8 A H H'/\g r H') d) hc trivial (by simpa[ids]using h2) trivial h4 h5 ⟨Jk h4 h5,e ▸ k⟩)
end
attribute [go_sem] oW
def Lk{w:NW}{H:Hp}(r:aN w H){D:P5}{j:Nat}{cs ds:PW}(hj:H.get j=some (.var t cs))(hD:D j=false)(hv:bc D H cs ds)(hB:H.B.all (df D)=true)(hl:eL D (oW H.l j)) :
  aN (w.ek D) ⟨H.B,eD (dq D H.l) j (.var t ds)⟩/\eK w H (w.ek D) ⟨H.B,eD (dq D H.l) j (.var t ds)⟩:=by
 have QP:∀k n,(w.ek D).nm k n=if D k=true then none else w.nm k n:=fun _ _=>rfl
 have gE:∀k,(Hp.mk H.B (eD (dq D H.l) j (.var t ds))).get k=if k=j then some (.var t ds)else if D k=true then none else H.get k:=fun k=>by show aB _ _=_;rw[nD,Bc];rfl
 obtain⟨g',Qo⟩:=hv.get;refine⟨{ rows:=fun k s hk=>?_,dS:=fun k n z hz=>?_,inj:=fun k n k' n' b t s t' s' h1 h2=>?_,own:=fun k n b t s h=>?_,fin:=fun b hb=>r.fin b hb.1,ci:=r.ci.bS (o4 w D) },{ o4 w D with names:=fun k n z hq h=>?_,os:=rfl,tape:=rfl,output:=rfl,rest:=fun b hb hO hn=>⟨rfl,⟨hO,fun k n t s _=>hn k n t s⟩,fun k n t s h=>?_⟩,base:=rfl }⟩
 ·rw[gE]at hk;by_cases e:k=j
  ·subst e;rw[if_pos rfl]at hk;cases hk;obtain⟨h1,z,h2,h3⟩:=r.rows k _ hj;refine⟨trivial,z,by rw[QP,if_neg (by rw[hD];decide)];exact h2,?_⟩;cases z with
   |nil=>obtain⟨e,sz,h⟩:=h3;cases h
   |«at» b T st=>
    obtain⟨g1,cur,g2,g3,g5⟩:=h3;refine⟨g1,cur,g2,⟨g3.1,by show ds.length<=T;rw[<-g'];exact g3.2⟩,fun i d v hd Qm=>?_⟩;have hi:i<cs.length:=by rw[g'];exact(List.getElem?_eq_some_iff.1 hd).1
    have hc:cs[i]?=some cs[i]:=List.getElem?_eq_getElem hi;exact(Qo i _ d hc hd).sound r (g5 i _ v hc Qm)
  ·rw[if_neg e]at hk;split at hk
   ·cases hk
   ·rename_i e2;obtain⟨h1,z,h2,h3⟩:=r.rows k s hk;refine⟨h1,z,by rw[QP,if_neg e2];exact h2,?_⟩;cases z with
    |nil=>exact h3
    |«at» b T st=>
     obtain⟨g1,cur,g2,g3,g5⟩:=h3;have O':aB (oW H.l j) k=some s:=by rw[AD,if_neg e];exact hk
     exact⟨g1,cur,g2,g3,fun i a v ha hv=>(g5 i a v ha hv).bS (o4 w D) (lA (Bj hl O' (by simpa using e2)) ha)⟩
 ·rw[QP]at hz;split at hz
  ·cases hz
  ·rename_i e;obtain⟨s,h1,h2⟩:=r.dS k n z hz;by_cases e2:k=j
   ·subst e2;rw[hj]at h1;cases h1;exact⟨.var t ds,by rw[gE,if_pos rfl],h2⟩
   ·exact⟨s,by rw[gE,if_neg e2,if_neg e];exact h1,h2⟩
 ·rw[QP]at h1 h2;split at h1
  ·cases h1
  split at h2
  ·cases h2
  exact r.inj _ _ _ _ _ _ _ _ _ h1 h2
 ·rw[QP]at h;split at h
  ·cases h
  rename_i e;refine⟨r.own _ _ _ _ _ h,fun i m t' s' hd h'=>?_⟩;have:=r.inj _ _ _ _ _ _ _ _ _ h h';subst this;exact e hd
 ·rw[QP];have:=List.all_eq_true.1 hB k (List.contains_iff_mem.1 hq);unfold df at this;rw[if_neg (by intro e;rw[e]at this;cases this)];exact h
 ·rw[QP]at h;split at h
  ·cases h
  ·exact hn k n t s h
def cY.uN{F F':PW}{H:Hp}(D:P5)(j:Nat){cs:PW}(ds:PW)(hj:H.get j=some (.var t cs))(hD:D j=false)(hc:bc D H cs ds)(hB:H.B.all (df D)=true)(hl:eL D (oW H.l j))(hv:bc D H F F'):cY F H F' ⟨H.B,eD (dq D H.l) j (.var t ds)⟩:=fun w tm h1 h2=>by
 obtain⟨a,b⟩:=Lk h1 hj hD hc hB hl;obtain⟨Rb,hg⟩:=hv.get;refine⟨w.ek D,rfl,a,⟨by rw[<-Rb];exact h2.1,fun i c v hc hv=>?_⟩,b⟩;have hi:i<F.length:=by rw[Rb];exact(List.getElem?_eq_some_iff.1 hc).1
 exact(hg i F[i] c (List.getElem?_eq_getElem hi) hc).sound h1 (h2.2 i _ v (List.getElem?_eq_getElem hi) hv)
-- calls under guards, that change things
def yP(D:PZ):Option Tmp->Bool
 |some t=>D.contains t
 |none=>false
def yI(P:P6)(ev:P2)(H:Hp)(K:PT):Op->Prop
 |.call { callee:=.value f,args,.. }=>dp P (ev f) (args.toList.map ev) H K
 |_=>False
def gZ(D:PZ)(P:P6)(ops:Array Oper)(K:PS):List Oper->PS
 |[],F,H=>K F H
 |o::rest,F,H=>match o.guard with
  |none=>vc P (bw F) H o.type (fun r H'=>gZ D P ops K rest (bO F o.dst r) H') o.op
  |some (j,want)=>match jV ops F j want with
   |some b=>if(yP D o.dst && fV o.op)=true then(b=true->eO F o.op=true/\yI P (bA F) H (fun r H'=>gZ D P ops K rest (bO F o.dst r) H') o.op)/\(b=false->gZ D P ops K rest (bO F o.dst (.gd false (.raw (.bool false)))) H)
    else if fV o.op || fN o.op then dR P F H b (fun r=>gZ D P ops K rest (bO F o.dst r) H) o.op
    else(b=true->vc P (bw F) H o.type (fun r H'=>gZ D P ops K rest (bO F o.dst r) H') o.op)/\(b=false->gZ D P ops K rest (bO F o.dst .any) H)
   |none=>False
section
variable {P:P6}{ops:Array Oper}
theorem vE{D:PZ}{K:PS}:∀(l:List Oper) (F:PW) (H:Hp),gZ D P ops K l F H->td P ops K l F H
 |[],F,H,h=>GW h
 |o::rest,F,H,h=>by
  refine Er ?_;simp only[gZ]at h;split at h
  ·rename_i hg;exact(oi (K:=fun F' H'=>gZ D P ops K rest F' H') hg h).mono fun F' H' hk=>vE rest F' H' hk
  ·rename_i j want hg;split at h
   ·rename_i b hb;split at h
    ·rename_i hd;refine k8.mono (K:=fun F' H'=>gZ D P ops K rest F' H') ?_ fun F' H' hk=>vE rest F' H' hk
     obtain⟨dst,op,ty,pos,after,guard⟩:=o;have hc:fV op=true:=by simp only[Bool.and_eq_true]at hd;exact hd.2
     cases op<;>first|(cases hc;done)|skip
     rename_i c;obtain⟨callee,args,ts⟩:=c;cases callee<;>first|(cases hc;done)|skip
     rename_i f;refine na hg hb (fun Qz w tm Q next h1 h2 hn=>?_) (fun Qz=>⟨.gd false (.raw (.bool false)),oQ rfl,h.2 Qz⟩);obtain⟨ok,Qq⟩:=h.1 Qz;have SH:=oe ok;have e1:ja F f=bA F f:=SH f (by simp[Op.operands,Call.operands]);have e2:args.toList.map (ja F)=args.toList.map (bA F):=List.map_congr_left fun x hx=>SH x (by simp[Op.operands,Call.operands]at hx ⊢;exact .inr hx)
     refine ui (ev:=ja F) e1 e2 Qq h1 (qB h2) fun v r' w' H' hR g1 g2 g3=>?_
     rw[Act.put_eq];exact hn _ w' _ H' hR g1 ((h2.ext g3).put dst g2 []) g3
    split at h
    ·refine k8.mono (K:=fun F' H'=>gZ D P ops K rest F' H') ?_ fun F' H' hk=>vE rest F' H' hk
     obtain⟨dst,op,ty,pos,after,guard⟩:=o;unfold dR at h;split at h
     ·rename_i f args argTypes SX;cases SX;obtain⟨r,hc,hk⟩:=h;refine na hg hb (fun Qz w tm Q next h1 h2 hn=>?_) (fun Qz=>⟨_,oQ Qz,hk⟩);obtain⟨ok,Qq⟩:=hc Qz;have SH:=oe ok;have e1:ja F f=bA F f:=SH f (by simp[Op.operands,Call.operands]);have e2:args.toList.map (ja F)=args.toList.map (bA F):=List.map_congr_left fun x hx=>SH x (by simp[Op.operands,Call.operands]at hx ⊢;exact .inr hx)
      refine ui (ev:=ja F) e1 e2 Qq h1 (qB h2) fun v r' w' H' hR g1 g2 g3=>?_
      obtain⟨rfl,rfl⟩:=hR;rw[Act.put_eq];exact hn _ w' _ H' hk g1 ((h2.ext g3).put dst (qD Qz g2) []) g3
     ·rename_i f m args argTypes SX;cases SX;obtain⟨r,hc,hk⟩:=h;refine na hg hb (fun Qz w tm Q next h1 h2 hn=>?_) (fun Qz=>⟨_,oQ Qz,hk⟩);obtain⟨ok,Qq⟩:=hc Qz;have SH:=oe ok;have e1:ja F f=bA F f:=SH f (by simp[Op.operands,Call.operands]);have e2:args.toList.map (ja F)=args.toList.map (bA F):=List.map_congr_left fun x hx=>SH x (by simp[Op.operands,Call.operands]at hx ⊢;exact .inr hx)
      refine yV (ev:=ja F) e1 e2 Qq h1 (qB h2) fun v r' w' H' hR g1 g2 g3=>?_
      obtain⟨rfl,rfl⟩:=hR;rw[Act.put_eq];exact hn _ w' _ H' hk g1 ((h2.ext g3).put dst (qD Qz g2) []) g3
     ·rename_i c x y SX;simp only at SX;subst SX;obtain⟨hs,hk⟩:=h;refine na hg hb (fun Qz w tm Q next h1 h2 hn=>?_) (fun Qz=>⟨_,oQ Qz,hk⟩);obtain⟨ok,hq⟩:=hs Qz;obtain⟨v,C',hv⟩:=GS (P:=P) (ρ:=(Act.mk tm []).eval) (dst:=dst) (ty:=ty) (pos:=pos) (after:=after) (guard:=guard) (zU h2 c ok) (h2.eval [] x) (h2.eval [] y) hq;simp only[Oper.wp,C',Oper.upon];rw[Act.put_eq];exact hn _ w _ H hk h1 (h2.put dst (qD Qz hv) []) (Ext.refl w H)
     ·split at h
      ·obtain⟨hs,hk⟩:=h;refine na hg hb (fun Qz w tm Q next h1 h2 hn=>?_) (fun Qz=>⟨_,oQ Qz,hk⟩);obtain⟨ok,hq⟩:=hs Qz;rw[<-rb _ (oe ok)]at hq;obtain⟨v,C',hv⟩:=xz (ρ:=(Act.mk tm []).eval) ⟨dst,op,ty,pos,after,guard⟩ h1 (qB h2) hq;simp only[Oper.wp,C',Oper.upon];rw[Act.put_eq];rw[rb _ (oe ok)]at hv;exact hn _ w _ H hk h1 (h2.put dst (qD Qz hv) []) (Ext.refl w H)
      ·exact h.elim
    ·refine k8.mono (K:=fun F' H'=>gZ D P ops K rest F' H') ?_ fun F' H' hk=>vE rest F' H' hk
     refine na hg hb (fun Qz w tm Q next h1 h2 hn=>?_) (fun Qz=>⟨_,fun w=>.any _,h.2 Qz⟩);exact y7 (h.1 Qz) h1 h2 (fun x=>h2.eval [] x) hn
   ·exact h.elim
end
section
variable {D:PZ}{P:P6}{ops:Array Oper}{K:PS}
@[go_sem] def j42(F:PW)(H:Hp):gZ D P ops K [] F H=K F H:=(rfl)
@[go_sem] def j3C(dst:Option Tmp)(op:Op)(ty:P1)(pos:String)(after:Array Edge)(rest:List Oper)(F:PW)(H:Hp) :
  gZ D P ops K (⟨dst,op,ty,pos,after,none⟩::rest) F H=vc P (bw F) H ty (AP (fun r H'=>gZ D P ops K rest (bO F dst r) H') .mk) op:=(rfl)
def z8(P:P6)(F:PW)(H:Hp)(K:PT):Op->Prop
 |.call { callee:=.value f,args,.. }=>((jk (bw F f)).1=true/\oX F args.toList)/\dp P (bA F f) (args.toList.map (bA F)) H K
 |_=>False
@[go_sem] def j3u{F:PW}{H:Hp}{K:PT}(f:Operand)(zl:Array Operand)(ts:Array P1):z8 P F H K (.call ⟨.value f,zl,ts⟩)=(((jk (bw F f)).1=true/\oX F zl.toList)/\dp P (bA F f) (zl.toList.map (bA F)) H K):=(rfl)
def JQ{F:PW}{H:Hp}{K:PT}{op:Op}(h:fV op=true):(eO F op=true/\yI P (bA F) H K op)=z8 P F H K op:=by
 cases op<;>first|(cases h;done)|skip
 rename_i c;obtain⟨callee,args,ts⟩:=c;cases callee<;>first|(cases h;done)|skip
 rename_i f;rw[B8];rfl
@[go_sem] def j1p(t:Nat)(op:Op)(ty:P1)(pos:String)(after:Array Edge)(j:Nat)(want:Bool)(rest:List Oper)(F:PW)(H:Hp) :
  gZ D P ops K (⟨some t,op,ty,pos,after,some (j,want)⟩::rest) F H=pu (jV ops F j want) (fun b=>ng (D.contains t && fV op)
   (o6 b (z8 P F H (AP (fun r H'=>gZ D P ops K rest (bO F (some t) r) H') .mk) op) (gZ D P ops K rest (bO F (some t) (.gd false (.raw (.bool false)))) H) .mk .mk)
   (ng (fV op || fN op) (dR P F H b (tu (fun r=>gZ D P ops K rest (bO F (some t) r) H) .mk) op)
    ((b=true->vc P (bw F) H ty (AP (fun r H'=>gZ D P ops K rest (bO F (some t) r) H') .mk) op)/\(b=false->gZ D P ops K rest (bO F (some t) .any) H)) .mk .mk) .mk .mk) .mk:=by
 conv=>lhs;unfold gZ
 simp only;unfold pu ng o6 yP;cases jV ops F j want with
 |none=>rfl
 |some b=>
  simp only;by_cases hc:(D.contains t && fV op)=true
  ·rw[if_pos hc,if_pos hc];have hv:fV op=true:=by simp only[Bool.and_eq_true]at hc;exact hc.2
   rw[<-JQ hv];rfl
  ·rw[if_neg hc,if_neg hc];rfl
end
def sS{P:P6}{id:Nat}{l:List Oper}{Q:Exit->PS}{F:PW}{H:Hp}(D:PZ)(h:q)(e:gZ D P l.toArray (Q .normal) l F H=q:=by exact ey):cz P (.region id l.toArray false) Q F H:=
 CR (by simpa using vE l F H (e ▸ h))
def cn{b:Bool}{X Y X' Y' pt pf:Prop}{d:fz X}{d':fz Y}(ht:pt->X')(hf:pf->Y')
 (et:(b=true)=pt:=by first|(simp only[Int.reduceEq,Int.reduceLE,Int.reduceLT,Int.reduceNe,false_and,and_false,true_and,and_true,or_false,false_or,true_or,or_true,Bool.false_eq_true,Bool.true_eq_false,eq_self,reduceCtorEq,Bool.not_true,Bool.not_false,Bool.and_eq_true,Bool.or_eq_true,Bool.and_eq_false_iff,Bool.or_eq_false_iff,decide_eq_true_eq,decide_eq_false_iff_not,Bool.not_eq_true',Bool.not_eq_false',Int.not_lt,Int.not_le];rfl)|rfl) (ef:(b=false)=pf:=by first|(simp only[Int.reduceEq,Int.reduceLE,Int.reduceLT,Int.reduceNe,false_and,and_false,true_and,and_true,or_false,false_or,true_or,or_true,Bool.false_eq_true,Bool.true_eq_false,eq_self,reduceCtorEq,Bool.not_true,Bool.not_false,Bool.and_eq_true,Bool.or_eq_true,Bool.and_eq_false_iff,Bool.or_eq_false_iff,decide_eq_true_eq,decide_eq_false_iff_not,Bool.not_eq_true',Bool.not_eq_false',Int.not_lt,Int.not_le];rfl)|rfl) (eX:X=X':=by exact ey) (eY:Y=Y':=by exact ey):o6 b X Y d d':=⟨fun h=>eX ▸ ht (et ▸ h),fun h=>eY ▸ hf (ef ▸ h)⟩
def AF(A:AS)(l0:PV):List P8->Prop
 |[]=>True
 |(i,r)::l=>(A.1.contains i=true\/aB l0 i=some r)/\AF A l0 l
theorem E6{A:AS}{l0:PV}:∀{l:PV},AF A l0 l->∀{i:Nat},(ids l).contains i=true->A.1.contains i=true\/∃r,aB l i=some r/\aB l0 i=some r
 |[],_,i,h=>by simp[ids]at h
 |(j,r)::l,hk,i,h=>by
  by_cases e:i=j
  ·subst e;rcases hk.1 with g|g
   ·exact .inl g
   ·exact .inr ⟨r,by simp[aB],g⟩
  ·have h:(ids l).contains i=true:=by
    simp only[ids,List.map_cons,List.contains_cons,Bool.or_eq_true,beq_iff_eq]at h;rcases h with h|h
    ·exact(e h).elim
    ·exact h
   rcases E6 hk.2 h with g|⟨s,g1,g2⟩
   ·exact .inl g
   ·exact .inr ⟨s,by simp only[aB,if_neg e];exact g1,g2⟩
def EC{P:P6}{A:AS}{H:Hp}{args:PW}{g:PT}{d:fz fun r H'=>c8 A H H'/\g r H'}{l0:PV}(hc:af P f args l fun r l'=>r=r0/\l'=l0)(k:q)(hA:AF A l0 l:=by(repeat' (first|exact jI|exact Or.inl rfl|exact Or.inr rfl|refine jA ?_ ?_)))(h1:fits l H:=by exact dj)(h0:aQ P f=true:=by exact dj)(h2:aU (fun i=>(ids l).contains i) args=true:=by exact dj)(h3:pO (fun i=>(ids l).contains i) l:=by exact dj)
 (h4:fresh (ids l) H l0:=by exact dj) (h5:(ids l0).Nodup:=by exact dj) (e:g r0 ⟨H.B,jm H.l l0⟩=q:=by exact ey):dp P (.raw (.func (.func f) #[] #[])) args H (AP (fun r H'=>c8 A H H'/\g r H') d):=
 have hx:c8 A H ⟨H.B,jm H.l l0⟩:=fun i r hi hr=>by
  left
  show aB (jm H.l l0) i=some r;rw[qY _ _ _ (fun _ _ _=>trivial) h5];cases e':aB l0 i with|none=>exact hr|some x=>
   rcases we h4 i x e' with h|h
   ·rcases E6 hA h with g|⟨s,g1,g2⟩
    ·rw[g]at hi;cases hi
    ·rw[g2]at e';cases e';rw[Ai h1 i _ g1]at hr;cases hr;rfl
   ·rw[hr]at h;cases h
 ko h0 (tN (K:=AP (fun r H'=>c8 A H H'/\g r H') d) hc h1 h2 h3 h4 h5 ⟨hx,e ▸ k⟩)
variable {P:P6}{H:Hp}
def Gn{e:P1}{d:Nat}{x:AV}{c:Prop}{css ys:PU}(k:q)(hd:H.get d=some (.aG e sz css):=by(simp(disch:=first|omega|assumption|fail) only[go_sem,qc,↓reduceIte,Int.reduceEq,Int.reduceLE,Int.reduceLT,Int.reduceNe,Int.reduceToNat,Nat.reduceMul,Nat.reduceAdd,Nat.reduceLeDiff,Nat.reduceSub,Nat.reduceEqDiff,Nat.reduceBEq,List.nodup_cons,List.nodup_nil,List.mem_cons,List.not_mem_nil,List.mem_nil_iff];first|rfl|exact⟨rfl,rfl⟩|exact⟨rfl,rfl,rfl⟩))(ht:gk P t=some e:=by first|(simp only[go_sem];done)|(simp only[go_sem];rfl))(VE:cW P e=some sz:=by(simp only[go_sem];done))(Xg:dU P e=some zs:=by first|(simp only[go_sem];done)|(simp only[go_sem];rfl))(SR:zs.length=sz:=by rfl)(h0:0<sz:=by decide)(hn:css.length=n:=by first|rfl|exact List.length_replicate|exact dj)(U9:o9 H x=some (c,ys):=by rfl)(hc:c:=by trivial)(hg:gh sz ys:=by exact dj)(Vi:ys.length<=n:=by first|assumption|(simp only[List.length_map];omega)|exact dj)
  (he:K (.raw (.int .i64 (ys.length:Nat))) (H.put d (.aG e sz (fW css 0 ys)))=q:=by exact ey):pk P .copy [t,t] [.rs d n sz n,x] H K:=by
 subst hn;have hk:=he ▸ k;intro w vs ty cs hw hr;obtain⟨vd,vx,rfl⟩:∃vd vx,vs=[vd,vx]:=by
  have:=hr.1;match vs,this with
  |[vd,vx],_=>exact⟨vd,vx,rfl⟩
 have hu:=zt ht;obtain⟨i,z,hi,Re,UM,VF,WS⟩:=GF VE Xg SR;obtain⟨A',cx,news,rfl,Rr,RQ⟩:=C8 hw (hr.2 1 _ vx rfl rfl) U9 hc hg;have UL:az w (.rs d css.length sz css.length) vd:=hr.2 0 _ vd rfl rfl;have RN:ys.flatten.length=ys.length*sz:=j6 fun y hy=>(hg y hy).1
 have Tp:news.length=ys.length*sz:=by rw[<-Rr.1,RN]
 have TS:cM ys.flatten=true:=by simp only[cM,List.all_eq_true];intro u Xh;obtain⟨y,hy,Xi⟩:=List.mem_flatten.1 Xh;have:=(hg y hy).2;simp only[cM,List.all_eq_true]at this;exact this u Xi
 have hf:(Builtin.firstCells i.size ys.length (.slice A' ys.length cx)).run P w.toWorld=.ok news.toArray w.toWorld:=by
  by_cases h0:ys.length=0
  ·have:news=[]:=by have:=Tp;rw[h0,Nat.zero_mul]at this;simpa using this
   subst this;rw[h0];cases A'<;>simp[Builtin.firstCells,loadCells,loadCellsFrom]
  ·obtain⟨ad,rfl,I'⟩:=RQ jB;exact run_firstCells_some (P:=P) w.toWorld i.size ys.length ad ys.length cx news (by rw[Re];exact Tp) I'
 rw[Re]at hf;have hok:=(hw.rows d _ hd).1;have RA:∀cs∈fW css 0 ys,cs.length=sz:=fun cs h=>by
  unfold fW at h;rcases List.mem_append.1 h with h|h
  ·rcases List.mem_append.1 h with h|h
   ·exact hok.2 _ (List.mem_of_mem_take h)
   ·exact(hg cs h).1
  ·exact hok.2 _ (List.mem_of_mem_drop h)
 have Tr:=j6 hok.2;have Q4:=BH (css:=css) ys (Nat.zero_le _);have Y2:Nat.min ys.length css.length=ys.length:=Nat.min_eq_left Vi;generalize hN:css.length=N at UL;cases UL with
 |kH _ _ _ A Qx=>
  have Rg:ys=[]:=List.length_eq_zero_iff.1 jB;subst Rg;refine⟨w,_,_,.int .i64 0,?_,hk,?_,.raw _,?_⟩
  ·have Yq:news=[]:=by simpa using Tp
   subst Yq;have hN':Nat.min ([]:PU).length 0=0:=rfl;have hf:(Builtin.firstCells sz 0 (.slice A' 0 cx)).run P w.toWorld=.ok #[] w.toWorld:=hf;cases A<;>simp[builtin,Builtin.copy_,run_underlying hu,Builtin.lenOf,sizeOf,typeInfo,hi,Re,hf,storeCells,goInt]
  ·refine{ hw with rows:=fun j r hj=>?_,dS:=fun j q z hz=>?_ }
   ·rw[Hp.cf]at hj;split at hj
    ·rename_i e;subst e;exact hw.rows j r (by rw[hd];exact hj)
    ·exact hw.rows j r hj
   ·rw[Hp.cf];split
    ·rename_i e;subst e;obtain⟨r,g1,g2⟩:=hw.dS j q z hz;rw[hd]at g1;cases g1;exact⟨_,rfl,g2⟩
    ·exact hw.dS j q z hz
  ·exact{ Ext.refl w H with base:=rfl }
 |rs _ _ _ _ b t' cap Qx R7 P' RH=>
  subst hN;obtain⟨_,z',Rq,Qw⟩:=hw.rows d _ hd;have:z'=.at b t' sz:=by have Rq:w.nm d css.length=some z':=Rq;rw[Qx]at Rq;cases Rq;rfl
  subst this;obtain⟨_,cur,hh,⟨Ru,Qi⟩,TE⟩:=Qw;have Qi:css.flatten.length<=t':=Qi;have SY:css.length<=cap:=by rw[Tr,<-R7]at Qi;exact Nat.le_of_mul_le_mul_right Qi h0
  have Sj:0+ys.flatten.length<=t':=by rw[RN,Nat.zero_add,<-R7];exact Nat.mul_le_mul_right _ (Nat.le_trans Vi SY)
  obtain⟨w',C',g1,g2,g3⟩:=xr (P:=P) (off:=0) (r':=.aG e sz (fW css 0 ys)) hw hd Qx Rr TS Sj rfl rfl rfl rfl (by show css.length<=(fW css 0 ys).length;rw[Q4];omega) ⟨h0,RA⟩ (by show(fW css 0 ys).flatten.length<=t';rw[j6 RA,Q4,<-R7];exact Nat.mul_le_mul_right _ (Nat.max_le.2 ⟨SY,jB⟩)) (fun p u hp=>by
   have hp:(fW css 0 ys).flatten[p]?=some u:=hp;unfold fW at hp;rw[List.flatten_append,List.flatten_append]at hp;show if _ then _ else css.flatten[p]?=some u
   simp only[List.take_zero,List.flatten_nil,List.nil_append,Nat.zero_add]at hp;rcases Nat.lt_or_ge p (0+ys.flatten.length)with h'|h'
   ·rw[if_pos ⟨Nat.zero_le _,h'⟩];rw[List.getElem?_append_left jB]at hp;exact hp
   ·rw[jN];rw[List.getElem?_append_right jB]at hp;have e2:css.flatten=(css.take ys.length).flatten++(css.drop ys.length).flatten:=by rw[<-List.flatten_append,List.take_append_drop]
    have e3:(css.take ys.length).flatten.length=ys.flatten.length:=by rw[j6 fun c hc=>hok.2 c (List.mem_of_mem_take hc),List.length_take,Nat.min_eq_left Vi,RN]
    rw[e2,List.getElem?_append_right jB,e3];exact hp)
  refine⟨w',_,_,.int .i64 ys.length,?_,hk,g1,.raw _,g2⟩;simp[builtin,Builtin.copy_,run_underlying hu,Builtin.lenOf,sizeOf,typeInfo,hi,Re,Y2,hf,C',goInt]
def MZ{P:P6}{ev:P2}{H:Hp}(i:Nat){et:P1}{l c:Operand}(k:q)(hl:ev l=.raw (.int .i64 (n:Int)):=by rfl)(hc:ev c=.raw (.int .i64 (n:Int)):=by rfl)(ht:gk P t=some et:=by(simp only[go_sem];rfl))(hs:cW P et=some sz:=by(simp only[go_sem];rfl))(hz:dU P et=some zs:=by(simp only[go_sem];rfl))(SR:zs.length=sz:=by rfl)(h0:0<sz:=by decide)(hr:room (im P et) n:=by(simp only[go_sem];omega))(hi:H.get i=none:=by first|rfl|exact dj)
  (e:K (.rs i n sz n) (H.put i (.aG et sz (List.replicate n (zs.map .raw))))=q:=by exact ey):gp P (.makeSlice t l c) ty ev H K:=A3 i k hl hc ht hs hz SR h0 hr hi e
def LS{args:PW}{R:AV->Prop}(hc:af P f args l fun r l'=>r=r0/\l'=l)(k:q)(h1:fits l H:=by exact dj)(h0:aQ P f=true:=by exact dj)(h2:aU (fun i=>(ids l).contains i) args=true:=by exact dj)(h3:pO (fun i=>(ids l).contains i) l:=by exact dj)
 (h4:fresh (ids l) H l:=by exact dj) (h5:(ids l).Nodup:=by exact dj) (he:(⟨H.B,jm H.l l⟩:Hp)=H:=by exact ey) (e:R r0=q:=by exact ey):∃r,(dp P (.raw (.func (.func f) #[] #[])) args H fun r' H'=>r'=r/\H'=H)/\R r:=⟨r0,ko h0 (tN hc h1 h2 h3 h4 h5 ⟨rfl,he⟩),e ▸ k⟩
@[reducible] def NW.push(f g:Nat->Nat)(w:NW):NW:={ w with nm:=fun j m=>if f (g j)=j then w.nm (g j) m else none }
section
variable {P:P6}{f:FuncId}{args fs:PW}{H:Hp}{K:PT}{q:Prop}
end
section
variable {P:P6}{H:Hp}
end
-- values that are alike, as far as it is looked
def xc:Value->Value->Bool
 |.int k a,.int k' b=>decide (k=k') && decide (a=b)
 |.string a,.string b=>decide (a=b)
 |.bool a,.bool b=>a == b
 |.slice none a b,.slice none c d=>decide (a=c) && decide (b=d)
 |.pointer none,.pointer none=>true
 |_,_=>false
def CU{a b:Value}(h:xc a b=true):a=b:=by unfold xc at h;split at h<;>simp_all
mutual
def kf:AV->AV->Bool
 |.raw a,.raw b=>xc a b
 |.any,.any=>true
 |.agg a,.agg b=>lV a b
 |.bt a,.bt b=>lV a b
 |.sl x s c d,.sl y t e f=>x == y && s == t && tX c e && lV d f
 |.ip a,.ip b=>lV a b
 |.dW f a,.dW g b=>f == g && lV a b
 |.pt i m k j,.pt i' m' k' j'=>i == i' && m == m' && k == k' && j == j'
 |.rs i m k j,.rs i' m' k' j'=>i == i' && m == m' && k == k' && j == j'
 |.bd f a,.bd g b=>f == g && lV a b
 |.iz t a,.iz u b=>t == u && kf a b
 |.mr i,.mr j=>i == j
 |_,_=>false
def lV:PW->PW->Bool
 |[],[]=>true
 |a::l,b::m=>kf a b && lV l m
 |_,_=>false
def tX:PU->PU->Bool
 |[],[]=>true
 |a::l,b::m=>lV a b && tX l m
 |_,_=>false
end
mutual
theorem Ab:∀(a b:AV),kf a b=true->a=b
 |.raw a,b,h=>by cases b<;>simp_all [kf];exact CU h
 |.any,b,h=>by cases b<;>simp_all [kf]
 |.agg a,b,h=>by cases b<;>simp_all [kf];exact mY _ _ h
 |.bt a,b,h=>by cases b<;>simp_all [kf];exact mY _ _ h
 |.sl x s c d,b,h=>by cases b<;>simp_all [kf];exact⟨BD _ _ h.1.2,mY _ _ h.2⟩
 |.ip a,b,h=>by cases b<;>simp_all [kf];exact mY _ _ h
 |.gd p a,b,h=>by cases b<;>simp_all [kf]
 |.dW f a,b,h=>by cases b<;>simp_all [kf];exact mY _ _ h.2
 |.pt i m k j,b,h=>by cases b<;>simp_all [kf]
 |.rs i m k j,b,h=>by cases b<;>simp_all [kf]
 |.rv i m k j n,b,h=>by cases b<;>simp_all [kf]
 |.mr i,b,h=>by cases b<;>simp_all [kf]
 |.bd f a,b,h=>by cases b<;>simp_all [kf];exact mY _ _ h.2
 |.iz t a,b,h=>by cases b<;>simp_all [kf];exact Ab _ _ h.2
 |.mv m a,b,h=>by cases b<;>simp_all [kf]
theorem mY:∀(a b:PW),lV a b=true->a=b
 |[],b,h=>by cases b<;>simp_all [lV]
 |x::l,b,h=>by cases b<;>simp_all [lV];exact⟨Ab _ _ h.1,mY _ _ h.2⟩
theorem BD:∀(a b:PU),tX a b=true->a=b
 |[],b,h=>by cases b<;>simp_all [tX]
 |x::l,b,h=>by cases b<;>simp_all [tX];exact⟨mY _ _ h.1,BD _ _ h.2⟩
end
def vN:P4->P4->Bool
 |[],[]=>true
 |a::l,b::m=>xc a b && vN l m
 |_,_=>false
theorem E0:∀{l m:P4},vN l m=true->l=m
 |[],m,h=>by cases m<;>simp_all [vN]
 |x::l,m,h=>by
  cases m with
  |nil=>cases h
  |cons y m=> simp only[vN,Bool.and_eq_true]at h;rw[CU h.1,E0 h.2]
def uP:Row->Row->Bool
 |.mp k a,.mp l b=>vN k l && lV a b
 |.var t a,.var u b=>t == u && lV a b
 |.aG e s a,.aG f t b=>e == f && s == t && tX a b
 |_,_=>false
def CC{a b:Row}(h:uP a b=true):a=b:=by
 cases a<;>cases b<;>simp_all [uP]
 ·exact mY _ _ h.2
 ·exact BD _ _ h.2
 ·exact⟨E0 h.1,mY _ _ h.2⟩
def tA:List P8->List P8->Bool
 |[],[]=>true
 |(i,r)::l,(j,s)::m=>i == j && uP r s && tA l m
 |_,_=>false
theorem DR:∀{l m:PV},tA l m=true->l=m
 |[],m,h=>by cases m<;>simp_all [tA]
 |(i,r)::l,m,h=>by
  cases m with
  |nil=>simp[tA]at h
  |cons y m=> obtain⟨j,s⟩:=y;simp only[tA,Bool.and_eq_true,beq_iff_eq]at h;rw[h.1.1,CC h.1.2,DR h.2]
-- what quiet operations ask
def dP(q:PA)[Decidable q.1]:Option AV:=if q.1 then some q.2 else none
variable{r:AV}
def zK{q:PA}[Decidable q.1](h:dP q=some r):q.1/\q.2=r:=by
 unfold dP at h;split at h
 ·rename_i h1;exact⟨h1,by simpa using h⟩
 ·cases h
instance {c a b:AV}:Decidable (jY c a b).1:=by unfold jY;split<;>(simp only[dJ];infer_instance)
instance {P:Program}{a:AV}:Decidable (l4 P a).1:=by unfold l4;split<;>(simp only[dJ];infer_instance)
instance {op:BinOp}{k k':IntKind}{a b:Int}:Decidable (tP op k a k' b).1:=by unfold tP;split<;>(simp only[dJ];infer_instance)
instance {op:BinOp}{a b:ByteArray}:Decidable (si op a b).1:=by unfold si;split<;>(simp only[dJ];infer_instance)
instance {P:Program}{ne:Bool}{t:TypeId}{a b:AV}:Decidable (rp P ne t a b).1:=by
 unfold rp;split
 case h_9=>split<;>(simp only[dJ];infer_instance)
 all_goals(simp only[dJ];infer_instance)
instance {P:Program}{op:BinOp}{t:TypeId}{a b:AV}:Decidable (dX P op t a b).1:=by
 unfold dX;split
 ·infer_instance
 ·infer_instance
 ·split<;>first|infer_instance|(simp only[dJ];infer_instance)
instance {op:UnOp}{a:AV}:Decidable (nO op a).1:=by unfold nO;split<;>(simp only[dJ];infer_instance)
instance {P:Program}{t:TypeId}{a:AV}{f:Nat}:Decidable (mK P t a f).1:=by unfold mK;split<;>(simp only[dJ];infer_instance)
instance {P:Program}{t:TypeId}{cs:List AV}{off:Nat}:Decidable (tc P t cs off).1:=by unfold tc;split<;>(simp only[dJ];infer_instance)
instance {P:Program}{t:TypeId}{a:AV}{f:Nat}:Decidable (nP P t a f).1:=by unfold nP;split<;>first|infer_instance|(simp only[dJ];infer_instance)
instance {o:Option (Nat×Nat)}{i:Int}{f:Nat->AV}:Decidable (tE o i f).1:=by unfold tE;split<;>(simp only[dJ];infer_instance)
instance {P:Program}{t:TypeId}{a b:AV}:Decidable (mJ P t a b).1:=by unfold mJ;split<;>first|infer_instance|(simp only[dJ];infer_instance)
instance {P:Program}{t:TypeId}{a b:AV}:Decidable (nR P t a b).1:=by unfold nR;split<;>(simp only[dJ];infer_instance)
instance {a:AV}{i:Nat}:Decidable (pG a i).1:=by unfold pG;split<;>(simp only[dJ];infer_instance)
instance {P:Program}{t:TypeId}{a:AV}{x y z:Option AV}:Decidable (nE P t a x y z).1:=by unfold nE;split<;>(simp only[dJ];infer_instance)
instance {fn:Fn}{a b:List AV}:Decidable (po fn a b).1:=by unfold po;split<;>(simp only[dJ];infer_instance)
instance {P:Program}{t:TypeId}{a:AV}:Decidable (pT P t a).1:=by unfold pT;split<;>(simp only[dJ];infer_instance)
instance {P:Program}{s t:TypeId}{a:AV}:Decidable (pw P s t a).1:=by unfold pw;split<;>(simp only[dJ];infer_instance)
instance {P:Program}{t:TypeId}{l:List (Nat×AV)}:Decidable (o8 P t l).1:=by
 unfold o8;split
 ·split<;>(simp only[dJ];infer_instance)
 ·simp only[dJ];infer_instance
instance {P:Program}{H:Hp}{t:TypeId}{a:AV}:Decidable (pc P H t a).1:=by
 unfold pc;split
 ·split
  ·split<;>(simp only[dJ];infer_instance)
  ·simp only[dJ];infer_instance
 all_goals(simp only[dJ];infer_instance)
instance {P:Program}{t:TypeId}{a:AV}:Decidable (sN P t a).1:=by unfold sN;split<;>(simp only[dJ];infer_instance)
instance {b:Bool}{l:List AV}:Decidable (rH b l).1:=by unfold rH;split<;>(simp only[dJ];infer_instance)
instance {P:Program}{H:Hp}{b:Builtin}{ts:List TypeId}{l:List AV}:Decidable (jU P H b ts l).1:=by unfold jU;split<;>first|infer_instance|(simp only[dJ];infer_instance)
def cB(H:Hp):AV->Option PW
 |.ip cs=>some cs
 |.pt i m k j=>match H.get i with
  |some (.var _ cs)=>if m=0 then some (cs.drop j)else none
  |some (.aG _ _ css)=>if m=css.length/\k<css.length then some ((css.getD k []).drop j)else none
  |_=>none
 |_=>none
variable{H:Hp}{a:AV}
def G7{cs:PW}(h:cB H a=some cs):∃c:Prop,c/\mC H a=some (c,cs):=by
 unfold cB at h;unfold mC;split at h
 ·cases h;exact⟨_,trivial,rfl⟩
 ·split at h
  ·rename_i e;split at h<;>cases h;rename_i hm;exact⟨_,hm,by simp only[e]⟩
  ·rename_i e;split at h<;>cases h;rename_i hm;exact⟨_,hm,by simp only[e]⟩
  ·cases h
 ·cases h
def By(P:P6)(H:Hp)(t:P1)(a:AV):Option AV:=match cB H a,dK P t,cW P t with
 |some cs,some ag,some k=>if k<=cs.length/\1<=cs.length then some (pB ag k cs)else none
 |_,_,_=>none
variable{P:P6}{t:P1}
def HB(h:By P H t a=some r):(kL P H t a).1/\(kL P H t a).2=r:=by
 unfold By at h;split at h
 ·rename_i cs ag k e1 e2 e3;obtain⟨c,hc,e⟩:=G7 e1;split at h<;>cases h;rename_i hk;unfold kL;try simp only[e,e2,e3]
  cases ag
  ·exact⟨⟨hc,hk⟩,rfl⟩
  ·exact⟨⟨hc,hk⟩,rfl⟩
 ·cases h
def xq(P:P6)(ev:P2)(H:Hp):Op->Option AV
 |.move x=>some (ev x)
 |.assign x=>some (ev x)
 |.pick c a b=>dP (jY (ev c) (ev a) (ev b))
 |.nilCheck x=>dP (l4 P (ev x))
 |.binOp op t x y _=>dP (dX P op t (ev x) (ev y))
 |.unOp op _ x=>dP (nO op (ev x))
 |.load t a=>By P H t (ev a)
 |.fieldAddr t a f=>dP (mK P t (ev a) f)
 |.field t a f=>dP (nP P t (ev a) f)
 |.indexAddr t a i=>dP (mJ P t (ev a) (ev i))
 |.index t a i=>dP (nR P t (ev a) (ev i))
 |.extract a i=>dP (pG (ev a) i)
 |.slice t a lo hi mx=>dP (nE P t (ev a) (lo.map ev) (hi.map ev) (mx.map ev))
 |.makeFunc fn first captured=>dP (po fn (first.toList.map ev) (captured.toList.map ev))
 |.makeInterface t x=>dP (pT P t (ev x))
 |.convert s d x=>dP (pw P s d (ev x))
 |.build t parts=>dP (o8 P t (parts.toList.map fun p=>(p.1,ev p.2)))
 |.call { callee:=.builtin b,args,argTypes }=>dP (jU P H b argTypes.toList (args.toList.map ev))
 |_=>none
variable{o:Op}
def yW{ev:P2}(h:xq P ev H o=some r):(vq P ev H o).1/\(vq P ev H o).2=r:=by
 unfold xq at h;split at h
 case h_1=>cases h;exact⟨trivial,rfl⟩
 case h_2=>cases h;exact⟨trivial,rfl⟩
 case h_7=>exact HB h
 case h_19=>cases h
 all_goals(have h2:=zK h;exact h2)
abbrev XC:=FuncId->PW->Hp->Option (AV×Hp)
def mh(P:P6)(c:XC):Prop:=∀f args H r H',c f args H=some (r,H')->∀K:PT,K r H'->aQ P f=true/\cw P f args H K
def rn(c:XC)(a:AV)(args:PW)(H:Hp):Option (AV×Hp):=match uD a with
 |some (f,x,y)=>c f (x++args++y) H
 |none=>none
variable{K:PT}
def uh{c:XC}(hc:mh P c){args:PW}{x:AV×Hp}(h:rn c a args H=some x)(k:K x.1 x.2):dp P a args H K:=by
 unfold rn at h;unfold dp;split at h
 ·rename_i e;try simp only[e]
  exact .inl (hc _ _ _ _ _ h K k)
 ·cases h
def wT(P:P6)(c:XC)(a:AV)(m:String)(args:PW)(H:Hp):Option (AV×Hp):=match a with
 |.iz t v=>match mf P t m with
  |some f=>c f (v::args) H
  |none=>none
 |_=>none
def DK{c:XC}(hc:mh P c){m:String}{args:PW}{x:AV×Hp}(h:wT P c a m args H=some x)(k:K x.1 x.2):nk P a m args H K:=by
 unfold wT at h;unfold nk;split at h
 ·split at h
  ·rename_i e;try simp only[e]
   exact ko (hc _ _ _ _ _ h K k).1 (hc _ _ _ _ _ h K k).2
  ·cases h
 ·cases h
instance {r:Row}{m k j n:Nat}:Decidable (sf r m k j n):=by unfold sf;split<;>infer_instance
def A8(P:P6)(H:Hp)(t:P1)(a x:AV):Option (AV×Hp):=match a,cW P t with
 |.pt i m k j,some n=>match H.get i with
  |some r=>if cM x.cells=true/\x.cells.length=n/\sf r m k j n then some (.any,H.put i (uT r k j x.cells))else none
  |none=>none
 |_,_=>none
variable{x:AV}{y:AV×Hp}
def Py(h:A8 P H t a x=some y)(k:K y.1 y.2):qa P H t a x K:=by
 unfold A8 at h;unfold qa;split at h
 ·rename_i e0;split at h
  ·rename_i e;split at h<;>cases h;try simp only[e0,e]
   exact⟨by assumption,k⟩
  ·cases h
 ·cases h
instance decLit{sz:Nat}:∀{k:Nat} {l:List (Nat×AV)},Decidable (p9 sz k l)
 |_,[]=>isTrue trivial
 |k,(i,a)::rest=>by unfold p9;have:=decLit (sz:=sz) (k:=k+1) (l:=rest);infer_instance
def rW(own:Bool)(P:P6)(H:Hp)(t:P1)(n:Nat)(parts:List (Nat×AV)):Option (AV×Hp):=match gk P t with
 |some e=>match cW P e with
  |some sz=>if parts.length=n/\p9 sz 0 parts/\n*sz<=16777216/\(n*sz=0\/(dU P e).isSome=true)then
    (if own=true then(if 0<sz then some (.rs (nx H.l) (iD parts).length sz (iD parts).length,H.put (nx H.l) (.aG e sz (iD parts)))else none)
     else if aU cV (iD parts).flatten=true then some (.sl true sz (iD parts) [],H)else none)else none
  |none=>none
 |none=>none
def qS(H:Hp):H.get (nx H.l)=none:=(As H.l 0 (nx H.l) jl).1
variable{n:Nat}{parts:List (Nat×AV)}
def GC{own:Bool}(h:rW own P H t n parts=some y)(k:K y.1 y.2):lu P H t n parts K:=by
 unfold rW at h;unfold lu;split at h
 ·rename_i e;split at h
  ·rename_i e';split at h
   ·rename_i hc;try simp only[e,e']
    refine⟨hc,?_⟩;split at h
    ·split at h<;>cases h
     exact .inr ⟨by assumption,_,qS H,k⟩
    ·split at h<;>cases h
     exact .inl ⟨by assumption,k⟩
   ·cases h
  ·cases h
 ·cases h
def Jw(h:rW false P H t n parts=some y)(k:K y.1 y.2):mb P t n parts fun r=>K r H:=by
 unfold rW at h;unfold mb;split at h
 ·rename_i e;split at h
  ·rename_i e';split at h
   ·rename_i hc;try simp only[e,e']
    rw[if_neg Bool.false_ne_true]at h;split at h<;>cases h;exact⟨⟨hc,by assumption⟩,k⟩
   ·cases h
  ·cases h
 ·cases h
def wg(P:P6)(ne:Bool)(t:P1)(x y:AV):Option AV:=match x,y with
 |.sl _ _ css _,.raw (.slice none 0 0)=>if ga P t=true/\¬css=[]then some (.raw (.bool (ne ^^ false)))else none
 |.rs _ _ _ n,.raw (.slice none 0 0)=>if ga P t=true/\¬n=0 then some (.raw (.bool (ne ^^ false)))else none
 |x,y=>dP (dX P (if ne then .neq else .eql) t x y)
def B6{ne:Bool}{y:AV}(h:wg P ne t x y=some r)(k:K r H):ns P ne t x y H K:=by
 unfold wg at h;unfold ns;split at h
 ·split at h<;>cases h
  rename_i hc;refine⟨hc.1,fun b hb=>?_⟩;cases b
  ·exact k
  ·exact(hc.2 (hb rfl)).elim
 ·split at h<;>cases h
  rename_i hc;refine⟨hc.1,fun b hb=>?_⟩;cases b
  ·exact k
  ·exact(hc.2 (hb rfl)).elim
 ·obtain⟨h1,h2⟩:=zK h;rename_i n1 n2;split
  ·exact(n1 _ _ _ _ rfl rfl).elim
  ·exact(n2 _ _ _ _ rfl rfl).elim
  ·exact⟨h1,h2 ▸ k⟩
def yh(P:P6)(H:Hp)(t:P1)(l c:AV):Option (AV×Hp):=match l,c,gk P t with
 |.raw (.int .i64 n),.raw (.int .i64 n'),some e=>match cW P e,dU P e with
  |some sz,some zs=>if n=(n.toNat:Int)/\n'=(n.toNat:Int)/\zs.length=sz/\0<sz/\(n.toNat*im P e<=140737488355328/\n.toNat<=9223372036854775807)then
    some (.rs (nx H.l) n.toNat sz n.toNat,H.put (nx H.l) (.aG e sz (List.replicate n.toNat (zs.map .raw))))else none
  |_,_=>none
 |_,_,_=>none
variable{ty:P1}
def G9{ev:P2}{l c:Operand}(h:yh P H t (ev l) (ev c)=some y)(k:K y.1 y.2):gp P (.makeSlice t l c) ty ev H K:=by
 unfold yh at h;split at h
 ·rename_i n n' e e1 e2 e3;split at h
  ·rename_i sz zs e4 e5;split at h<;>cases h;rename_i hc;obtain⟨h1,h2,h3,h4,h5⟩:=hc;exact A3 (nx H.l) k (n:=n.toNat) (by rw[e1];exact congrArg (fun x=>AV.raw (.int .i64 x)) h1) (by rw[e2];exact congrArg (fun x=>AV.raw (.int .i64 x)) h2) e3 e4 e5 h3 h4 h5 (qS H) rfl
  ·cases h
 ·cases h
def xN(H:Hp):AV->Option PU
 |.sl _ _ css _=>some css
 |.rs i m sz n=>match H.get i with
  |some (.aG _ sz' css)=>if sz'=sz/\m=css.length/\n<=m then some (css.take n)else none
  |_=>none
 |.rv i m sz o n=>match H.get i with
  |some (.aG _ sz' css)=>if sz'=sz/\m=css.length/\o+n<=m then some ((css.drop o).take n)else none
  |_=>none
 |.raw (.slice none 0 0)=>some []
 |_=>none
def F9{css:PU}(h:xN H a=some css):∃c:Prop,c/\o9 H a=some (c,css):=by
 unfold xN at h;unfold o9;split at h
 ·cases h;exact⟨_,trivial,rfl⟩
 ·split at h
  ·rename_i e;split at h<;>cases h;rename_i hm;exact⟨_,hm,by simp only[e]⟩
  ·cases h
 ·split at h
  ·rename_i e;split at h<;>cases h;rename_i hm;exact⟨_,hm,by simp only[e]⟩
  ·cases h
 ·cases h;exact⟨_,trivial,rfl⟩
 ·cases h
instance {b n:Nat}:Decidable (room b n):=by unfold room;infer_instance
instance {sz:Nat}{css:List (List AV)}:Decidable (gh sz css):=by unfold gh;infer_instance
def A5(b:Nat)(e:P1)(sz:Nat)(ys:PU)(a:AV)(H:Hp):Option (AV×Hp):=match a with
 |.rs i m sz' n=>match H.get i with
  |some (.aG e' sz'' css)=>if e'=e/\sz'=sz/\sz''=sz/\m=css.length/\n<=m/\room b (n+ys.length)then
    (if n=m then some (.rs i (m+ys.length) sz (n+ys.length),H.put i (.aG e sz (css++ys)))else some (.rs i (max m (n+ys.length)) sz (n+ys.length),H.put i (.aG e sz (fW css n ys))))else none
  |_=>none
 |.raw (.slice none 0 0)=>if room b ys.length then some (.rs (nx H.l) ys.length sz ys.length,H.put (nx H.l) (.aG e sz ys))else none
 |.sl true sz' css _=>if sz'=sz/\room b (css.length+ys.length)/\(css.length=0\/0<ys.length)then some (.rs (nx H.l) (css.length+ys.length) sz (css.length+ys.length),H.put (nx H.l) (.aG e sz (css++ys)))else none
 |_=>none
def LW{b:Nat}{e:P1}{sz:Nat}{ys:PU}(h:A5 b e sz ys a H=some y)(k:K y.1 y.2):um b e sz ys a H K:=by
 unfold A5 at h;unfold um;split at h
 ·split at h
  ·rename_i e1;split at h
   ·rename_i hc;try simp only[e1]
    refine⟨hc,?_⟩;unfold qp;split at h<;>cases h
    ·rw[if_pos (by assumption)];exact k
    ·rw[if_neg (by assumption)];exact k
   ·cases h
  ·cases h
 ·split at h<;>cases h
  exact⟨by assumption,_,qS H,k⟩
 ·split at h<;>cases h
  exact⟨by assumption,_,qS H,k⟩
 ·cases h
def AQ(P:P6)(t:P1)(a x:AV)(H:Hp):Option (AV×Hp):=match gk P t with
 |some e=>match cW P e,dU P e,xN H x with
  |some sz,some zs,some ys=>if zs.length=sz/\0<sz/\gh sz ys then A5 (im P e) e sz ys a H else none
  |_,_,_=>none
 |none=>none
def KW(h:AQ P t a x H=some y)(k:K y.1 y.2):q0 P t a x H K:=by
 unfold AQ at h;unfold q0;split at h
 ·rename_i e1;split at h
  ·rename_i e2 e3 e4;split at h
   ·rename_i hc;obtain⟨c,hp,e5⟩:=F9 e4;try simp only[e1]
    try simp only[e2,e3,e5]
    exact⟨⟨hc.1,hc.2.1,hp,hc.2.2⟩,LW h k⟩
   ·cases h
  ·cases h
 ·cases h
-- maps
def ut:P4->Option PY
 |[]=>some []
 |.int .i64 n::l=>(ut l).map (n::·)
 |_=>none
theorem Bk:∀{l:P4} {ks:PY},ut l=some ks->l=ks.map (Value.int .i64)
 |[],ks,h=>by cases h;rfl
 |v::l,ks,h=>by
  unfold ut at h;split at h
  ·rename_i e;cases e
  ·rename_i n l' e;cases e;obtain⟨m,h1,rfl⟩:=Option.map_eq_some_iff.1 h;rw[Bk h1];rfl
  ·cases h
def ym(P:P6)(H:Hp)(t:P1)(m k x:AV):Option (AV×Hp):=match m,oK P t,k with
 |.mr i,some (false,_),.raw (.int .i64 n)=>match H.get i with
  |some (.mp kv vs)=>match ut kv with
   |some ks=>some (.any,H.put i (.mp ((lC n ks).map (Value.int .i64)) (lN n x ks vs)))
   |none=>none
  |_=>none
 |_,_,_=>none
def Fc{ev:P2}{om ok ox:Operand}{op:Op}(Uk:op=.insert t om ok ox\/op=.mapUpdate t om ok ox)(h:ym P H t (ev om) (ev ok) (ev ox)=some y)(k:K y.1 y.2):gp P op ty ev H K:=by
 unfold ym at h;split at h
 ·rename_i i et n e1 e2 e3;split at h
  ·rename_i kv vs e4;split at h
   ·rename_i ks e5;cases h;have:=Bk e5;subst this;exact dk ks e2 k Uk e1 e3 e4 rfl
   ·cases h
  ·cases h
 ·cases h
def Ah(P:P6)(H:Hp)(t:P1)(m k:AV)(c:Bool):Option AV:=match m,oK P t,k with
 |.mr i,some (false,et),.raw (.int .i64 n)=>match H.get i,(P.info? et).bind (·.zero)with
  |some (.mp kv vs),some z=>match ut kv with
   |some ks=>some (tF n ks vs (.raw z) c)
   |none=>none
  |_,_=>none
 |_,_,_=>none
def KN{ev:P2}{om ok:Operand}{c:Bool}(h:Ah P H t (ev om) (ev ok) c=some r)(k:K r H):gp P (.lookup t om ok c) ty ev H K:=by
 unfold Ah at h;split at h
 ·rename_i i et n e1 e2 e3;split at h
  ·rename_i kv vs z e4 e6;split at h
   ·rename_i ks e5;cases h;have:=Bk e5;subst this;exact pI ks z _ e2 e6 rfl k e1 e3 e4 rfl
   ·cases h
  ·cases h
 ·cases h
def AH(P:P6)(t:P1)(a x:AV)(H:Hp):Option (AV×Hp):=match a,gk P t with
 |.rs d m sz n,some e=>match H.get d,cW P e,dU P e,xN H x with
  |some (.aG e' sz' css),some sz'',some zs,some ys=>if m=n/\e'=e/\sz'=sz/\sz''=sz/\n=css.length/\zs.length=sz/\0<sz/\gh sz ys/\ys.length<=n then some (.raw (.int .i64 (ys.length:Nat)),H.put d (.aG e sz (fW css 0 ys)))else none
  |_,_,_,_=>none
 |_,_=>none
def IZ(h:AH P t a x H=some y)(k:K y.1 y.2):pk P .copy [t,t] [a,x] H K:=by
 unfold AH at h;split at h
 ·rename_i d m sz n e e1;split at h
  ·rename_i e' sz' css sz'' zs ys e2 e3 e4 e5;split at h
   ·rename_i hc;obtain⟨rfl,rfl,rfl,rfl,rfl,h6,h7,h8,h9⟩:=hc;obtain⟨c,hp,e6⟩:=F9 e5;cases h;exact Gn k e2 e1 e3 e4 h6 h7 rfl e6 hp h8 h9 rfl
   ·cases h
  ·cases h
 ·cases h
def xe(P:P6)(c:XC)(ev:P2)(H:Hp):Op->Option (AV×Hp)
 |.box t x=>if cM (ev x).cells=true then some (.pt (nx H.l) 0 0 0,H.put (nx H.l) (.var t (ev x).cells))else none
 |.alloc t=>match dU P t with
  |some zs=>some (.pt (nx H.l) 0 0 0,H.put (nx H.l) (.var t (zs.map .raw)))
  |none=>none
 |.store t a x=>A8 P H t (ev a) (ev x)
 |.buildSlice t n parts=>rW (n == 0 || !aU cV (iD (parts.toList.map fun p=>(p.1,ev p.2))).flatten) P H t n (parts.toList.map fun p=>(p.1,ev p.2))
 |.binOp .eql t x y _=>(wg P false t (ev x) (ev y)).map fun r=>(r,H)
 |.binOp .neq t x y _=>(wg P true t (ev x) (ev y)).map fun r=>(r,H)
 |.makeSlice t l n=>yh P H t (ev l) (ev n)
 |.makeMap _ none=>some (.mr (nx H.l),H.put (nx H.l) (.mp [] []))
 |.insert t m k x=>ym P H t (ev m) (ev k) (ev x)
 |.mapUpdate t m k x=>ym P H t (ev m) (ev k) (ev x)
 |.lookup t m k c=>(Ah P H t (ev m) (ev k) c).map fun r=>(r,H)
 |.call { callee:=.value f,args,.. }=>rn c (ev f) (args.toList.map ev) H
 |.call { callee:=.invoke r m,args,.. }=>wT P c (ev r) m (args.toList.map ev) H
 |.call { callee:=.builtin .append,args,argTypes }=>match argTypes.toList,args.toList with
  |[t,t'],[a,x]=>if t'=t then AQ P t (ev a) (ev x) H else none
  |_,_=>none
 |.call { callee:=.builtin .copy,args,argTypes }=>match argTypes.toList,args.toList with
  |[t,t'],[a,x]=>if t'=t then AH P t (ev a) (ev x) H else none
  |_,_=>none
 |o=>if cP o=true then(xq P ev H o).map fun r=>(r,H)else none
def xm{c:XC}(hc:mh P c){ev:P2}(h:xe P c ev H o=some y)(k:K y.1 y.2):vc P ev H ty K o:=by
 unfold xe at h;split at h
 ·split at h<;>cases h
  exact⟨by assumption,_,qS H,k⟩
 ·split at h<;>cases h
  rename_i e;show ll P H _ K;unfold ll;try simp only[e]
  exact⟨_,qS H,k⟩
 ·exact Py h k
 ·exact GC h k
 ·obtain⟨r,h1,rfl⟩:=Option.map_eq_some_iff.1 h;exact B6 h1 k
 ·obtain⟨r,h1,rfl⟩:=Option.map_eq_some_iff.1 h;exact B6 h1 k
 ·rw[Jd];exact G9 h k
 ·cases h;rw[Lt];exact o5 (nx H.l) k (qS H) rfl
 ·rw[LA];exact Fc (.inl rfl) h k
 ·rw[Hw];exact Fc (.inr rfl) h k
 ·obtain⟨r,h1,rfl⟩:=Option.map_eq_some_iff.1 h;rw[Kh];exact KN h1 k
 ·exact uh hc h k
 ·exact DK hc h k
 ·split at h
  ·rename_i e1 e2;split at h
   ·rename_i e3;subst e3;simp only[vc,e1,e2];exact Bd (KW h k)
   ·cases h
  ·cases h
 ·split at h
  ·rename_i e1 e2;split at h
   ·rename_i e3;subst e3;rw[Nv];try simp only[e1,e2]
    exact IZ h k
   ·cases h
  ·cases h
 ·split at h
  ·rename_i hq;obtain⟨r,h1,rfl⟩:=Option.map_eq_some_iff.1 h;obtain⟨h2,h3⟩:=yW h1;rw[E3 hq];exact⟨h2,h3 ▸ k⟩
  ·cases h
def uw(x:Option (AV×Hp))(H:Hp):Option AV:=match x with
 |some (r,H')=>if tA H'.l H.l=true/\H'.B=H.B then some r else none
 |none=>none
def Bf{x:Option (AV×Hp)}(h:uw x H=some r):x=some (r,H):=by
 unfold uw at h;split at h
 ·rename_i r' H';split at h<;>cases h;rename_i hc;have:=DR hc.1;obtain⟨B,l⟩:=H';obtain⟨B',l'⟩:=H;simp only at this hc;rw[this,hc.2]
 ·cases h
def xg(P:P6)(c:XC)(F:PW)(H:Hp)(g:Bool)(o:Op):Option AV:=match o with
 |.call { callee:=.value f,args,argTypes }=>if g=true then(if eO F (.call ⟨.value f,args,argTypes⟩)=true then uw (rn c (bA F f) (args.toList.map (bA F)) H) H else none)else some .any
 |.call { callee:=.invoke f m,args,argTypes }=>if g=true then(if eO F (.call ⟨.invoke f m,args,argTypes⟩)=true then uw (wT P c (bA F f) m (args.toList.map (bA F)) H) H else none)else some (.raw (.int .i64 0))
 |.pick c a b=>if g=true then(if(jk (bw F c)).1=true then dP (jY (bA F c) (bw F a) (bw F b))else none)else some (jY (bA F c) (bw F a) (bw F b)).2
 |o=>if fN o=true/\fV o=false/\tp o=false then(if g=true then(if eO F o=true then xq P (bA F) H o else none)else some (vq P (bA F) H o).2)else none
variable{F:PW}
def D3{c:XC}(hc:mh P c){g:Bool}(h:xg P c F H g o=some r){K:AV->Prop}(k:K (.gd g r)):dR P F H g K o:=by
 unfold xg at h;split at h
 ·split at h
  ·rename_i e;subst e;split at h
   ·rename_i ho;exact⟨r,fun _=>⟨ho,uh hc (Bf h) ⟨rfl,rfl⟩⟩,k⟩
   ·cases h
  ·rename_i e;cases h;exact⟨.any,fun e'=>(e e').elim,k⟩
 ·split at h
  ·rename_i e;subst e;split at h
   ·rename_i ho;exact⟨r,fun _=>⟨ho,DK hc (Bf h) ⟨rfl,rfl⟩⟩,k⟩
   ·cases h
  ·rename_i e;cases h;exact⟨_,fun e'=>(e e').elim,k⟩
 ·split at h
  ·rename_i e;subst e;split at h
   ·rename_i ho;obtain⟨h1,h2⟩:=zK h;exact⟨fun _=>⟨ho,h1⟩,h2 ▸ k⟩
   ·cases h
  ·rename_i e;cases h;exact⟨fun e'=>(e e').elim,k⟩
 ·split at h
  ·rename_i hq;rw[uS _ hq.2.1 hq.2.2,if_pos hq.1];split at h
   ·rename_i e;subst e;split at h
    ·rename_i ho;obtain⟨h1,h2⟩:=yW h;exact⟨fun _=>⟨ho,h1⟩,h2 ▸ k⟩
    ·cases h
   ·rename_i e;cases h;exact⟨fun e'=>(e e').elim,k⟩
  ·cases h
def xD(l:List Oper):PZ:=l.filterMap fun o=>if(o.guard.isSome && fV o.op)=true then o.dst else none
def xs(c:XC)(ev:P2)(H:Hp):Op->Option (AV×Hp)
 |.call { callee:=.value f,args,.. }=>rn c (ev f) (args.toList.map ev) H
 |_=>none
def ML{c:XC}(hc:mh P c){ev:P2}(h:xs c ev H o=some y)(k:K y.1 y.2):yI P ev H K o:=by
 unfold xs at h;split at h
 ·exact uh hc h k
 ·cases h
def ob(P:P6)(c:XC)(D:PZ)(ops:Array Oper):List Oper->PW->Hp->Option (PW×Hp)
 |[],F,H=>some (F,H)
 |o::rest,F,H=>match o.guard with
  |none=>match xe P c (bw F) H o.op with
   |some y=>ob P c D ops rest (bO F o.dst y.1) y.2
   |none=>none
  |some (j,want)=>match jV ops F j want with
   |some b=>if(yP D o.dst && fV o.op)=true then(if b=true then(if eO F o.op=true then(match xs c (bA F) H o.op with
      |some y=>ob P c D ops rest (bO F o.dst y.1) y.2
      |none=>none)else none)
     else ob P c D ops rest (bO F o.dst (.gd false (.raw (.bool false)))) H)
    else if(fV o.op || fN o.op)=true then(match xg P c F H b o.op with
     |some r=>ob P c D ops rest (bO F o.dst (.gd b r)) H
     |none=>none)
    else if b=true then(match xe P c (bw F) H o.op with
     |some y=>ob P c D ops rest (bO F o.dst y.1) y.2
     |none=>none)
    else ob P c D ops rest (bO F o.dst .any) H
   |none=>none
theorem qQ{P:P6}{c:XC}(hc:mh P c){D:PZ}{ops:Array Oper}{K:PS}:∀{l:List Oper} {F:PW} {H:Hp} {F':PW} {H':Hp},ob P c D ops l F H=some (F',H')->K F' H'->gZ D P ops K l F H
 |[],F,H,F',H',h,k=>by cases h;exact k
 |o::rest,F,H,F',H',h,k=>by
  unfold ob at h;unfold gZ;split at h
  ·rename_i e;try simp only[e]
   split at h
   ·rename_i y e2;exact xm hc e2 (qQ hc h k)
   ·cases h
  ·rename_i j want e;try simp only[e]
   split at h
   ·rename_i b e2;try simp only[e2]
    split at h
    ·rename_i e0;rw[if_pos e0];split at h
     ·rename_i e4;subst e4;split at h
      ·rename_i e5;split at h
       ·rename_i y e6;exact⟨fun _=>⟨e5,ML hc e6 (qQ hc h k)⟩,fun e7=>by cases e7⟩
       ·cases h
      ·cases h
     ·rename_i e4;exact⟨fun e5=>(e4 e5).elim,fun _=>qQ hc h k⟩
    ·rename_i e0;rw[if_neg e0];split at h
     ·rename_i e3;rw[if_pos e3];split at h
      ·rename_i r e4;exact D3 hc e4 (qQ hc h k)
      ·cases h
     ·rename_i e3;rw[if_neg e3];split at h
      ·rename_i e4;subst e4;split at h
       ·rename_i y e5;exact⟨fun _=>xm hc e5 (qQ hc h k),fun e6=>by cases e6⟩
       ·cases h
      ·rename_i e4;exact⟨fun e5=>(e4 e5).elim,fun _=>qQ hc h k⟩
   ·cases h
theorem C2:∀{l:PV} {i:Nat} {r:Row},aB l i=some r->(i,r)∈l
 |[],_,_,h=>by cases h
 |(j,s)::l,i,r,h=>by
  simp only[aB]at h;split at h
  ·rename_i e;subst e;cases h;simp
  ·exact List.mem_cons_of_mem _ (C2 h)
def AX:Row->Row->Bool
 |.var t (_::a),.var u (_::b)=>t == u && lV a b
 |_,_=>false
def uX(A:AS)(H H':Hp):Bool:=H.l.all fun x=>A.1.contains x.1 || match H'.get x.1 with
 |some r=>uP x.2 r || (A.1.contains (x.1+16) && AX x.2 r)
 |none=>false
variable{H':Hp}
def wK{A:AS}(h:uX A H H'=true):c8 A H H':=fun i r ha hg=>by
 have:=List.all_eq_true.1 h (i,r) (C2 hg);simp only[ha,Bool.false_or]at this;split at this
 ·rename_i s e;rw[Bool.or_eq_true]at this;rcases this with this|this
  ·rw[CC this];exact .inl e
  ·rw[Bool.and_eq_true]at this;obtain⟨h1,h2⟩:=this;unfold AX at h2;split at h2
   ·rename_i t c a u d b;rw[Bool.and_eq_true,beq_iff_eq]at h2;obtain⟨rfl,h3⟩:=h2;have:=mY _ _ h3;subst this;exact .inr ⟨h1,_,_,_,_,rfl,e⟩
   ·cases h2
 ·cases this
def Pk(H H':Hp):PZ:=H.l.flatMap fun x=>match H'.get x.1 with
 |some r=>if uP x.2 r=true then[]else if AX x.2 r=true then[x.1+16]else[x.1]
 |none=>[x.1]
def xn(P:P6)(c:XC)(A:AS)(ev:P2)(H:Hp):Op->Option (AV×Hp)
 |.call { callee:=.value f,args,.. }=>(rn c (ev f) (args.toList.map ev) H).filter fun y=>uX A H y.2
 |.buildSlice t n parts=>(rW true P H t n (parts.toList.map fun p=>(p.1,ev p.2))).filter fun y=>uX A H y.2
 |.makeSlice t l n=>(yh P H t (ev l) (ev n)).filter fun y=>uX A H y.2
 |.call { callee:=.builtin .append,args,argTypes }=>(xe P c ev H (.call ⟨.builtin .append,args,argTypes⟩)).filter fun y=>uX A H y.2
 |_=>none
def D1{c:XC}(hc:mh P c){A:AS}{ev:P2}(h:xn P c A ev H o=some y)(k:K y.1 y.2):og P A ev H K o:=by
 unfold xn at h;split at h
 ·obtain⟨h1,h2⟩:=Option.filter_eq_some_iff.1 h;exact uh hc h1 ⟨wK h2,k⟩
 ·obtain⟨h1,h2⟩:=Option.filter_eq_some_iff.1 h;exact GC h1 ⟨wK h2,k⟩
 ·obtain⟨h1,h2⟩:=Option.filter_eq_some_iff.1 h;exact G9 h1 ⟨wK h2,k⟩
 ·obtain⟨h1,h2⟩:=Option.filter_eq_some_iff.1 h;exact xm (ty:=0) hc h1 ⟨wK h2,k⟩
 ·cases h
def xd(P:P6)(c:XC)(ev:P2)(H:Hp)(o:Op):Option (AV×Hp):=if mw o=true then(xq P ev H o).map fun r=>(r,H)else match o with
 |.buildSlice t n parts=>rW false P H t n (parts.toList.map fun p=>(p.1,ev p.2))
 |o=>xe P c ev H o
def NB{c:XC}(hc:mh P c){ev:P2}(h:xd P c ev H o=some y)(k:K y.1 y.2):eJ P ev H ty K o:=by
 unfold xd at h;unfold eJ;split at h
 ·rename_i e;rw[if_pos e];obtain⟨r,h1,rfl⟩:=Option.map_eq_some_iff.1 h;obtain⟨h2,h3⟩:=yW h1;exact⟨h2,h3 ▸ k⟩
 ·rename_i e;rw[if_neg e];split at h
  ·exact Jw h k
  ·rename_i hn;split
   ·exact(hn _ _ _ rfl).elim
   ·exact xm hc h k
def pL(A:AS)(P:P6)(c:XC)(ops:Array Oper):List Oper->PW->Hp->Option (PW×Hp)
 |[],F,H=>some (F,H)
 |o::rest,F,H=>match o.guard with
  |none=>if qK A o=true then(match o.op with
    |.call { callee:=.value f,args,.. }=>match uw (rn c (bw F f) (args.toList.map (bw F)) H) H with
     |some r=>pL A P c ops rest (bO F o.dst r) H
     |none=>none
    |_=>none)
   else if mc A o=true then(match xn P c A (bw F) H o.op with
    |some y=>pL A P c ops rest (bO F o.dst y.1) y.2
    |none=>none)
   else if gB A (bw F) o.op=true then(match xd P c (bw F) H o.op with
    |some y=>pL A P c ops rest (bO F o.dst y.1) y.2
    |none=>none)
   else none
  |some (j,want)=>match jV ops F j want with
   |some b=>if lX A o=true then(if b=true then(if eO F o.op=true then(match xn P c A (bA F) H o.op with
      |some y=>pL A P c ops rest (bO F o.dst y.1) y.2
      |none=>none)else none)
     else pL A P c ops rest (bO F o.dst (.gd false (.raw (.bool false)))) H)
    else if(fV o.op || fN o.op)=true then(match xg P c F H b o.op with
     |some r=>pL A P c ops rest (bO F o.dst (.gd b r)) H
     |none=>none)
    else none
   |none=>none
theorem ry{A:AS}{P:P6}{c:XC}(hc:mh P c){ops:Array Oper}{K:PS}:∀{l:List Oper} {F:PW} {H:Hp} {F':PW} {H':Hp},pL A P c ops l F H=some (F',H')->K F' H'->eH A P ops K l F H
 |[],F,H,F',H',h,k=>by cases h;exact k
 |o::rest,F,H,F',H',h,k=>by
  unfold pL at h;unfold eH;split at h
  ·rename_i e;try simp only[e]
   split at h
   ·rename_i e2;rw[if_pos e2];split at h
    ·rename_i e3;rw[e3];split at h
     ·rename_i r e4;exact⟨r,uh hc (Bf e4) ⟨rfl,rfl⟩,ry hc h k⟩
     ·cases h
    ·cases h
   ·rename_i e2;rw[if_neg e2];split at h
    ·rename_i e3;rw[if_pos e3];split at h
     ·rename_i y e4;exact D1 hc e4 (ry hc h k)
     ·cases h
    ·rename_i e3;rw[if_neg e3];split at h
     ·rename_i e4;split at h
      ·rename_i y e5;exact⟨e4,NB hc e5 (ry hc h k)⟩
      ·cases h
     ·cases h
  ·rename_i j want e;try simp only[e]
   split at h
   ·rename_i b e2;try simp only[e2]
    split at h
    ·rename_i e3;rw[if_pos e3];split at h
     ·rename_i e4;subst e4;split at h
      ·rename_i e5;split at h
       ·rename_i y e6;exact⟨fun _=>⟨e5,D1 hc e6 (ry hc h k)⟩,fun e7=>by cases e7⟩
       ·cases h
      ·cases h
     ·rename_i e4;exact⟨fun e5=>(e4 e5).elim,fun _=>ry hc h k⟩
    ·rename_i e3;rw[if_neg e3];split at h
     ·rename_i e4;split at h
      ·rename_i r e5;exact⟨e4,D3 hc e5 (ry hc h k)⟩
      ·cases h
     ·cases h
   ·cases h
instance decEarly{P:Program}{l:List Oper}:∀{E:List Nat},Decidable (nc P l E)
 |[]=>isTrue trivial
 |i::E=>by
  unfold nc;have:=decEarly (P:=P) (l:=l) (E:=E);have:Decidable (match (dm l i).op with|.alloc t=>(dU P t).isSome=true|_=>False):=by split<;>infer_instance
  have:Decidable ((dm l i).guard=none):=by
   cases(dm l i).guard with
   |none=>exact isTrue rfl
   |some x=>exact isFalse jE
  infer_instance
abbrev XH:=FuncId->Nat->Option (Bool×PZ×PZ×PZ×PZ)
def wW(P:P6)(c:XC)(l:Array Oper)(A:AS)(E ord:PZ)(F:PW)(H:Hp):Option (PW×Hp):=if o7 A E l.toList ord=true/\nc P l.toList E then pL A P c l (ord.map (dm l.toList)) F H else none
def Da(n:Nat)(o:PZ):PZ:=if o.isEmpty=true then List.range n else o
def IT:Op->Bool
 |.store ..=>true
 |_=>false
def NL(P:P6)(c:XC)(l:Array Oper)(D o:PZ)(F:PW)(H:Hp):Bool->PZ
 |true=>match ob P c (xD l.toList) l (((Da l.size o).map (dm l.toList)).filter fun x=>!(D.contains 1000000 && IT x.op)) F H with
  |some y=>Pk H y.2
  |none=>[]
 |false=>[]
def yo(P:P6)(c:XC)(h:XH)(f:FuncId)(id:Nat)(l:Array Oper)(d:Bool)(F:PW)(H:Hp):Option (PW×Hp):=if d=true then(match h f id with
  |some (dy,C,D,E,o)=>wW P c l (NL P c l D o F H dy,C,D) E (Da l.size o) F H
  |none=>wW P c l ([],[],[]) [] (List.range l.size) F H)
 else ob P c (xD l.toList) l l.toList F H
variable{l:Array Oper}{F':PW}{Q:Exit->PS}
def EP{c:XC}(hc:mh P c)(hm:P.follows .mixedOrders=true){id:Nat}{A:AS}{E ord:PZ}(e:wW P c l A E ord F H=some (F',H'))(k:Q .normal F' H'):cz P (.region id l true) Q F H:=by
 unfold wW at e;have el:l=l.toList.toArray:=jE;split at e
 ·rename_i hk;rw[el];exact xX _ _ _ hm hk.1 hk.2 (by rw[<-el];exact ry hc e k)
 ·cases e
variable{f:FuncId}
def NQ{c:XC}(hc:mh P c)(hm:P.follows .mixedOrders=true){h:XH}{id:Nat}{d:Bool}(e:yo P c h f id l d F H=some (F',H'))(k:Q .normal F' H'):cz P (.region id l d) Q F H:=by
 unfold yo at e;have el:l=l.toList.toArray:=jE;split at e
 ·rename_i hd;subst hd;split at e
  ·exact EP hc hm e k
  ·exact EP hc hm e k
 ·rename_i hd;have:d=false:=by simpa using hd
  subst this;rw[el];exact sS (xD l.toList) (by rw[<-el];exact qQ hc e k) rfl
abbrev XS:=Option (Exit×PW×Hp)
def u6(b:PW->Hp->XS):Nat->PW->Hp->XS
 |0,_,_=>none
 |n+1,F,H=>match b F H with
  |some (.normal,F',H')=>u6 b n F' H'
  |r=>r
def NG{c:Code}{b:PW->Hp->XS}(hb:∀{F H e F' H'} {Q:Exit->PS},b F H=some (e,F',H')->Q e F' H'->cz P c Q F H){e:Exit}
  (h:u6 b n F H=some (e,F',H')) (k:Q e F' H'):cz P (.loop c) Q F H:=by
 refine Gs (S:=Nat) (fun s F H=>u6 b s F H=some (e,F',H')) id n (cY.refl F H) h fun s F1 H1 hI=>?_
 cases s with
 |zero=>cases hI
 |succ s=>
  simp only[u6]at hI;split at hI
  ·rename_i F2 H2 e2;exact hb e2 ⟨s,F2,H2,Nat.lt_succ_self s,cY.refl _ _,hI⟩
  ·rename_i hn;refine hb hI ?_;cases e with
   |normal=>exact(hn _ _ hI).elim
   |exit id=>exact k
   |goto l=>exact k
   |ret=>exact k
   |panic ch=>exact k
   |outgrown=>exact k
def lD(P:P6)(c:XC)(h:XH)(f:FuncId)(n:Nat):Code->PW->Hp->XS
 |.skip,F,H=>some (.normal,F,H)
 |.label _,F,H=>some (.normal,F,H)
 |.exit i,F,H=>some (.exit i,F,H)
 |.ret,F,H=>some (.ret,F,H)
 |.seq a b,F,H=>match lD P c h f n a F H with
  |some (.normal,F',H')=>lD P c h f n b F' H'
  |r=>r
 |.cond x a b,F,H=>match bw F x with
  |.raw (.bool true)=>lD P c h f n a F H
  |.raw (.bool false)=>lD P c h f n b F H
  |_=>none
 |.block i a,F,H=>match lD P c h f n a F H with
  |some (.exit j,F',H')=>if j=i then some (.normal,F',H')else some (.exit j,F',H')
  |r=>r
 |.loop a,F,H=>u6 (lD P c h f n a) n F H
 |.scope a,F,H=>match lD P c h f n a F H with
  |some (.goto _,_,_)=>none
  |r=>r
 |.region i l d,F,H=>match yo P c h f i l d F H with
  |some (F',H')=>some (.normal,F',H')
  |none=>none
 |_,_,_=>none
theorem nL{P:P6}{c:XC}(hc:mh P c)(hm:P.follows .mixedOrders=true){h:XH}{f:FuncId}{n:Nat}:∀{C:Code} {F:PW} {H:Hp} {e:Exit} {F':PW} {H':Hp} {Q:Exit->PS},lD P c h f n C F H=some (e,F',H')->Q e F' H'->cz P C Q F H
 |.skip,F,H,e,F',H',Q,x,k=>by cases x;exact Gq k
 |.label _,F,H,e,F',H',Q,x,k=>by cases x;exact HT k
 |.exit i,F,H,e,F',H',Q,x,k=>by cases x;exact DJ k
 |.ret,F,H,e,F',H',Q,x,k=>by cases x;exact EZ k
 |.seq a b,F,H,e,F',H',Q,x,k=>by
  unfold lD at x;refine GZ ?_;split at x
  ·rename_i e2;exact nL hc hm e2 (nL hc hm x k)
  ·rename_i hn;refine nL hc hm x ?_;cases e with
   |normal=>exact(hn _ _ x).elim
   |exit id=>exact k
   |goto l=>exact k
   |ret=>exact k
   |panic ch=>exact k
   |outgrown=>exact k
 |.cond y a b,F,H,e,F',H',Q,x,k=>by
  unfold lD at x;split at x
  ·rename_i e2;exact Ia e2 (nL hc hm x k)
  ·rename_i e2;exact JL e2 (nL hc hm x k)
  ·cases x
 |.block i a,F,H,e,F',H',Q,x,k=>by
  unfold lD at x;refine Ew ?_;split at x
  ·rename_i e2;split at x<;>cases x
   ·rename_i e3;exact nL hc hm e2 (by simp only[oS,if_pos e3];exact k)
   ·rename_i e3;exact nL hc hm e2 (by simp only[oS,if_neg e3];exact k)
  ·rename_i hn;refine nL hc hm x ?_;cases e with
   |normal=>exact k
   |exit id=>exact(hn _ _ _ x).elim
   |goto l=>exact k
   |ret=>exact k
   |panic ch=>exact k
   |outgrown=>exact k
 |.loop a,F,H,e,F',H',Q,x,k=>by unfold lD at x;exact NG (fun h1 h2=>nL hc hm h1 h2) x k
 |.scope a,F,H,e,F',H',Q,x,k=>by
  unfold lD at x;refine Ju ?_;split at x
  ·cases x
  ·rename_i hn;exact nL hc hm x ⟨fun l hl=>by subst hl;exact(hn _ _ _ x).elim,k⟩
 |.region i l d,F,H,e,F',H',Q,x,k=>by
  unfold lD at x;split at x
  ·rename_i e2;cases x;exact NQ hc hm e2 k
  ·cases x
 |.rangeFunc ..,F,H,e,F',H',Q,x,k=>by cases x
 |.goto _,F,H,e,F',H',Q,x,k=>by cases x
 |.refuse _,F,H,e,F',H',Q,x,k=>by cases x
def vp(P:P6)(H:Hp)(F:PW):List ResultVar->Option PW
 |[]=>some []
 |.tmp t::rest=>(vp P H F rest).map (F.getD t .any::·)
 |.cell a t::rest=>match cB H (F.getD a .any),dK P t,cW P t with
  |some cs,some ag,some k=>if k<=cs.length/\1<=cs.length then(vp P H F rest).map (pB ag k cs::·)else none
  |_,_,_=>none
theorem zO{P:P6}{H:Hp}{F:PW}:∀{rs:List ResultVar} {out:PW},vp P H F rs=some out->fP P H F rs=some out/\gx P H F rs
 |[],out,h=>⟨h,trivial⟩
 |.tmp t::rest,out,h=>by obtain⟨l,h1,rfl⟩:=Option.map_eq_some_iff.1 h;obtain⟨h2,h3⟩:=zO h1;exact⟨by simp only[fP,h2];rfl,h3⟩
 |.cell a t::rest,out,h=>by
  unfold vp at h;split at h
  ·rename_i cs ag k e1 e2 e3;obtain⟨c,hc,e⟩:=G7 e1;split at h
   ·rename_i hk;obtain⟨l,h1,rfl⟩:=Option.map_eq_some_iff.1 h;obtain⟨h2,h3⟩:=zO h1;refine⟨by simp only[fP,e,e2,e3,h2];rfl,?_⟩;simp only[gx,e,e3];exact⟨⟨hc,hk⟩,h3⟩
   ·cases h
  ·cases h
instance {q:Nat->Bool}{r:Row}:Decidable (nq q r):=by
 unfold nq;split
 ·infer_instance
 ·unfold QL;infer_instance
 ·infer_instance
instance decStay{D:Nat->Bool}:∀{l:List (Nat×Row)},Decidable (eL D l)
 |[]=>isTrue trivial
 |(j,r)::l=>by unfold eL;have:=decStay (D:=D) (l:=l);infer_instance
def wH:AV->AV
 |.sl x sz css []=>.sl x sz css (css.headD [])
 |a=>a
def N5{w:NW}{v:Value}(h:az w a v):az w (wH a) v:=by
 unfold wH;split
 ·cases h<;>(constructor<;>assumption)
 ·exact h
def MG(F:PW)(H:Hp):cY F H (F.map wH) H:=fun w tm h1 h2=>⟨w,rfl,h1,⟨by rw[List.length_map];exact h2.1,fun i a v ha hv=>by rw[List.getElem?_map]at ha;obtain⟨b,hb,rfl⟩:=Option.map_eq_some_iff.1 ha;exact N5 (h2.2 i b v hb hv)⟩,eK.refl w H⟩
def Ee:Exit->Bool
 |.normal=>true
 |.ret=>true
 |_=>false
def Fi{e:Exit}(h:Ee e=true):e=.normal\/e=.ret:=by cases e<;>first|exact .inl rfl|exact .inr rfl|cases h
def xj(P:P6)(c:XC)(h:XH)(n:Nat)(f:FuncId)(args:PW)(l:PV):Option (AV×List P8):=match P.funcs[f]? with
 |some fn=>match fn.body with
  |some b=>match lD P c h f n b ((args++List.replicate (fn.ntmps-args.length) AV.any).map wH) (entry l)with
   |some (e,F,H)=>if Ee e=true then(match vp P H F fn.results.toList with
     |some out=>if eL (iZ H.B) H.l/\(fZ out).all (df (iZ H.B))=true then some (fZ out,dq (iZ H.B) H.l)else some (fZ out,H.l)
     |none=>none)else none
   |none=>none
  |none=>none
 |none=>none
variable{y:AV×List P8}
def Ej{c:XC}(hc:mh P c)(hm:P.follows .mixedOrders=true){h:XH}{args:PW}{l:PV}(x:xj P c h n f args l=some y):af P f args l fun r l'=>r=y.1/\l'=y.2:=by
 unfold xj at x;split at x
 ·rename_i fn e1;split at x
  ·rename_i b e2;split at x
   ·rename_i e F H e3;split at x
    ·rename_i e4;split at x
     ·rename_i out e5;obtain⟨e6,e7⟩:=zO e5;refine A9 e1 e2 (gj (MG _ _) (nL hc hm e3 ?_));split at x
      ·rename_i e8;cases x;exact Ci (Fi e4) e6 e7 e8.1 (p5 rfl e8.2) rfl
      ·cases x;exact Cd (Fi e4) e6 e7 rfl rfl
     ·cases x
    ·cases x
   ·cases x
  ·cases x
 ·cases x
def Hf{args:PW}(hc:af P f args H.l fun r l'=>r=y.1/\l'=y.2)(k:K y.1 ⟨H.B,y.2⟩):cw P f args H K:=fun w vs hw hv=>by
 have Y3:aN w (entry H.l):={ ci:=hw.ci,rows:=hw.rows,dS:=hw.dS,inj:=hw.inj,own:=hw.own,fin:=hw.fin };refine(hc w vs Y3 hv).mono ?_;rintro e W ⟨v,r,H',w',e0,e1,⟨e2,e3⟩,g1,g2,g3⟩;have g1':aN w' ⟨H.B,y.2⟩:=by rw[<-e3];exact{ ci:=g1.ci,rows:=g1.rows,dS:=g1.dS,inj:=g1.inj,own:=g1.own,fin:=g1.fin }
 refine⟨v,r,⟨H.B,y.2⟩,w',e0,e1,by rw[e2];exact k,g1',g2,{ g3.toExtQ with names:=fun i m z _ hz=>?_,base:=rfl }⟩;obtain⟨s,hs,_⟩:=hw.dS i m z hz;exact g3.toExtQ.names i m z (tT hs) hz
abbrev XT:=List (FuncId×PW×AV)
def wC(T:XT)(f:FuncId)(args:PW):Option AV:=match T with
 |[]=>none
 |(g,bs,r)::T=>if(g == f && lV bs args && aU cV args)=true then some r else wC T f args
def vw(P:P6):XT->Prop
 |[]=>True
 |(g,bs,r)::T=>(aQ P g=true/\aA P g bs r)/\vw P T
theorem Ch{P:P6}:∀{T:XT} {f:FuncId} {args:PW} {r:AV},vw P T->wC T f args=some r->aQ P f=true/\aA P f args r/\aU cV args=true
 |[],_,_,_,_,h=>by cases h
 |(g,bs,s)::T,f,args,r,hT,h=>by
  unfold wC at h;split at h
  ·rename_i hc;cases h;simp only[Bool.and_eq_true,beq_iff_eq]at hc;obtain⟨⟨rfl,h2⟩,h3⟩:=hc;have:=mY _ _ h2;subst this;exact⟨hT.1.1,hT.1.2,h3⟩
  ·exact Ch hT.2 h
def xw(P:P6)(T:XT)(h:XH)(n:Nat):Nat->XC
 |0=>fun _ _ _=>none
 |d+1=>fun f args H=>match wC T f args with
  |some r=>some (r,H)
  |none=>if aQ P f=true then(match xj P (xw P T h n d) h n f args H.l with
   |some y=>some (y.1,⟨H.B,y.2⟩)
   |none=>none)else none
theorem Ce{P:P6}{T:XT}(hT:vw P T)(hm:P.follows .mixedOrders=true){h:XH}{n:Nat}:∀d,mh P (xw P T h n d)
 |0=>fun _ _ _ _ _ e=>by cases e
 |d+1=>fun f args H r H' e K k=>by
  unfold xw at e;split at e
  ·rename_i e1;cases e;obtain⟨h1,h2,h3⟩:=Ch hT e1;exact⟨h1,ue h2 h3 k⟩
  ·split at e
   ·rename_i h1;split at e
    ·rename_i y e2;cases e;exact⟨h1,Hf (Ej (Ce hT hm d) hm e2) k⟩
    ·cases e
   ·cases e
def Hc{T:XT}(hT:vw P T)(hm:P.follows .mixedOrders=true)(h:XH)(n d:Nat){args:PW}(e:(match xj P (xw P T h n d) h n f args []with|some (s,[])=>kf s r|_=>false)=true):aA P f args r:=by
 split at e
 ·rename_i s e1;have:=Ab _ _ e;subst this;exact Ej (Ce hT hm d) hm e1
 ·cases e
abbrev sE:P0:=⟨#[]⟩
def vI(n:Int):ai:=⟨1,n,sE⟩
def vB(b:Bool):ai:=⟨2,if b=true then 1 else 0,sE⟩
def vT(s:P0):ai:=⟨3,0,s⟩
def vZ(t:Int):ai:=⟨t,0,sE⟩
def v0:ai:=⟨0,0,sE⟩
def fT(v:ai):Bool:=
 if v.ty=1 then decide (v.s=sE)
 else if v.ty=2 then decide (v.s=sE) && (decide (v.n=0) || decide (v.n=1))
 else if v.ty=3 then decide (v.n=0) && decide ((v.s.size:Int)<=40)
 else if v.ty=4 then decide (v.s=sE) && decide (0<=v.n)
 else false
def oU(sign:P0)(a b:Int):ai×Int:=
 if sign=(⟨#[43]⟩:P0)then(vI (IntKind.i64.wrap (a+b)),0)
 else if sign=(⟨#[45]⟩:P0)then(vI (IntKind.i64.wrap (a-b)),0)
 else if sign=(⟨#[42]⟩:P0)then(vI (IntKind.i64.wrap (a*b)),0)
 else if sign=(⟨#[47]⟩:P0)then(if b=0 then(v0,1)else(vI (IntKind.i64.wrap (a.tdiv b)),0))
 else if sign=(⟨#[37]⟩:P0)then(if b=0 then(v0,1)else(vI (a.tmod b),0))
 else if sign=(⟨#[60]⟩:P0)then(vB (decide (a<b)),0)
 else if sign=(⟨#[60,61]⟩:P0)then(vB (decide (a<=b)),0)
 else(v0,0)
def jw(sign:P0)(a b:ai):ai×Int:=
 if a.ty≠b.ty\/a.ty<1\/4<a.ty then(v0,0)
 else if sign=(⟨#[61,61]⟩:P0)then(vB (decide (a.n=b.n) && decide (a.s=b.s)),0)
 else if sign=(⟨#[33,61]⟩:P0)then(vB (!(decide (a.n=b.n) && decide (a.s=b.s))),0)
 else if a.ty=1 then oU sign a.n b.n
 else if a.ty=2 then(if sign=(⟨#[124,124]⟩:P0)then(vB (decide (a.n=1) || decide (b.n=1)),0)else if sign=(⟨#[38,38]⟩:P0)then(vB (decide (a.n=1) && decide (b.n=1)),0)else(v0,0))
 else if a.ty=3 then(if sign=(⟨#[43]⟩:P0)then(if(a.s.size:Int)+b.s.size>40 then(v0,6)else(vT (a.s++b.s),0))else(v0,0))
 else(v0,0)
def ku(sign:P0)(a:ai):ai:=
 if sign=(⟨#[45]⟩:P0)/\a.ty=1 then vI (IntKind.i64.wrap (-a.n))
 else if sign=(⟨#[33]⟩:P0)/\a.ty=2 then vB (!decide (a.n=1))
 else v0
def iL(n:Int):Bool:=decide (48<=n) && decide (n<=57)
def vG(n:Int):Bool:=(decide (97<=n) && decide (n<=122)) || (decide (65<=n) && decide (n<=90))
def uk(s:P0):Bool:=decide ((s.size:Int)<19) || (decide ((s.size:Int)=19) && (Op.bytesLess s.toList (⟨#[57,50,50,51,51,55,50,48,51,54,56,53,52,55,55,53,56,48,55]⟩:P0).toList || decide (s=(⟨#[57,50,50,51,51,55,50,48,51,54,56,53,52,55,55,53,56,48,55]⟩:P0))))
def mX(s:P0):Nat->Int
 |0=>1
 |k+1=>if dV s k=10 then mX s k+1 else mX s k
theorem D0(s:P0):∀k,1<=mX s k/\mX s k<=k+1
 |0=>by simp[mX]
 |k+1=>by have:=D0 s k;unfold mX;split<;>omega
def eW:List P0:=[(⟨#[102,110]⟩:P0),(⟨#[108,101,116]⟩:P0),(⟨#[105,102]⟩:P0),(⟨#[101,108,115,101]⟩:P0),(⟨#[119,104,105,108,101]⟩:P0),(⟨#[114,101,116,117,114,110]⟩:P0),(⟨#[112,114,105,110,116]⟩:P0),(⟨#[105,110,112,117,116]⟩:P0),(⟨#[110,101,119]⟩:P0),(⟨#[108,101,110]⟩:P0),(⟨#[116,114,117,101]⟩:P0),(⟨#[102,97,108,115,101]⟩:P0),(⟨#[105,110,116]⟩:P0),(⟨#[98,111,111,108]⟩:P0),(⟨#[116,101,120,116]⟩:P0),(⟨#[108,105,115,116]⟩:P0)]
def O7:eW.length=16:=rfl
def sk(s:P0):Bool:=eW.any fun t=>decide (t=s)
-- the first one
theorem ww{α:Type}[Inhabited α]{p:α->Bool}:∀{l:List α} {k:Nat},(∀j,j<k->p (nth l j)=false)->k<l.length->p (nth l k)=true->l.find? p=some (nth l k)
 |[],k,_,h,_=>by simp at h
 |x::l,0,_,_,hp=>by have:p x=true:=hp;rw[List.find?_cons,this];rfl
 |x::l,k+1,h,hk,hp=>by have h0:p x=false:=h 0 jB;rw[List.find?_cons,h0];exact ww (fun j hj=>h (j+1) jB) (by simpa using hk) hp
variable{α:Type}
def zj[Inhabited α]{p:α->Bool}{l:List α}(h:∀j,j<l.length->p (nth l j)=false):l.find? p=none:=by rw[List.find?_eq_none];intro x hx;obtain⟨j,hj,rfl⟩:=List.getElem_of_mem hx;have:=h j hj;rw[gD hj]at this;simp[this]
variable{k:Nat}
def ze(h:k<n):nth (List.range n) k=k:=by simp[nth,h]
-- bytes of which p holds
def n3(p:Int->Bool)(s:P0):Nat->Nat->Nat
 |0,i=>i
 |n+1,i=>if i<s.size/\p (dV s i)=true then n3 p s n (i+1)else i
def gy(p:Int->Bool)(s:P0)(i:Nat):Nat:=n3 p s (s.size+1) i
theorem GI{p:Int->Bool}{s:P0}{k:Nat}(Tj:¬(k<s.size/\p (dV s k)=true)):∀{n i:Nat},i<=k->k<n+i->(∀j,i<=j->j<k->j<s.size/\p (dV s j)=true)->n3 p s n i=k
 |0,i,h1,h2,_=>by omega
 |n+1,i,h1,h2,h3=>by
  unfold n3;by_cases e:i=k
  ·subst e;rw[if_neg Tj]
  ·rw[if_pos (h3 i jl jB)];exact GI Tj jB jB fun j hj=>h3 j jB
variable{p:Int->Bool}{s:P0}{i:Nat}
def ye(Tj:¬(k<s.size/\p (dV s k)=true))(h1:i<=k)(hk:k<=s.size)(h3:∀j,i<=j->j<k->p (dV s j)=true):gy p s i=k:=
 GI Tj h1 jB fun j hj V8=>⟨jB,h3 j hj V8⟩
theorem wk{p:Int->Bool}{s:P0}:∀{n i:Nat},i<=n3 p s n i/\(i<=s.size->n3 p s n i<=s.size)
 |0,i=>⟨Nat.le_refl _,id⟩
 |n+1,i=>by
  unfold n3;split
  ·have:=wk (p:=p) (s:=s) (n:=n) (i:=i+1);exact⟨jB,fun _=>this.2 jB⟩
  ·exact⟨Nat.le_refl _,id⟩
def sU(h:i<=s.size):i<=gy p s i/\gy p s i<=s.size:=⟨wk.1,wk.2 h⟩
def vf(h:i<s.size)(hp:p (dV s i)=true):i<gy p s i:=by unfold gy;unfold n3;rw[if_pos ⟨h,hp⟩];have:=(wk (p:=p) (s:=s) (n:=s.size) (i:=i+1)).1;omega
theorem C9{p:Int->Bool}{s:P0}:∀{n i j:Nat},i<=j->j<n3 p s n i->p (dV s j)=true
 |0,i,j,h1,h2=>by unfold n3 at h2;omega
 |n+1,i,j,h1,h2=>by
  unfold n3 at h2;split at h2
  ·rename_i h;by_cases e:j=i
   ·subst e;exact h.2
   ·exact C9 jB h2
  ·omega
-- jo between tokens
def vX(c:Int):Bool:=decide (c=32) || decide (c=9) || decide (c=13) || decide (c=10)
def wG(s:P0)(i:Nat):Bool:=decide (dV s i=47) && decide (i+1<s.size) && decide (dV s (i+1:Nat)=47)
def qi(c:Int):Bool:=decide (c≠10)
def kR(s:P0)(i:Nat):Option Nat:=if i<s.size then(if vX (dV s i)=true then some (i+1)else if wG s i=true then some (gy qi s i)else none)else none
def lE(s:P0):Nat->Nat->Nat
 |0,i=>i
 |n+1,i=>match kR s i with
  |some j=>lE s n j
  |none=>i
variable{j:Nat}
def wi(h:kR s i=some j):i<j/\j<=s.size:=by
 unfold kR at h;split at h
 ·rename_i hi;split at h
  ·cases h;omega
  ·split at h
   ·rename_i hc;cases h;have QD:qi (dV s i)=true:=by
     simp only[wG,Bool.and_eq_true,decide_eq_true_eq]at hc;simp[qi,hc.1.1]
    exact⟨vf hi QD,(sU jB).2⟩
   ·cases h
 ·cases h
theorem DM(s:P0):∀(n m i:Nat),s.size<n+i->s.size<m+i->lE s n i=lE s m i
 |0,0,i,_,_=>rfl
 |0,m+1,i,h,_=>by
  unfold lE;have:kR s i=none:=by unfold kR;rw[jN]
  rw[this]
 |n+1,0,i,_,h=>by
  unfold lE;have:kR s i=none:=by unfold kR;rw[jN]
  rw[this]
 |n+1,m+1,i,h1,h2=>by
  unfold lE;cases e:kR s i with
  |none=>rfl
  |some j=> have:=wi e;exact DM s n m j jB jB
def mL(s:P0)(i:Nat):Nat:=lE s (s.size+1) i
def Fe(h:kR s i=some j):mL s i=mL s j:=by have:=wi h;show lE s (s.size+1) i=lE s (s.size+1) j;rw[lE,h];exact DM s _ _ j jB jB
def CJ(h:kR s i=none):mL s i=i:=by show lE s (s.size+1) i=i;rw[lE,h]
theorem yG{s:P0}:∀{n i:Nat},i<=lE s n i/\(i<=s.size->lE s n i<=s.size)
 |0,i=>⟨Nat.le_refl _,id⟩
 |n+1,i=>by
  unfold lE;cases e:kR s i with
  |none=>exact⟨Nat.le_refl _,id⟩
  |some j=> have h1:=wi e;have h2:=yG (s:=s) (n:=n) (i:=j);exact⟨by simp only;omega,fun _=>h2.2 h1.2⟩
def sX(h:i<=s.size):i<=mL s i/\mL s i<=s.size:=⟨yG.1,yG.2 h⟩
-- tokens
def rl(c:Int):Bool:=decide (32<=c) && decide (c<=126) && decide (c≠34)
def mP(s:P0)(a:Nat):P0×Int×Int:=
 let i:=gy rl s (a+1)
 if i<s.size/\dV s i=34 then(if(i:Int)-a-1>12 then(⟨#[]⟩,a,4)else(s.extract (a+1) i,(i:Int)+1,0))else(⟨#[]⟩,a,11)
def hZ:List P0:=[(⟨#[124,124]⟩:P0),(⟨#[38,38]⟩:P0),(⟨#[60,61]⟩:P0),(⟨#[61,61]⟩:P0),(⟨#[33,61]⟩:P0)]
def gm:P0:=(⟨#[40,41,123,125,91,93,44,59,61,60,43,45,42,47,37,33]⟩:P0)
def n9(s t:P0):Bool:=decide (2<=(s.size:Int)) && decide (s.extract 0 2=t)
def mm(s:P0):P0:=match hZ.find? (n9 s)with
 |some t=>t
 |none=>match (List.range 16).find? fun k:Nat=>decide (dV s 0=dV gm (k:Nat))with
  |some k=>gm.extract k (k+1)
  |none=>⟨#[]⟩
def mW(c:Int):Bool:=vG c || iL c || decide (c=95)
def LJ{b:P0}(h:b.size=0):b=⟨#[]⟩:=by obtain⟨d⟩:=b;have:d=#[]:=Array.size_eq_zero_iff.1 h;rw[this]
def sq:bZ:=⟨0,⟨#[]⟩,0⟩
def fS(s:P0)(a:Nat):bZ×Int×Int:=
 if iL (dV s a)=true then
  (if uk (s.extract a (gy iL s a))=true then(⟨1,s.extract a (gy iL s a),a⟩,(gy iL s a:Nat),0)else(sq,a,12))
 else if vG (dV s a)=true then
  (if sk (s.extract a (gy mW s a))=true then(⟨4,s.extract a (gy mW s a),a⟩,(gy mW s a:Nat),0)
  else if((s.extract a (gy mW s a)).size:Int)>8 then(sq,a,13)else(⟨3,s.extract a (gy mW s a),a⟩,(gy mW s a:Nat),0))
 else if dV s a=34 then(⟨2,(mP s a).1,a⟩,(mP s a).2.1,(mP s a).2.2)
 else if mm (s.extract a s.size)=⟨#[]⟩then(sq,a,10)
 else(⟨5,mm (s.extract a s.size),a⟩,a+(mm (s.extract a s.size)).size,0)
def KS(s:P0):(mm s).size<=2:=by
 unfold mm;cases h:hZ.find? (n9 s)with
 |some t=> have hm:=List.mem_of_find?_eq_some h;have:∀t∈hZ,t.size<=2:=jC;exact this t hm
 |none=>
  cases h2:(List.range 16).find? fun k:Nat=>decide (dV s 0=dV gm (k:Nat))with
  |some k=> simp only;rw[ByteArray.size_extract];omega
  |none=>decide
variable{t:P0}
def Ox(h:hZ.find? (n9 s)=some t):t.size=2/\2<=s.size:=by have hm:=List.mem_of_find?_eq_some h;have hp:=List.find?_some h;have:∀t∈hZ,t.size=2:=jC;simp only[n9,Bool.and_eq_true,decide_eq_true_eq]at hp;exact⟨this t hm,jB⟩
def Of(hs:0<s.size):(mm s).size<=s.size:=by
 unfold mm;cases h:hZ.find? (n9 s)with
 |some t=>have:=Ox h;simp only;omega
 |none=>
  cases h2:(List.range 16).find? fun k:Nat=>decide (dV s 0=dV gm (k:Nat))with
  |some k=> simp only;rw[ByteArray.size_extract];omega
  |none=>exact Nat.zero_le _
variable{a:Nat}
def xv(ha:a<s.size)(h:(fS s a).2.2=0):∃e:Nat,(fS s a).2.1=e/\a<e/\e<=s.size:=by
 unfold fS at h ⊢;split at h<;>rename_i h1
 ·rw[if_pos h1]at*;split at h<;>rename_i h2
  ·rw[if_pos h2];exact⟨_,rfl,vf ha h1,(sU jB).2⟩
  ·cases h
 ·rw[if_neg h1]at*;split at h<;>rename_i h2
  ·rw[if_pos h2];have hw:mW (dV s a)=true:=by simp[mW,h2]
   split at h<;>rename_i h3
   ·rw[if_pos h3];exact⟨_,rfl,vf ha hw,(sU jB).2⟩
   ·rw[if_neg h3];split at h<;>rename_i h4
    ·cases h
    ·rw[if_neg h4];exact⟨_,rfl,vf ha hw,(sU jB).2⟩
  ·rw[if_neg h2];split at h<;>rename_i h3
   ·rw[if_pos h3];have hb:=sU (p:=rl) (s:=s) (i:=a+1) jB;simp only[mP]at h ⊢;split at h<;>rename_i h4
    ·rw[if_pos h4];split at h<;>rename_i h5
     ·cases h
     ·rw[if_neg h5];exact⟨gy rl s (a+1)+1,jE,jB,jB⟩
    ·cases h
   ·rw[if_neg h3];split at h<;>rename_i h4
    ·cases h
    ·rw[if_neg h4];have Qh:(s.extract a s.size).size=s.size-a:=by rw[ByteArray.size_extract];omega
     have P':=Of (s:=s.extract a s.size) jB;have Rl:0<(mm (s.extract a s.size)).size:=by
      rcases Nat.eq_zero_or_pos (mm (s.extract a s.size)).size with e|e
      ·exact(h4 (LJ e)).elim
      ·exact e
     exact⟨a+(mm (s.extract a s.size)).size,jE,jB,jB⟩
def km(s:P0):Nat->Nat->List bZ->List bZ×Int×Int
 |0,_,out=>(out,0,0)
 |n+1,i,out=>if i<s.size then
   (if(fS s i).2.2=0 then km s n (mL s (fS s i).2.1.toNat) (out++[(fS s i).1])else([],((i:Nat):Int),(fS s i).2.2))
  else(out++[⟨0,⟨#[]⟩,s.size⟩],0,0)
theorem BY(s:P0):∀(n m i:Nat) (out:List bZ),s.size<n+i->s.size<m+i->i<=s.size->km s n i out=km s m i out
 |0,_,i,_,h,_,h3=>by omega
 |_,0,i,_,_,h,h3=>jB
 |n+1,m+1,i,out,h1,h2,h3=>by
  unfold km;split
  ·rename_i hi;split
   ·rename_i he;obtain⟨e,h4,h5,h6⟩:=xv hi he;rw[h4,Int.toNat_natCast];have:=sX (s:=s) (i:=e) h6;exact BY s n m _ _ jB jB this.2
   ·rfl
  ·rfl
def tR(s:P0)(i:Nat)(out:List bZ):List bZ×Int×Int:=km s (s.size+1) i out
variable{out:List bZ}
def Nf(hi:i<s.size)(he:(fS s i).2.2=0):tR s i out=tR s (mL s (fS s i).2.1.toNat) (out++[(fS s i).1]):=by show km s (s.size+1) i out=km s (s.size+1) _ _;rw[km,if_pos hi,if_pos he];obtain⟨e,h4,h5,h6⟩:=xv hi he;rw[h4,Int.toNat_natCast];have:=sX (s:=s) (i:=e) h6;exact BY s _ _ _ _ jB jB this.2
def M1(hi:i<s.size)(he:(fS s i).2.2≠0):tR s i out=([],((i:Nat):Int),(fS s i).2.2):=by show km s (s.size+1) i out=_;rw[km,if_pos hi,if_neg he]
def Hv(hi:¬i<s.size):tR s i out=(out++[⟨0,⟨#[]⟩,s.size⟩],0,0):=by show km s (s.size+1) i out=_;rw[km,if_neg hi]
def jg(s:P0):List bZ×Int×Int:=if(s.size:Int)>600 then([],0,4)else tR s (mL s 0) []
structure Rd where
 src:ByteArray
 l:List bZ
 i:Int
 nodes:List bl
 deep:Int
 e:Int
 at_:Int
 deriving Inhabited
namespace Rd
def tok(r:Rd):bZ:=nth r.l r.i.toNat
def aD(r:Rd)(e:Int):Rd:=if r.e=0 then{ r with e:=e,at_:=r.tok.at_ }else r
def is(r:Rd)(t:P0):Bool:=decide (r.e=0) && (decide (r.tok.kind=5) || decide (r.tok.kind=4)) && decide (r.tok.text=t)
def kind(r:Rd)(k:Int):Bool:=decide (r.e=0) && decide (r.tok.kind=k)
def inc(r:Rd):Rd:={ r with i:=r.i+1 }
def ar(r:Rd)(t:P0):Rd:=if r.is t=true then r.inc else r.aD 20
def name(r:Rd):Rd×P0:=if r.kind 3=true then(r.inc,r.tok.text)else(r.aD 20,⟨#[]⟩)
def cv(r:Rd):Int:=mX r.src (min r.src.size r.tok.at_.toNat)
def node(r:Rd)(n:bl):Rd:={ r with nodes:=r.nodes++[n] }
def put(r:Rd)(k ln n:Int)(nm:P0)(L:PY):Rd×Int:=(r.node ⟨k,ln,n,nm,L⟩,r.nodes.length)
def down(r:Rd):Rd:={ (if 16<=r.deep then r.aD 21 else r)with deep:=r.deep+1 }
def up(r:Rd):Rd:={ r with deep:=r.deep-1 }
end Rd
def lG(level:Int):List P0:=
 if level=0 then[(⟨#[124,124]⟩:P0)]else if level=1 then[(⟨#[38,38]⟩:P0)]else if level=2 then[(⟨#[60]⟩:P0),(⟨#[60,61]⟩:P0),(⟨#[61,61]⟩:P0),(⟨#[33,61]⟩:P0)]else if level=3 then[(⟨#[43]⟩:P0),(⟨#[45]⟩:P0)]else[(⟨#[42]⟩:P0),(⟨#[47]⟩:P0),(⟨#[37]⟩:P0)]
namespace Rd
section
variable (r:Rd)(e:Int)
@[go_sem] def DE:(r.aD e).src=r.src:=by unfold aD;split<;>rfl
@[go_sem] def fI:(r.aD e).l=r.l:=by unfold aD;split<;>rfl
@[go_sem] def tW:(r.aD e).i=r.i:=by unfold aD;split<;>rfl
@[go_sem] def dr:(r.aD e).nodes=r.nodes:=by unfold aD;split<;>rfl
@[go_sem] def OM:(r.aD e).deep=r.deep:=by unfold aD;split<;>rfl
end
section
variable (r:Rd)
@[go_sem] def j52:(r.inc.src=r.src)/\(r.inc.l=r.l)/\(r.inc.i=r.i+1)/\(r.inc.nodes=r.nodes)/\(r.inc.deep=r.deep)/\(r.inc.e=r.e)/\(r.inc.at_=r.at_)/\(r.up.src=r.src)/\(r.up.l=r.l)/\(r.up.i=r.i)/\(r.up.nodes=r.nodes)/\(r.up.deep=r.deep-1)/\(r.up.e=r.e)/\(r.up.at_=r.at_):=by and_intros<;>(intros;rfl)
end
def next(r:Rd)(level:Int):P0:=match (lG level).find? (fun s=>r.is s)with
 |some s=>s
 |none=>⟨#[]⟩
def l9(r:Rd):bZ:=nth r.l (r.i+1).toNat
def calls(r:Rd):Bool:=r.kind 3 && decide (r.l9.kind=5) && decide (r.l9.text=(⟨#[40]⟩:P0))
def word(r:Rd):P0:=if r.kind 4=true then r.tok.text else⟨#[]⟩
end Rd
def uC(s:P0):Nat->Int
 |0=>0
 |k+1=>uC s k*10+(dV s k-48)
def nB(s:P0):Int:=uC s s.size
mutual
def oI:Nat->Rd->Rd×Int
 |0,r=>(r,0)
 |n+1,r=>
  if r.e≠0 then(r,0)
  else if r.tok.kind=1 then r.inc.put 1 r.cv (nB r.tok.text) ⟨#[]⟩ []
  else if r.tok.kind=2 then r.inc.put 3 r.cv 0 r.tok.text []
  else if r.tok.kind=3 then
   (if r.inc.is (⟨#[91]⟩:P0)=true then
    (((dG n 0 (r.inc.down.ar (⟨#[91]⟩:P0))).1.ar (⟨#[93]⟩:P0)).up).put 5 r.cv 0 r.tok.text [(dG n 0 (r.inc.down.ar (⟨#[91]⟩:P0))).2]
   else r.inc.put 4 r.cv 0 r.tok.text [])
  else if r.is (⟨#[116,114,117,101]⟩:P0)=true then r.inc.put 2 r.cv 1 ⟨#[]⟩ []
  else if r.is (⟨#[102,97,108,115,101]⟩:P0)=true then r.inc.put 2 r.cv 0 ⟨#[]⟩ []
  else if r.is (⟨#[108,101,110]⟩:P0)=true then
   (if r.inc.is (⟨#[40]⟩:P0)=true then
    (((dG n 0 (r.inc.down.ar (⟨#[40]⟩:P0))).1.ar (⟨#[41]⟩:P0)).up).put 6 r.cv 0 ⟨#[]⟩ [(dG n 0 (r.inc.down.ar (⟨#[40]⟩:P0))).2]
   else(r.inc.aD 20,0))
  else if r.is (⟨#[40]⟩:P0)=true then
   (((dG n 0 (r.down.ar (⟨#[40]⟩:P0))).1.ar (⟨#[41]⟩:P0)).up,(dG n 0 (r.down.ar (⟨#[40]⟩:P0))).2)
  else(r.aD 20,0)
def gl:Nat->Rd->Rd×Int
 |0,r=>(r,0)
 |n+1,r=>
  if r.is (⟨#[45]⟩:P0)=true then((gl n r.down.inc).1.up).put 7 r.cv 0 ⟨#[]⟩ [(gl n r.down.inc).2]
  else if r.is (⟨#[33]⟩:P0)=true then((gl n r.down.inc).1.up).put 8 r.cv 0 ⟨#[]⟩ [(gl n r.down.inc).2]
  else oI n r
def dG:Nat->Nat->Rd->Rd×Int
 |0,_,r=>(r,0)
 |n+1,lv,r=>if lv=5 then gl n r else mO n lv r.cv (dG n (lv+1) r)
def mO:Nat->Nat->Int->Rd×Int->Rd×Int
 |0,_,_,p=>p
 |n+1,lv,ln,p=>
  if p.1.next lv=⟨#[]⟩then p
  else if lv=2 then((dG n (lv+1) p.1.inc).1).put 9 ln 0 (p.1.next lv) [p.2,(dG n (lv+1) p.1.inc).2]
  else mO n lv ln (((dG n (lv+1) p.1.inc).1).put 9 ln 0 (p.1.next lv) [p.2,(dG n (lv+1) p.1.inc).2])
end
-- what is kept
def Rd.rem(r:Rd):Nat:=if r.e=0 then(r.l.length-r.i).toNat else 0
def Rd.dv(r:Rd):Int:=r.nodes.length+3*(r.l.length-r.i)+if r.e=0 then 1 else 0
def pd(s:P0):Prop:=0<s.size/\uk s=true/\∀j,j<s.size->iL (dV s j)=true
structure Rd.Inv(r:Rd):Prop where
 src:r.src.size<=1000
 pos:0<=r.i
 lt:r.i<r.l.length
 len:r.l.length<=2000
 num:∀k,k<r.l.length->(nth r.l k).kind=1->pd (nth r.l k).text
 tk:∀k,k<r.l.length->(nth r.l k).kind≠0->k+1<r.l.length
 nr:0<=r.deep
 n7:r.deep<=17
 Nn:r.e=0->r.deep<=16
 dv:r.dv<=8000
structure Rd.St(r r':Rd):Prop where
 src:r'.src=r.src
 l:r'.l=r.l
 deep:r'.deep=r.deep
 i:r.i<=r'.i
 lt:r'.i<r.l.length
 dv:r'.dv<=r.dv
 err:r.e≠0->r'.e≠0
variable{r r':Rd}
def Rd.St.inv(s:Rd.St r r')(h:r.Inv):r'.Inv:=by
 obtain⟨s1,s2,s3,s4,s5,s6,s7⟩:=s;obtain⟨h1,h2,h3,h4,hn,h5,h6,h7,h8,h9⟩:=h;exact⟨by rw[s1];exact h1,jB,by rw[s2];exact s5,by rw[s2];exact h4,by rw[s2];exact hn,by rw[s2];exact h5,jB,jB,fun h=>by rw[s3];exact h8 (Classical.byContradiction fun e=>s7 e h),jB⟩
def Rd.St.refl(h:r.Inv):Rd.St r r:=⟨rfl,rfl,rfl,Int.le_refl _,h.lt,Int.le_refl _,id⟩
theorem Rd.St.trans{a b c:Rd}(h:Rd.St a b)(k:Rd.St b c):Rd.St a c:=
 ⟨k.src.trans h.src,k.l.trans h.l,k.deep.trans h.deep,Int.le_trans h.i k.i,by have:=k.lt;rw[h.l]at this;exact this,Int.le_trans k.dv h.dv,fun e=>k.err (h.err e)⟩
theorem Rd.St.rem{r r':Rd}(s:Rd.St r r'):r'.rem<=r.rem:=by
 unfold Rd.rem;have h1:=s.i;have h2:=s.l;by_cases e:r.e=0
 ·rw[if_pos e,h2];split<;>omega
 ·rw[if_neg e,if_neg (s.err e)];exact Nat.le_refl _
def Rd.behind(h:r.Inv)(hk:r.tok.kind≠0):r.i+1<r.l.length:=by have:=h.tk r.i.toNat (by have:=h.lt;have:=h.pos;omega) hk;have:=h.pos;omega
def Rd.aV(h:r.is t=true):r.e=0/\r.tok.kind≠0:=by simp only[Rd.is,Bool.and_eq_true,Bool.or_eq_true,decide_eq_true_eq]at h;exact⟨h.1.1,by rcases h.1.2 with h|h<;>omega⟩
def Rd.du{k:Int}(h:r.kind k=true)(h0:k≠0):r.e=0/\r.tok.kind≠0:=by simp only[Rd.kind,Bool.and_eq_true,decide_eq_true_eq]at h;exact⟨h.1,jB⟩
def Rd.eR(h:r.Inv)(e:Int)(he:e≠0):Rd.St r (r.aD e):=by
 refine⟨DE _ _,fI _ _,OM _ _,by rw[tW];exact Int.le_refl _,by rw[tW];exact h.lt,?_,fun h1=>by unfold aD;rw[if_neg h1];exact h1⟩;unfold Rd.dv;rw[dr,fI,tW];by_cases e0:r.e=0
 ·have:(r.aD e).e=e:=by unfold aD;rw[if_pos e0]
  rw[this,if_pos e0,if_neg he];omega
 ·have:(r.aD e).e=r.e:=by unfold aD;rw[if_neg e0]
  rw[this];omega
def Rd.bm(h:r.Inv)(hk:r.tok.kind≠0):Rd.St r r.inc/\r.inc.dv=r.dv-3:=by
 have:=Rd.behind h hk;have e:r.inc.dv=r.dv-3:=by simp only[Rd.dv,Rd.inc];omega
 exact⟨⟨rfl,rfl,rfl,by simp only[Rd.inc];omega,by simp only[Rd.inc];omega,jB,id⟩,e⟩
def Rd.aH(h:r.Inv)(t:P0):Rd.St r (r.ar t):=by
 unfold Rd.ar;split
 ·rename_i hs;exact(Rd.bm h (Rd.aV hs).2).1
 ·exact Rd.eR h 20 jC
def Rd.cX(h:r.Inv):Rd.St r r.name.1:=by
 unfold Rd.name;split
 ·rename_i hs;exact(Rd.bm h (Rd.du hs jC).2).1
 ·exact Rd.eR h 20 jC
def Rd.kJ(r:Rd)(n:bl):(r.node n).dv=r.dv+1:=by simp only[Rd.dv,Rd.node,List.length_append,List.length_cons,List.length_nil];omega
def Rd.cH(s:Rd.St r r')(hp:r'.dv+1<=r.dv)(k ln n:Int)(nm:P0)(L:PY):Rd.St r (r'.put k ln n nm L).1:=
 ⟨s.src,s.l,s.deep,s.i,s.lt,by show(r'.node _).dv<=_;rw[Rd.kJ];exact hp,s.err⟩
def Rd.qX:r.down.e=(if 16<=r.deep then r.aD 21 else r).e:=rfl
def Rd.bG(h:r.Inv)(he:r.e=0):r.down.Inv/\r.down.dv<=r.dv/\r.down.i=r.i/\r.down.l=r.l/\r.down.src=r.src/\r.down.deep=r.deep+1:=by
 have hd:=h.Nn he;have hi:r.down.i=r.i:=by unfold Rd.down;split<;>simp[tW]
 have hl:r.down.l=r.l:=by unfold Rd.down;split<;>simp[fI]
 have hs:r.down.src=r.src:=by unfold Rd.down;split<;>simp[DE]
 have hn:r.down.nodes=r.nodes:=by unfold Rd.down;split<;>simp[dr]
 have Xv:r.down.deep=r.deep+1:=rfl;have VK:r.down.e=0->r.deep<16:=fun e=>by
  rw[Rd.qX]at e;split at e
  ·unfold aD at e;rw[if_pos he]at e;cases e
  ·omega
 have hp:r.down.dv<=r.dv:=by unfold Rd.dv;rw[hn,hl,hi,if_pos he];split<;>omega
 refine⟨⟨by rw[hs];exact h.src,by rw[hi];exact h.pos,by rw[hi,hl];exact h.lt,by rw[hl];exact h.len,by rw[hl];exact h.num,by rw[hl];exact h.tk,by have:=h.nr;omega,jB,fun e=>by have:=VK e;omega,by have:=h.dv;omega⟩,hp,hi,hl,hs,Xv⟩
def Rd.eG(h:r.Inv)(he:r.e=0)(s:Rd.St r.down r'):Rd.St r r'.up:=by obtain⟨_,h1,h2,h3,h4,h5⟩:=Rd.bG h he;exact⟨s.src.trans h4,s.l.trans h3,by show r'.deep-1=_;rw[s.deep,h5];omega,by show r.i<=r'.i;rw[<-h2];exact s.i,by show r'.i<_;rw[<-h3];exact s.lt,by show r'.dv<=_;have:=s.dv;omega,fun e=>(e he).elim⟩
def Rd.j5{lv:Int}(h:r.next lv≠⟨#[]⟩):r.is (r.next lv)=true:=by
 unfold Rd.next at h ⊢;cases e:(lG lv).find? (fun s=>r.is s)with
 |none=>rw[e]at h;exact(h rfl).elim
 |some s=>exact List.find?_some e
def Rd.cK(h:r.Inv)(hk:r.e=0/\r.tok.kind≠0):r.inc.rem+1<=r.rem:=by have:=Rd.behind h hk.2;unfold Rd.rem;rw[if_pos hk.1,if_pos (show r.inc.e=0 from hk.1)];have:r.inc.i=r.i+1:=rfl;have:r.inc.l=r.l:=rfl;simp only[*];omega
theorem qh:∀n,(∀r:Rd,r.Inv->Rd.St r (oI n r).1)/\(∀r:Rd,r.Inv->Rd.St r (gl n r).1)/\(∀lv (r:Rd),r.Inv->Rd.St r (dG n lv r).1)/\(∀lv ln (p:Rd×Int),p.1.Inv->Rd.St p.1 (mO n lv ln p).1)
 |0=>⟨fun r h=>by unfold oI;exact .refl h,fun r h=>by unfold gl;exact .refl h,fun lv r h=>by unfold dG;exact .refl h,fun lv ln p h=>by unfold mO;exact .refl h⟩
 |n+1=>by
  obtain⟨ia,jM,ic,il⟩:=qh n
  -- a token, and what is behind it, aZ
  have aZ:∀(r:Rd) (t u:P0),r.Inv->r.e=0->Rd.St r ((dG n 0 (r.down.ar t)).1.ar u).up:=fun r t u h he=>by have h1:=(Rd.bG h he).1;have s1:=Rd.aH h1 t;have s2:=ic 0 _ (s1.inv h1);have s12:=s1.trans s2;have s3:=Rd.aH (s12.inv h1) u;exact Rd.eG h he (s12.trans s3)
  refine⟨fun r h=>?_,fun r h=>?_,fun lv r h=>?_,fun lv ln p h=>?_⟩
  ·unfold oI;split
   ·exact .refl h
   rename_i he;have he:r.e=0:=jB;split
   ·rename_i hk;obtain⟨s1,e1⟩:=Rd.bm h jB;exact Rd.cH s1 jB _ _ _ _ _
   split
   ·rename_i hk;obtain⟨s1,e1⟩:=Rd.bm h jB;exact Rd.cH s1 jB _ _ _ _ _
   split
   ·rename_i hk;obtain⟨s1,e1⟩:=Rd.bm h jB;split
    ·have s2:=aZ r.inc (⟨#[91]⟩:P0) (⟨#[93]⟩:P0) (s1.inv h) he;exact Rd.cH (s1.trans s2) (by have:=s2.dv;omega) _ _ _ _ _
    ·exact Rd.cH s1 jB _ _ _ _ _
   split
   ·rename_i hs;obtain⟨s1,e1⟩:=Rd.bm h (Rd.aV hs).2;exact Rd.cH s1 jB _ _ _ _ _
   split
   ·rename_i hs;obtain⟨s1,e1⟩:=Rd.bm h (Rd.aV hs).2;exact Rd.cH s1 jB _ _ _ _ _
   split
   ·rename_i hs;obtain⟨s1,e1⟩:=Rd.bm h (Rd.aV hs).2;split
    ·have s2:=aZ r.inc (⟨#[40]⟩:P0) (⟨#[41]⟩:P0) (s1.inv h) he;exact Rd.cH (s1.trans s2) (by have:=s2.dv;omega) _ _ _ _ _
    ·exact s1.trans (Rd.eR (s1.inv h) 20 jC)
   split
   ·exact aZ r (⟨#[40]⟩:P0) (⟨#[41]⟩:P0) h he
   ·exact Rd.eR h 20 jC
  ·unfold gl;have sg:∀t,r.is t=true->∀k ln nm,Rd.St r (((gl n r.down.inc).1.up).put k ln 0 nm [(gl n r.down.inc).2]).1:=fun t ht k ln nm=>by
    obtain⟨he,hk⟩:=Rd.aV ht;obtain⟨h1,h2,h3,h4,_⟩:=Rd.bG h he;have SS:r.down.tok=r.tok:=by unfold Rd.tok;rw[h3,h4]
    obtain⟨s1,e1⟩:=Rd.bm h1 (by rw[SS];exact hk);have s2:=jM _ (s1.inv h1);exact Rd.cH (Rd.eG h he (s1.trans s2)) (by have:=s2.dv;show(gl n r.down.inc).1.dv+1<=_;omega) _ _ _ _ _
   split
   ·rename_i ht;exact sg _ ht _ _ _
   split
   ·rename_i ht;exact sg _ ht _ _ _
   ·exact ia r h
  ·unfold dG;split
   ·exact jM r h
   ·have s1:=ic (lv+1) r h;exact s1.trans (il _ _ _ (s1.inv h))
  ·unfold mO;split
   ·exact .refl h
   rename_i hn;obtain⟨s1,e1⟩:=Rd.bm h (Rd.aV (Rd.j5 hn)).2;have s2:=ic (lv+1) _ (s1.inv h);have s3:=fun L=>Rd.cH (s1.trans s2) (by have:=s2.dv;omega) 9 ln 0 (p.1.next lv) L
   split
   ·exact s3 _
   ·exact(s3 _).trans (il _ _ _ ((s3 _).inv h))
def cJ(r:Rd):Rd×Int:=dG (8*r.rem+8) 0 r
def lO:Nat->Bool->Rd->PY->Rd×PY
 |0,_,r,L=>(r,L)
 |_+1,false,r,L=>(r,L)
 |n+1,true,r,L=>if(cJ r).1.is (⟨#[44]⟩:P0)=true then lO n true (cJ r).1.inc (L++[(cJ r).2])else((cJ r).1,L++[(cJ r).2])
def more(r:Rd):Bool:=!(r.is (⟨#[41]⟩:P0)) && decide (r.e=0)
def nt(r:Rd):Rd:=r.name.1.ar (⟨#[40]⟩:P0)
def mq(r:Rd):Rd×PY:=lO ((nt r).rem+2) (more (nt r)) (nt r) []
def lq(r:Rd):Rd×Int:=((mq r).1.ar (⟨#[41]⟩:P0)).put 21 r.cv 0 r.name.2 (mq r).2
def j2(r:Rd):Rd×Int:=
 if r.is (⟨#[105,110,112,117,116]⟩:P0)=true then r.inc.put 19 r.cv 0 ⟨#[]⟩ []
 else if r.is (⟨#[110,101,119]⟩:P0)=true then((cJ (r.inc.ar (⟨#[40]⟩:P0))).1.ar (⟨#[41]⟩:P0)).put 20 r.cv 0 ⟨#[]⟩ [(cJ (r.inc.ar (⟨#[40]⟩:P0))).2]
 else if r.calls=true then lq r else cJ r
def nA(r:Rd):Rd×Int:=cJ (r.down.ar (⟨#[91]⟩:P0))
def tS(r:Rd):Rd×Int:=cJ (((nA r).1.ar (⟨#[93]⟩:P0)).up.ar (⟨#[61]⟩:P0))
def nY(r:Rd)(ln:Int):Rd×Int:=
 if r.calls=true then((lq r).1.ar (⟨#[59]⟩:P0)).put 13 ln 0 ⟨#[]⟩ [(lq r).2]
 else if r.name.1.is (⟨#[91]⟩:P0)=true then((tS r.name.1).1.ar (⟨#[59]⟩:P0)).put 12 ln 0 r.name.2 [(nA r.name.1).2,(tS r.name.1).2]
 else((j2 (r.name.1.ar (⟨#[61]⟩:P0))).1.ar (⟨#[59]⟩:P0)).put 11 ln 0 r.name.2 [(j2 (r.name.1.ar (⟨#[61]⟩:P0))).2]
mutual
def fb:Nat->Rd->Rd×Int
 |0,r=>(r,0)
 |n+1,r=>
  if r.is (⟨#[123]⟩:P0)=true then((lp n (r.down.ar (⟨#[123]⟩:P0)) []).1.ar (⟨#[125]⟩:P0)).up.put 18 r.cv 0 ⟨#[]⟩ (lp n (r.down.ar (⟨#[123]⟩:P0)) []).2
  else(r.aD 20,0)
def lp:Nat->Rd->PY->Rd×PY
 |0,r,L=>(r,L)
 |n+1,r,L=>if r.e=0/\r.is (⟨#[125]⟩:P0)=false then lp n (my n r).1 (L++[(my n r).2])else(r,L)
def my:Nat->Rd->Rd×Int
 |0,r=>(r,0)
 |n+1,r=>
  if r.word=(⟨#[108,101,116]⟩:P0)then((j2 (r.inc.name.1.ar (⟨#[61]⟩:P0))).1.ar (⟨#[59]⟩:P0)).put 10 r.cv 0 r.inc.name.2 [(j2 (r.inc.name.1.ar (⟨#[61]⟩:P0))).2]
  else if r.word=(⟨#[112,114,105,110,116]⟩:P0)then((cJ r.inc).1.ar (⟨#[59]⟩:P0)).put 14 r.cv 0 ⟨#[]⟩ [(cJ r.inc).2]
  else if r.word=(⟨#[119,104,105,108,101]⟩:P0)then(fb n (cJ r.inc).1).1.put 16 r.cv 0 ⟨#[]⟩ [(cJ r.inc).2,(fb n (cJ r.inc).1).2]
  else if r.word=(⟨#[105,102]⟩:P0)then
   (if(fb n (cJ r.inc).1).1.is (⟨#[101,108,115,101]⟩:P0)=true then(fb n (fb n (cJ r.inc).1).1.inc).1.put 15 r.cv 0 ⟨#[]⟩ [(cJ r.inc).2,(fb n (cJ r.inc).1).2,(fb n (fb n (cJ r.inc).1).1.inc).2]
   else(fb n (cJ r.inc).1).1.put 15 r.cv 0 ⟨#[]⟩ [(cJ r.inc).2,(fb n (cJ r.inc).1).2])
  else if r.word=(⟨#[114,101,116,117,114,110]⟩:P0)then
   (if r.inc.is (⟨#[59]⟩:P0)=true then(r.inc.ar (⟨#[59]⟩:P0)).put 17 r.cv 0 ⟨#[]⟩ []
   else((cJ r.inc).1.ar (⟨#[59]⟩:P0)).put 17 r.cv 0 ⟨#[]⟩ [(cJ r.inc).2])
  else nY r r.cv
end
def mU(r:Rd):Rd×Int:=fb (4*r.rem+4) r
def qy(w:P0):Int:=if w=(⟨#[105,110,116]⟩:P0)then 1 else if w=(⟨#[98,111,111,108]⟩:P0)then 2 else if w=(⟨#[116,101,120,116]⟩:P0)then 3 else if w=(⟨#[108,105,115,116]⟩:P0)then 4 else 0
def gG(r:Rd):Rd×Int:=if qy r.word=0 then(r.aD 20,0)else(r.inc,qy r.word)
def nW(r:Rd):Rd:=(gG r.name.1).1
def lh:Nat->Bool->Rd->List bM->Rd×List bM
 |0,_,r,L=>(r,L)
 |_+1,false,r,L=>(r,L)
 |n+1,true,r,L=>if(nW r).is (⟨#[44]⟩:P0)=true then lh n true (nW r).inc (L++[⟨r.name.2,(gG r.name.1).2⟩])else(nW r,L++[⟨r.name.2,(gG r.name.1).2⟩])
def lP(r:Rd):Rd:=(r.ar (⟨#[102,110]⟩:P0)).name.1.ar (⟨#[40]⟩:P0)
def qn(r:Rd):Rd×List bM:=lh ((lP r).rem+2) (more (lP r)) (lP r) []
def j9(r:Rd):Rd:=(qn r).1.ar (⟨#[41]⟩:P0)
def kT(r:Rd):Rd×Int:=if(j9 r).is (⟨#[123]⟩:P0)=true then(j9 r,0)else gG (j9 r)
def lx(r:Rd):Rd×bg:=((mU (kT r).1).1,⟨(r.ar (⟨#[102,110]⟩:P0)).name.2,r.cv,(qn r).2,(kT r).2,(mU (kT r).1).2⟩)
def oh:Nat->Rd->List bg->Rd×List bg
 |0,r,L=>(r,L)
 |n+1,r,L=>if r.e=0/\r.kind 0=false then oh n (lx r).1 (L++[(lx r).2])else(r,L)
def mD(s:P0):Rd:=⟨s,(jg s).1,0,[],0,0,0⟩
def lY(s:P0):Rd×List bg:=oh ((mD s).rem+1) (mD s) []
def rT(t:List bl)(L:List bg):Bool:=decide (300<t.length) || decide (6<L.length) || L.any fun f=>decide (3<f.params.length)
def fO(s:P0):aE×Int×Int:=
 if(jg s).2.2≠0 then(⟨[],[]⟩,(jg s).2.1,(jg s).2.2)
 else if(lY s).1.e≠0 then(⟨[],[]⟩,(lY s).1.at_,(lY s).1.e)
 else if rT (lY s).1.nodes (lY s).2=true then(⟨[],[]⟩,0,4)
 else(⟨(lY s).1.nodes,(lY s).2⟩,0,0)
-- what is kept
def Rd.St.qZ(s:Rd.St r r')(h:r.Inv)(he:r.e=0)(hi:r.i+1<=r'.i):r'.rem+1<=r.rem:=by have h1:=s.l;have h2:=s.lt;have h3:=h.pos;unfold Rd.rem;rw[if_pos he,h1];split<;>omega
def Rd.St.j3(h:r.Inv)(he:r.e=0)(hi:r'.e≠0):r'.rem+1<=r.rem:=by have h2:=h.lt;have h3:=h.pos;unfold Rd.rem;rw[if_pos he,if_neg hi];omega
def Rd.fH{e:Int}(he:e≠0):(r.aD e).e≠0:=by
 unfold Rd.aD;split
 ·exact he
 ·assumption
def Rd.mj(h:r.Inv)(he:r.e=0)(t:P0):(r.ar t).rem+1<=r.rem/\(r.ar t).dv+1<=r.dv:=by
 unfold Rd.ar;split
 ·rename_i hs;have hk:=Rd.aV hs;exact⟨Rd.cK h hk,by rw[(Rd.bm h hk.2).2];omega⟩
 ·have UK:=Rd.fH (r:=r) (e:=20) jC;refine⟨Rd.St.j3 h he UK,?_⟩;unfold Rd.dv;rw[dr,fI,tW,if_pos he,if_neg UK];omega
def Rd.pr(h:r.Inv)(he:r.e=0):r.name.1.rem+1<=r.rem/\r.name.1.dv+1<=r.dv:=by
 unfold Rd.name;split
 ·rename_i hs;have hk:=Rd.du hs jC;exact⟨Rd.cK h hk,by show r.inc.dv+1<=_;rw[(Rd.bm h hk.2).2];omega⟩
 ·have UK:=Rd.fH (r:=r) (e:=20) jC;refine⟨Rd.St.j3 h he UK,?_⟩;show(r.aD 20).dv+1<=_;unfold Rd.dv;rw[dr,fI,tW,if_pos he,if_neg UK];omega
def Rd.fF(h:r.Inv)(ht:r.is t=true):(r.down.ar t).rem+1<=r.rem/\(r.down.ar t).dv+1<=r.dv:=by
 obtain⟨he,hk⟩:=Rd.aV ht;obtain⟨h1,h2,h3,h4,h5,h6⟩:=Rd.bG h he;by_cases e:r.down.e=0
 ·obtain⟨a,b⟩:=Rd.mj h1 e t;have:r.down.rem<=r.rem:=by
   unfold Rd.rem;rw[if_pos he,if_pos e,h3,h4];exact Nat.le_refl _
  omega
 ·have hs:=Rd.aH h1 t;have e2:(r.down.ar t).e≠0:=hs.err e;refine⟨Rd.St.j3 h he e2,?_⟩;have:r.down.dv+1<=r.dv:=by
   have hn:r.down.nodes=r.nodes:=by unfold Rd.down;split<;>simp[dr]
   unfold Rd.dv;rw[hn,h4,h3,if_pos he,if_neg e];omega
  have:=hs.dv;omega
def ix(h:r.Inv):Rd.St r (cJ r).1:=(qh _).2.2.1 0 r h
theorem yE:∀(n:Nat) (b:Bool) (r:Rd) (L:PY),r.Inv->Rd.St r (lO n b r L).1
 |0,_,r,L,h=>by unfold lO;exact .refl h
 |n+1,false,r,L,h=>by unfold lO;exact .refl h
 |n+1,true,r,L,h=>by
  have s1:=ix h;have h1:=s1.inv h;unfold lO;split
  ·rename_i hs;have s2:=(Rd.bm h1 (Rd.aV hs).2).1;exact(s1.trans s2).trans (yE n _ _ _ (s2.inv h1))
  ·exact s1
def xI(h:r.Inv):Rd.St r (nt r):=(Rd.cX h).trans (Rd.aH ((Rd.cX h).inv h) _)
def yA(h:r.Inv):Rd.St r (mq r).1:=(xI h).trans (yE _ _ _ _ ((xI h).inv h))
def HG(h:r.Inv):Rd.St r ((mq r).1.ar (⟨#[41]⟩:P0)):=(yA h).trans (Rd.aH ((yA h).inv h) _)
def Rd.iM(h:r.calls=true):r.kind 3=true:=by unfold Rd.calls at h;simp only[Bool.and_eq_true]at h;exact h.1.1
def zi(h:r.Inv)(hc:r.calls=true):Rd.St r (lq r).1/\(lq r).1.dv+2<=r.dv/\(lq r).1.rem+1<=r.rem:=by
 have hk:=Rd.du (Rd.iM hc) jC;have hn:r.name.1=r.inc:=by unfold Rd.name;rw[if_pos (Rd.iM hc)]
 obtain⟨s1,e1⟩:=Rd.bm h hk.2;have h1:=s1.inv h;have s2:Rd.St r.inc ((mq r).1.ar (⟨#[41]⟩:P0)):=by
  have a1:Rd.St r.inc (nt r):=by unfold nt;rw[hn];exact Rd.aH h1 _
  have a2:Rd.St r.inc (mq r).1:=a1.trans (yE _ _ _ _ (a1.inv h1));exact a2.trans (Rd.aH (a2.inv h1) _)
 have hp:=s2.dv;have s3:=Rd.cH (s1.trans s2) jB 21 r.cv 0 r.name.2 (mq r).2;refine⟨s3,?_,?_⟩
 ·show(((mq r).1.ar (⟨#[41]⟩:P0)).node _).dv+2<=_;rw[Rd.kJ];omega
 ·refine s3.qZ h hk.1 ?_;have:=s2.i;exact this
def wP(h:r.Inv):Rd.St r (j2 r).1:=by
 unfold j2;split
 ·rename_i hs;obtain⟨s1,e1⟩:=Rd.bm h (Rd.aV hs).2;exact Rd.cH s1 jB _ _ _ _ _
 split
 ·rename_i hs;obtain⟨s1,e1⟩:=Rd.bm h (Rd.aV hs).2;have h1:=s1.inv h;have s2:=Rd.aH h1 (⟨#[40]⟩:P0);have s3:=ix (s2.inv h1);have s23:=s2.trans s3;have s4:=s23.trans (Rd.aH (s23.inv h1) (⟨#[41]⟩:P0));exact Rd.cH (s1.trans s4) (by have:=s4.dv;omega) _ _ _ _ _
 split
 ·rename_i hc;exact(zi h hc).1
 ·exact ix h
def AR(h:r.Inv)(hs:r.is (⟨#[91]⟩:P0)=true):Rd.St r.down (nA r).1/\Rd.St r ((nA r).1.ar (⟨#[93]⟩:P0)).up:=by have he:=(Rd.aV hs).1;have h1:=(Rd.bG h he).1;have s1:=Rd.aH h1 (⟨#[91]⟩:P0);have s2:=s1.trans (ix (s1.inv h1));exact⟨s2,Rd.eG h he (s2.trans (Rd.aH (s2.inv h1) _))⟩
def wY(h:r.Inv)(hs:r.is (⟨#[91]⟩:P0)=true):Rd.St r (((nA r).1.ar (⟨#[93]⟩:P0)).up.ar (⟨#[61]⟩:P0))/\Rd.St r (tS r).1:=by have s1:=(AR h hs).2;have s2:=s1.trans (Rd.aH (s1.inv h) (⟨#[61]⟩:P0));exact⟨s2,s2.trans (ix (s2.inv h))⟩
def Oh(h:r.Inv)(he:r.e=0)(ln:Int):Rd.St r (nY r ln).1/\(nY r ln).1.rem+1<=r.rem:=by
 unfold nY;have s0:=Rd.cX h;have h0:=s0.inv h;obtain⟨n1,n2⟩:=Rd.pr h he
 -- a name, and what is behind it
 have fin:∀(q:Rd) k L,Rd.St r.name.1 q->Rd.St r (q.put k ln 0 r.name.2 L).1/\(q.put k ln 0 r.name.2 L).1.rem+1<=r.rem:=fun q k L s=>by refine⟨Rd.cH (s0.trans s) (by have:=s.dv;omega) _ _ _ _ _,?_⟩;have:=s.rem;show q.rem+1<=_;omega
 split
 ·rename_i hc;obtain⟨s1,p1,r1⟩:=zi h hc;have s2:=Rd.aH (s1.inv h) (⟨#[59]⟩:P0);refine⟨Rd.cH (s1.trans s2) (by have:=s2.dv;omega) _ _ _ _ _,?_⟩;have:=s2.rem;show((lq r).1.ar (⟨#[59]⟩:P0)).rem+1<=_;omega
 split
 ·rename_i hs;have s1:=(wY h0 hs).2;exact fin _ _ _ (s1.trans (Rd.aH (s1.inv h0) _))
 ·have s1:=Rd.aH h0 (⟨#[61]⟩:P0);have s2:=s1.trans (wP (s1.inv h0));exact fin _ _ _ (s2.trans (Rd.aH (s2.inv h0) _))
def Rd.fC{w:P0}(h:r.word=w)(h0:w≠⟨#[]⟩):r.kind 4=true:=by
 unfold Rd.word at h;split at h
 ·assumption
 ·exact absurd h.symm h0
theorem qd:∀n,(∀r:Rd,r.Inv->Rd.St r (fb n r).1)/\(∀(r:Rd) L,r.Inv->Rd.St r (lp n r L).1)/\(∀r:Rd,r.Inv->r.e=0->0<n->Rd.St r (my n r).1/\(my n r).1.rem+1<=r.rem)
 |0=>⟨fun r h=>by unfold fb;exact .refl h,fun r L h=>by unfold lp;exact .refl h,fun r h he hn=>by omega⟩
 |n+1=>by
  obtain⟨ib,is,it⟩:=qd n;refine⟨fun r h=>?_,fun r L h=>?_,fun r h he _=>?_⟩
  ·unfold fb;split
   ·rename_i hs;have he:=(Rd.aV hs).1;have h1:=(Rd.bG h he).1;have s1:=Rd.aH h1 (⟨#[123]⟩:P0);have s2:=is _ [] (s1.inv h1);have s12:=s1.trans s2;have s3:=Rd.aH (s12.inv h1) (⟨#[125]⟩:P0);have hp:=(Rd.fF h hs).2;refine Rd.cH (Rd.eG h he (s12.trans s3)) ?_ _ _ _ _ _;have:=s2.dv;have:=s3.dv;show((lp n (r.down.ar (⟨#[123]⟩:P0)) []).1.ar (⟨#[125]⟩:P0)).dv+1<=_;omega
   ·exact Rd.eR h 20 jC
  ·unfold lp;split
   ·rename_i hc;cases n with
    |zero=>unfold lp my;exact .refl h
    |succ n=> have s1:=(it r h hc.1 jB).1;exact s1.trans (is _ _ (s1.inv h))
   ·exact .refl h
  ·-- a word, and what is behind it
   have fin:∀(w:P0) (q:Rd) k ln nm L,w≠⟨#[]⟩->r.word=w->(r.inc.Inv->Rd.St r.inc q)->Rd.St r (q.put k ln 0 nm L).1/\(q.put k ln 0 nm L).1.rem+1<=r.rem:=fun w q k ln nm L h0 hw s=>by have hk:=Rd.du (Rd.fC hw h0) jC;obtain⟨s1,e1⟩:=Rd.bm h hk.2;have s2:=s (s1.inv h);refine⟨Rd.cH (s1.trans s2) (by have:=s2.dv;omega) _ _ _ _ _,?_⟩;have:=s2.rem;have:=Rd.cK h hk;show q.rem+1<=_;omega
   unfold my;split
   ·rename_i hw;refine fin _ _ _ _ _ _ jC hw fun h1=>?_
    have s1:=Rd.cX h1;have s2:=s1.trans (Rd.aH (s1.inv h1) (⟨#[61]⟩:P0));have s3:=s2.trans (wP (s2.inv h1));exact s3.trans (Rd.aH (s3.inv h1) _)
   split
   ·rename_i hw;refine fin _ _ _ _ _ _ jC hw fun h1=>?_
    have s1:=ix h1;exact s1.trans (Rd.aH (s1.inv h1) _)
   split
   ·rename_i hw;refine fin _ _ _ _ _ _ jC hw fun h1=>?_
    have s1:=ix h1;exact s1.trans (ib _ (s1.inv h1))
   split
   ·rename_i hw;split
    ·rename_i hs;refine fin _ _ _ _ _ _ jC hw fun h1=>?_
     have s1:=ix h1;have s2:=s1.trans (ib _ (s1.inv h1));have h2:=s2.inv h1;have s3:=(Rd.bm h2 (Rd.aV hs).2).1;exact(s2.trans s3).trans (ib _ (s3.inv h2))
    ·refine fin _ _ _ _ _ _ jC hw fun h1=>?_
     have s1:=ix h1;exact s1.trans (ib _ (s1.inv h1))
   split
   ·rename_i hw;split
    ·exact fin _ _ _ _ _ _ jC hw fun h1=>Rd.aH h1 _
    ·refine fin _ _ _ _ _ _ jC hw fun h1=>?_
     have s1:=ix h1;exact s1.trans (Rd.aH (s1.inv h1) _)
   ·exact Oh h he _
def A0(h:r.Inv):Rd.St r (mU r).1:=(qd _).1 r h
def Ii(h:qy r.word≠0):r.e=0/\r.tok.kind≠0:=by refine Rd.du (k:=4) (Rd.fC (r:=r) rfl fun e=>?_) jC;rw[e]at h;exact h jC
def DU(h:r.Inv):Rd.St r (gG r).1:=by
 unfold gG;split
 ·exact Rd.eR h 20 jC
 ·rename_i ht;exact(Rd.bm h (Ii ht).2).1
def CV(h:r.Inv):Rd.St r (nW r):=(Rd.cX h).trans (DU ((Rd.cX h).inv h))
theorem Cf:∀(n:Nat) (b:Bool) (r:Rd) (L:List bM),r.Inv->Rd.St r (lh n b r L).1
 |0,_,r,L,h=>by unfold lh;exact .refl h
 |n+1,false,r,L,h=>by unfold lh;exact .refl h
 |n+1,true,r,L,h=>by
  have s1:=CV h;have h1:=s1.inv h;unfold lh;split
  ·rename_i hs;have s2:=(Rd.bm h1 (Rd.aV hs).2).1;exact(s1.trans s2).trans (Cf n _ _ _ (s2.inv h1))
  ·exact s1
def oC(h:r.Inv):Rd.St r (r.ar (⟨#[102,110]⟩:P0))/\Rd.St r (r.ar (⟨#[102,110]⟩:P0)).name.1/\Rd.St r (lP r)/\Rd.St (r.ar (⟨#[102,110]⟩:P0)) (lP r):=by have s1:=Rd.aH h (⟨#[102,110]⟩:P0);have h1:=s1.inv h;have s2:=Rd.cX h1;have s3:=s2.trans (Rd.aH (s2.inv h1) (⟨#[40]⟩:P0));exact⟨s1,s1.trans s2,s1.trans s3,s3⟩
def Bo(h:r.Inv):Rd.St (r.ar (⟨#[102,110]⟩:P0)) (qn r).1:=(oC h).2.2.2.trans (Cf _ _ _ _ ((oC h).2.2.1.inv h))
def ws(h:r.Inv):Rd.St (r.ar (⟨#[102,110]⟩:P0)) (j9 r):=(Bo h).trans (Rd.aH ((Bo h).inv ((oC h).1.inv h)) _)
def wo(h:r.Inv):Rd.St (r.ar (⟨#[102,110]⟩:P0)) (kT r).1:=by
 unfold kT;split
 ·exact ws h
 ·exact(ws h).trans (DU ((ws h).inv ((oC h).1.inv h)))
def GQ(h:r.Inv):Rd.St r (lx r).1/\(r.e=0->(lx r).1.rem+1<=r.rem):=by have h1:=(oC h).1.inv h;have s:=(wo h).trans (A0 ((wo h).inv h1));refine⟨(oC h).1.trans s,fun he=>?_⟩;have:=(Rd.mj h he (⟨#[102,110]⟩:P0)).1;have:(mU (kT r).1).1.rem<=_:=s.rem;show(mU (kT r).1).1.rem+1<=_;omega
def OU{e:Nat}(he:e<=s.size)(hj:a+j<e):dV (s.extract a e) (j:Nat)=dV s ((a+j:Nat):Int):=by unfold dV;have h1:(s.extract a e).data=s.data.extract a e:=jE;rw[h1];simp only[Int.toNat_natCast];have hs:e<=s.data.size:=he;rw[Array.getElem?_extract];rw[jP]
def O6(ha:a<s.size)(h:(fS s a).2.2=0):(fS s a).1.kind≠0/\((fS s a).1.kind=1->pd (fS s a).1.text):=by
 unfold fS at h ⊢;split at h<;>rename_i h1
 ·rw[if_pos h1];split at h<;>rename_i h2
  ·rw[if_pos h2];refine⟨fun e=>(by cases e),fun _=>?_⟩;have hb:=(sU (p:=iL) (s:=s) (i:=a) jB).2;have hp:=vf ha h1;have Qh:(s.extract a (gy iL s a)).size=gy iL s a-a:=by rw[ByteArray.size_extract];omega
   refine⟨by show 0<(s.extract a (gy iL s a)).size;omega,h2,fun j hj=>?_⟩;have hj:j<(s.extract a (gy iL s a)).size:=hj;show iL (dV (s.extract a (gy iL s a)) j)=true;rw[OU hb jB];exact C9 (n:=s.size+1) (i:=a) jB (by show _<gy iL s a;omega)
  ·cases h
 ·rw[if_neg h1];split at h<;>rename_i h2
  ·rw[if_pos h2];split at h<;>rename_i h3
   ·rw[if_pos h3];exact⟨fun e=>(by cases e),fun e=>(by cases e)⟩
   ·rw[if_neg h3];split at h<;>rename_i h4
    ·cases h
    ·rw[if_neg h4];exact⟨fun e=>(by cases e),fun e=>(by cases e)⟩
  ·rw[if_neg h2];split at h<;>rename_i h3
   ·rw[if_pos h3];exact⟨fun e=>(by cases e),fun e=>(by cases e)⟩
   ·rw[if_neg h3];split at h<;>rename_i h4
    ·cases h
    ·rw[if_neg h4];exact⟨fun e=>(by cases e),fun e=>(by cases e)⟩
def yB(t:bZ):Prop:=t.kind≠0/\(t.kind=1->pd t.text)
theorem Dd(s:P0):∀(n i:Nat) (out:List bZ),s.size<n+i->i<=s.size->(km s n i out).2.2=0->out.length<=i->(∀t∈out,yB t)->∃ts,(km s n i out).1=ts++[⟨0,⟨#[]⟩,s.size⟩]/\ts.length<=s.size/\∀t∈ts,yB t
 |0,i,out,h1,h2,_,_,_=>by omega
 |n+1,i,out,h1,h2,he,hl,ho=>by
  unfold km at he ⊢;split at he<;>rename_i hi
  ·rw[if_pos hi];split at he<;>rename_i h3
   ·rw[if_pos h3];obtain⟨e,h4,h5,h6⟩:=xv hi h3;rw[h4,Int.toNat_natCast]at he ⊢;have:=sX (s:=s) (i:=e) h6;refine Dd s n _ _ jB this.2 he (by rw[List.length_append];simp;omega) fun t ht=>?_
    rcases List.mem_append.1 ht with ht|ht
    ·exact ho t ht
    ·rw[List.mem_singleton.1 ht];exact O6 hi h3
   ·exact(h3 he).elim
  ·rw[if_neg hi];exact⟨out,rfl,jB,ho⟩
def L6(he:(jg s).2.2=0):s.size<=600/\∃ts,(jg s).1=ts++[⟨0,⟨#[]⟩,s.size⟩]/\ts.length<=s.size/\∀t∈ts,yB t:=by
 unfold jg at he ⊢;split at he<;>rename_i h
 ·cases he
 ·rw[if_neg h];have h0:=sX (s:=s) (i:=0) (Nat.zero_le _);exact⟨jB,Dd s (s.size+1) _ _ jB h0.2 he jE fun t ht=>by simp at ht⟩
def MF[Inhabited α]{l m:List α}(h:k<l.length):nth (l++m) k=nth l k:=by simp only[nth,List.getD_eq_getElem?_getD,List.getElem?_append_left h]
def dZ[Inhabited α]{l:List α}(h:k<l.length):nth l k∈l:=by rw[gD h];exact List.getElem_mem h
def CI(he:(jg s).2.2=0):(mD s).Inv:=by
 obtain⟨h0,ts,h1,h2,h3⟩:=L6 he;have hl:(mD s).l=ts++[⟨0,⟨#[]⟩,s.size⟩]:=h1;have hn:(mD s).l.length=ts.length+1:=by rw[hl];simp
 have UO:nth (ts++[⟨0,⟨#[]⟩,s.size⟩]:List bZ) ts.length=⟨0,⟨#[]⟩,s.size⟩:=by simp[nth]
 refine⟨by show s.size<=1000;omega,Int.le_refl _,by show(0:Int)<_;omega,jB,fun k hk Qt=>?_,fun k hk Qt=>?_,Int.le_refl _,by show(0:Int)<=17;decide,fun _=>by show(0:Int)<=16;decide,?_⟩
 ·rw[hl]at Qt ⊢;by_cases e:k<ts.length
  ·rw[MF e]at Qt ⊢;exact(h3 _ (dZ e)).2 Qt
  ·have:k=ts.length:=jB;subst this;rw[UO]at Qt;cases Qt
 ·by_cases e:k<ts.length
  ·omega
  ·have:k=ts.length:=jB;subst this;rw[hl,UO]at Qt;exact(Qt rfl).elim
 ·show((0:Nat):Int)+3*((mD s).l.length-0)+1<=8000;omega
end Go.Gd
namespace Go.Proofs.YtghoellpinmenaaGreatDoor
open Go Go.Gd Tryz
@[go_sem] def qcZ:cW prog 3=some 1/\dK prog 3=some false/\dU prog 3=some [.int .i64 0]/\ga prog 3=false/\p8 prog 3=false/\tG prog 3=false/\Ao prog 3=some .i64/\im prog 3=8/\tG prog 4=true/\cW prog 9=some 1/\dK prog 9=some false/\dU prog 9=some [.string ⟨#[]⟩]/\qe prog 9=true/\im prog 9=16/\cW prog 22=some 1/\dK prog 22=some false/\dU prog 22=some [.slice none 0 0]/\gk prog 22=some 3/\iH prog 22=some 1/\ga prog 22=true/\qe prog 22=false/\im prog 22=24/\cW prog 24=some 1/\dK prog 24=some false:=by and_intros<;>kernel_rfl
@[go_sem] def qbL:gk prog 24=some 78/\iH prog 24=some 5/\ga prog 24=true/\cW prog 25=some 1/\dK prog 25=some false/\gk prog 25=some 132/\iH prog 25=some 5/\ga prog 25=true/\cW prog 27=some 2/\dK prog 27=some true/\dU prog 27=some [.slice none 0 0,.slice none 0 0]/\cS prog 27 0=some 0/\cS prog 27 1=some 1/\jo prog 27=some [(0,1),(1,1)]/\cW prog 29=some 6/\dK prog 29=some true/\dU prog 29=some [.slice none 0 0,.slice none 0 0,.slice none 0 0,.slice none 0 0,.slice none 0 0,.slice none 0 0]/\cS prog 29 0=some 0/\cS prog 29 1=some 2/\cS prog 29 2=some 3/\cS prog 29 3=some 4/\cS prog 29 4=some 5/\jo prog 29=some [(0,2),(2,1),(3,1),(4,1),(5,1)]/\cW prog 30=some 1:=by and_intros<;>kernel_rfl
@[go_sem] def qah:dK prog 30=some false/\cW prog 35=some 1/\dK prog 35=some false/\gk prog 35=some 87/\iH prog 35=some 3/\ga prog 35=true/\cW prog 36=some 1/\dK prog 36=some false/\gk prog 36=some 22/\iH prog 36=some 1/\ga prog 36=true/\cW prog 37=some 1/\dK prog 37=some false/\gk prog 37=some 9/\iH prog 37=some 1/\ga prog 37=true/\cW prog 39=some 7/\dK prog 39=some true/\dU prog 39=some [.slice none 0 0,.slice none 0 0,.int .i64 0,.slice none 0 0,.int .i64 0,.int .i64 0,.int .i64 0]/\cS prog 39 0=some 0/\cS prog 39 1=some 1/\cS prog 39 2=some 2/\cS prog 39 3=some 3/\cS prog 39 4=some 4:=by and_intros<;>kernel_rfl
@[go_sem] def j5C:cS prog 39 5=some 5/\cS prog 39 6=some 6/\jo prog 39=some [(0,1),(1,1),(2,1),(3,1),(4,1),(5,1),(6,1)]/\cW prog 45=some 1/\dK prog 45=some false/\gk prog 45=some 52/\iH prog 45=some 5/\ga prog 45=true/\cS prog 47 0=some 0/\cS prog 47 1=some 1/\cW prog 50=some 3/\dK prog 50=some true/\dU prog 50=some [.int .i64 0,.int .i64 0,.string ⟨#[]⟩]/\cS prog 50 0=some 0/\cS prog 50 1=some 1/\cS prog 50 2=some 2/\jo prog 50=some [(0,1),(1,1),(2,1)]/\uZ prog 50=some [.int .i64,.int .i64,.str]/\ga prog 50=false/\p8 prog 50=false/\tG prog 50=false/\im prog 50=32/\cW prog 52=some 5/\dK prog 52=some true:=by and_intros<;>kernel_rfl
@[go_sem] def qcP:dU prog 52=some [.int .i64 0,.string ⟨#[]⟩,.int .i64 0,.int .i64 0,.string ⟨#[]⟩]/\cS prog 52 0=some 0/\cS prog 52 1=some 1/\cS prog 52 2=some 2/\im prog 52=56/\cW prog 67=some 1/\dK prog 67=some false/\gk prog 67=some 50/\iH prog 67=some 3/\ga prog 67=true/\cW prog 78=some 5/\dK prog 78=some true/\dU prog 78=some [.int .i64 0,.int .i64 0,.int .i64 0,.string ⟨#[]⟩,.slice none 0 0]/\cS prog 78 0=some 0/\uV prog 78 0=some (3,0)/\cS prog 78 1=some 1/\cS prog 78 2=some 2/\cS prog 78 3=some 3/\cS prog 78 4=some 4/\uV prog 78 4=some (22,4)/\jo prog 78=some [(0,1),(1,1),(2,1),(3,1),(4,1)]/\im prog 78=64/\wm prog 79=false/\dU prog 82=some [.slice none 0 0,.slice none 0 0,.slice none 0 0,.slice none 0 0,.slice none 0 0,.slice none 0 0,.slice none 0 0,.slice none 0 0,.int .i64 0,.slice none 0 0,.int .i64 0,.int .i64 0,.int .i64 0,.slice none 0 0]:=by and_intros<;>kernel_rfl
@[go_sem] def j5R:cS prog 82 0=some 0/\cS prog 82 1=some 6/\cS prog 82 2=some 13/\jo prog 82=some [(0,6),(6,7),(13,1)]/\cW prog 85=some 1/\dK prog 85=some false/\gk prog 85=some 89/\iH prog 85=some 2/\ga prog 85=true/\cW prog 87=some 3/\dK prog 87=some true/\dU prog 87=some [.int .i64 0,.slice none 0 0,.slice none 0 0]/\cS prog 87 0=some 0/\cS prog 87 1=some 1/\cS prog 87 2=some 2/\jo prog 87=some [(0,1),(1,1),(2,1)]/\im prog 87=56/\cW prog 89=some 2/\dK prog 89=some true/\dU prog 89=some [.int .i64 0,.int .i64 0]/\cS prog 89 0=some 0/\cS prog 89 1=some 1/\jo prog 89=some [(0,1),(1,1)]/\uZ prog 89=some [.int .i64,.int .i64]:=by and_intros<;>kernel_rfl
@[go_sem] def qaA:im prog 89=16/\cW prog 123=some 1/\dK prog 123=some false/\gk prog 123=some 168/\iH prog 123=some 3/\dU prog 128=some [.string ⟨#[]⟩,.slice none 0 0,.int .i64 0,.slice none 0 0,.int .i64 0,.int .i64 0,.int .i64 0]/\cS prog 128 0=some 0/\cS prog 128 1=some 1/\cS prog 128 2=some 2/\cS prog 128 3=some 3/\cS prog 128 4=some 4/\cS prog 128 5=some 5/\cS prog 128 6=some 6/\jo prog 128=some [(0,1),(1,1),(2,1),(3,1),(4,1),(5,1),(6,1)]/\cW prog 129=some 1/\dK prog 129=some false/\dU prog 129=some [.nilFunc]/\cW prog 130=some 1/\dK prog 130=some false/\gk prog 130=some 175/\iH prog 130=some 2/\ga prog 130=true/\cW prog 132=some 5/\dK prog 132=some true:=by and_intros<;>kernel_rfl
@[go_sem] def j92:dU prog 132=some [.string ⟨#[]⟩,.int .i64 0,.slice none 0 0,.int .i64 0,.int .i64 0]/\cS prog 132 0=some 0/\cS prog 132 2=some 2/\cS prog 132 3=some 3/\cS prog 132 4=some 4/\jo prog 132=some [(0,1),(1,1),(2,1),(3,1),(4,1)]/\im prog 132=64/\cW prog 135=some 1/\dK prog 135=some false/\dU prog 135=some [.slice none 0 0]/\gk prog 135=some 179/\iH prog 135=some 3/\ga prog 135=true/\dU prog 137=some [.slice none 0 0,.slice none 0 0,.slice none 0 0,.slice none 0 0,.slice none 0 0,.slice none 0 0,.int .i64 0,.slice none 0 0,.int .i64 0,.int .i64 0,.int .i64 0]/\cS prog 137 0=some 0/\cS prog 137 1=some 6/\cS prog 137 2=some 7/\cS prog 137 3=some 8/\cS prog 137 4=some 9/\cS prog 137 5=some 10/\jo prog 137=some [(0,6),(6,1),(7,1),(8,1),(9,1),(10,1)]/\cW prog 139=some 1/\dK prog 139=some false/\dU prog 141=some [.slice none 0 0,.slice none 0 0,.slice none 0 0,.slice none 0 0,.slice none 0 0,.slice none 0 0,.slice none 0 0,.slice none 0 0,.int .i64 0,.slice none 0 0,.int .i64 0,.int .i64 0,.int .i64 0,.slice none 0 0,.int .i64 0]:=by and_intros<;>kernel_rfl
@[go_sem] def j4e:cS prog 141 0=some 0/\cS prog 141 1=some 6/\cS prog 141 2=some 13/\cS prog 141 3=some 14/\jo prog 141=some [(0,6),(6,7),(13,1),(14,1)]/\cW prog 168=some 3/\dK prog 168=some true/\dU prog 168=some [.int .i64 0,.string ⟨#[]⟩,.int .i64 0]/\cS prog 168 0=some 0/\cS prog 168 1=some 1/\cS prog 168 2=some 2/\jo prog 168=some [(0,1),(1,1),(2,1)]/\im prog 168=32/\cW prog 175=some 2/\dK prog 175=some true/\dU prog 175=some [.string ⟨#[]⟩,.int .i64 0]/\cS prog 175 0=some 0/\cS prog 175 1=some 1/\jo prog 175=some [(0,1),(1,1)]/\im prog 175=24/\cW prog 179=some 3/\dK prog 179=some true/\dU prog 179=some [.string ⟨#[]⟩,.int .i64 0,.int .i64 0]/\cS prog 179 0=some 0:=by and_intros<;>kernel_rfl
@[go_sem] def j4o:cS prog 179 1=some 1/\cS prog 179 2=some 2/\jo prog 179=some [(0,1),(1,1),(2,1)]/\im prog 179=32/\cW prog 290=some 1/\dK prog 290=some false/\dU prog 292=some [.slice none 0 0,.slice none 0 0,.slice none 0 0,.slice none 0 0,.slice none 0 0,.slice none 0 0,.slice none 0 0,.slice none 0 0,.int .i64 0]/\cS prog 292 0=some 0/\cS prog 292 1=some 6/\cS prog 292 2=some 7/\cS prog 292 3=some 8/\jo prog 292=some [(0,6),(6,1),(7,1),(8,1)]/\aQ prog 9=true/\aQ prog 10=true/\aQ prog 11=true/\aQ prog 12=true/\aQ prog 13=true/\aQ prog 14=true/\aQ prog 15=true/\aQ prog 16=true/\aQ prog 17=true/\aQ prog 18=true/\aQ prog 29=true/\aQ prog 30=true:=by and_intros<;>kernel_rfl
@[go_sem] def qaN:aQ prog 31=true/\aQ prog 32=true/\aQ prog 33=true/\aQ prog 34=true/\aQ prog 35=true/\aQ prog 36=true/\aQ prog 37=true/\aQ prog 38=true/\aQ prog 39=true/\aQ prog 40=true/\aQ prog 48=true/\aQ prog 49=true/\aQ prog 52=true/\aQ prog 53=true/\aQ prog 54=true/\aQ prog 55=true/\aQ prog 56=true/\aQ prog 57=true/\aQ prog 58=true/\aQ prog 59=true/\aQ prog 60=true/\aQ prog 61=true/\aQ prog 62=true/\aQ prog 63=true:=by and_intros<;>kernel_rfl
@[go_sem] def qbb:aQ prog 64=true/\aQ prog 65=true/\aQ prog 66=true/\aQ prog 67=true/\aQ prog 68=true/\aQ prog 69=true/\aQ prog 70=true/\aQ prog 71=true/\aQ prog 81=true/\aQ prog 83=true/\aQ prog 84=true/\aQ prog 85=true/\aQ prog 86=true/\aQ prog 87=true/\aQ prog 88=true/\aQ prog 89=true/\aQ prog 90=true/\aQ prog 91=true/\aQ prog 92=true/\aQ prog 93=true/\aQ prog 94=true/\aQ prog 95=true/\aQ prog 96=true/\aQ prog 97=true:=by and_intros<;>kernel_rfl
@[go_sem] def qbz:aQ prog 98=true/\aQ prog 99=true/\aQ prog 100=true/\aQ prog 101=true/\aQ prog 102=true/\aQ prog 103=true/\aQ prog 104=true/\aQ prog 105=true/\aQ prog 110=true/\aQ prog 111=true/\aQ prog 112=true/\aQ prog 116=true/\aQ prog 117=true/\aQ prog 125=true/\aQ prog 126=true/\aQ prog 127=true/\aQ prog 128=true/\aQ prog 129=true/\aQ prog 130=true/\aQ prog 131=true/\aQ prog 132=true/\aQ prog 133=true/\aQ prog 134=true/\aQ prog 135=true:=by and_intros<;>kernel_rfl
@[go_sem] def j7r:aQ prog 136=true/\aQ prog 137=true/\aQ prog 138=true/\aQ prog 139=true/\aQ prog 140=true/\aQ prog 141=true/\aQ prog 142=true/\aQ prog 143=true/\aQ prog 144=true/\aQ prog 145=true/\aQ prog 146=true/\aQ prog 147=true/\aQ prog 148=true/\aQ prog 152=true/\aQ prog 153=true/\aQ prog 154=true/\aQ prog 155=true/\aQ prog 156=true/\aQ prog 157=true/\aQ prog 158=true/\aQ prog 159=true/\aQ prog 160=true/\aQ prog 161=true/\aQ prog 162=true:=by and_intros<;>kernel_rfl
@[go_sem] def j7P:aQ prog 163=true/\aQ prog 164=true/\aQ prog 165=true/\aQ prog 171=true/\aQ prog 173=true/\aQ prog 174=true/\aQ prog 175=true/\aQ prog 176=true/\aQ prog 177=true/\aQ prog 183=true/\aQ prog 184=true/\aQ prog 185=true/\aQ prog 186=true/\aQ prog 192=true/\aQ prog 193=true/\aQ prog 196=true/\aQ prog 224=true/\aQ prog 225=true/\aQ prog 226=true/\aQ prog 227=true/\aQ prog 228=true/\aQ prog 229=true/\aQ prog 230=true/\aQ prog 231=true:=by and_intros<;>kernel_rfl
@[go_sem] def j8d:aQ prog 232=true/\aQ prog 233=true/\aQ prog 234=true/\aQ prog 235=true/\aQ prog 236=true/\aQ prog 237=true/\aQ prog 238=true/\aQ prog 239=true/\aQ prog 240=true/\aQ prog 241=true/\aQ prog 242=true/\aQ prog 243=true/\aQ prog 244=true/\aQ prog 245=true/\aQ prog 246=true/\aQ prog 247=true/\aQ prog 248=true/\aQ prog 249=true/\aQ prog 250=true/\aQ prog 251=true/\aQ prog 252=true/\aQ prog 253=true/\aQ prog 254=true/\aQ prog 255=true:=by and_intros<;>kernel_rfl
@[go_sem] def j8B:aQ prog 256=true/\aQ prog 257=true/\aQ prog 258=true/\aQ prog 259=true/\aQ prog 260=true/\aQ prog 261=true/\aQ prog 262=true/\aQ prog 263=true/\aQ prog 264=true:=by and_intros<;>kernel_rfl
def mixed:prog.follows .mixedOrders=true:=jG
def cQ:oK prog 285=some (false,214):=jG
end Go.Proofs.YtghoellpinmenaaGreatDoor