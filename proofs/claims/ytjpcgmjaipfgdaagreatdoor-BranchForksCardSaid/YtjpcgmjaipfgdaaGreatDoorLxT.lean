/- Lemmas. No conditions. -/
import Derived.Test.YtjpcgmjaipfgdaaGreatDoorGdY
import Derived.ProofKit
import Derived.Deep.Slices
import Derived.Carry
import Derived.Laws.MakeOwn
import Derived.OpenShut
import Derived.MapKept
import Derived.Lib.Overlaps
import Derived.Test.YtjpcgmjaipfgdaaGreatDoorProg
import Derived.KernelRfl
set_option linter.all false
namespace Go.Gd
open Go Go.ChangeShapes Go.WideShapes Go.ChangeAt Go.RowKit Go.Deep
@[reducible] def n0(w:World):NW:={ toWorld:=w,O:=fun _=>False,nm:=fun _ _=>none }
def na(P:U6)(t:U1)(S:UU->Prop):Prop:=
 ∀(T:Type) (enc:U1×Value->T) (w:World) (fuel:Nat) (cs:U4) (x:DataW T×List MemPlace),
  DataW.trod enc P w 0 (fun _=>true) true fuel t cs=some x->∃us,S us/\cn (n0 w) us cs
section
variable {P:U6}{t:U1}
def na.mono{S S':UU->Prop}(h:na P t S)(hs:∀us,S us->S' us):na P t S':=fun T enc w fuel cs x hx=>by obtain⟨us,h1,h2⟩:=h T enc w fuel cs x hx;exact⟨us,hs us h1,h2⟩
def td{w:NW}{a:AV}{v:Value}(h:ay w a v):cn w [a] [v]:=⟨rfl,fun i b u hb hu=>by
 cases i with
 |zero=>simp at hb hu;subst hb hu;exact h
 |succ i=>simp at hb⟩
def vh{w:NW}{a:AV}{v:Value}{us:UU}{vs:U4}(h:ay w a v)(hs:cn w us vs):cn w (a::us) (v::vs):=⟨by simp[hs.1],fun i b u hb hu=>by
 cases i with
 |zero=>simp at hb hu;subst hb hu;exact h
 |succ i=>exact hs.2 i b u (by simpa using hb) (by simpa using hu)⟩
def wD{k:IntKind}(ht:P.underlying t=some (.int k)):na P t (fun us=>∃n:Int,(Lit.int k n).wf=true/\us=[.raw (.int k n)]):=fun T enc w fuel cs x hx=>by obtain⟨n,rfl,_,hwf⟩:=DataW.trod_int ht hx;exact⟨_,⟨n,hwf,rfl⟩,td (.raw _)⟩
def yq(ht:P.underlying t=some .string):na P t (fun us=>∃s:U0,us=[.raw (.string s)]):=fun T enc w fuel cs x hx=>by obtain⟨n,rfl,_,hwf⟩:=DataW.trod_string ht hx;exact⟨_,⟨n,rfl⟩,td (.raw _)⟩
def AK:List (UU->Prop)->UU->Prop
 |[],us=>us=[]
 |S::Ss,us=>∃a b,S a/\AK Ss b/\us=a++b
def AO(P:U6):List Field->List (UU->Prop)->Prop
 |[],[]=>True
 |f::l,S::Ss=>na P f.type S/\AO P l Ss
 |_,_=>False
def xy(P:U6):List Field->Nat->U5
 |[],o,n=>o == n
 |f::l,o,n=>f.offset == o && xy P l (o+P.cellsOf f.type) n
def Qk{w:NW}{us vs:UU}{cs:U4}{o n:Nat}(h1:cn w us ((cs.drop o).take n))(h2:cn w vs (cs.drop (o+n)))(hn:o+n<=cs.length):cn w (us++vs) (cs.drop o):=by
 have l1:us.length=n:=by rw[h1.1,List.length_take,List.length_drop];omega
 refine⟨by rw[List.length_append,l1,h2.1,List.length_drop,List.length_drop];omega,fun i a v ha hv=>?_⟩;by_cases hi:i<n
 ·rw[List.getElem?_append_left jB]at ha;exact h1.2 i a v ha (by rw[List.getElem?_take,if_pos hi];exact hv)
 ·rw[List.getElem?_append_right jB,l1]at ha;refine h2.2 (i-n) a v ha ?_;rw[List.getElem?_drop]at hv ⊢;rw[show o+n+(i-n)=o+i from jB];exact hv
theorem I4{T:Type}{enc:U1×Value->T}{w:World}{m:Nat}{cs:U4}:∀(l:List Field) (Ss:List (UU->Prop)) (o:Nat),AO P l Ss->xy P l o cs.length=true->
  (∀f∈l,∃y,DataW.trod enc P w 0 (fun _=>true) true m f.type ((cs.drop f.offset).take (P.cellsOf f.type))=some y)->∃us,AK Ss us/\cn (n0 w) us (cs.drop o)/\o<=cs.length
 |[],[],o,_,ho,_=>by simp only[xy,beq_iff_eq]at ho;subst ho;exact⟨[],rfl,by rw[List.drop_length];exact⟨rfl,fun i a v ha=>by simp at ha⟩,Nat.le_refl _⟩
 |f::l,S::Ss,o,hd,ho,hf=>by
  simp only[xy,Bool.and_eq_true,beq_iff_eq]at ho;obtain⟨y,hy⟩:=hf f jE;rw[ho.1]at hy;obtain⟨a,ha,Xm⟩:=hd.1 T enc w m _ y hy;obtain⟨b,hb,hrb,Vd⟩:=I4 l Ss _ hd.2 ho.2 fun g hg=>hf g (by simp[hg])
  exact⟨a++b,⟨a,b,ha,hb,rfl⟩,Qk Xm hrb Vd,jB⟩
 |[],_::_,_,hd,_,_=>hd.elim
 |_::_,[],_,hd,_,_=>hd.elim
variable{fs:Array Field}
def yp{Ss:List (UU->Prop)}(ht:P.underlying t=some (.struct fs))(ho:xy P fs.toList 0 (P.cellsOf t)=true)(hd:AO P fs.toList Ss):na P t (AK Ss):=fun T enc w fuel cs x hx=>by
 obtain⟨xs,n,rfl,rfl,hl,hn,hf⟩:=DataW.trod_struct ht hx;obtain⟨us,h1,h2,_⟩:=I4 (T:=T) (enc:=enc) (w:=w) (m:=n) (cs:=cs) fs.toList Ss 0 hd (by rw[hl];exact ho) fun f Z2=>by obtain⟨i,hi,e⟩:=List.getElem_of_mem Z2;have:=hf i f (by rw[<-Array.getElem?_toList,List.getElem?_eq_getElem hi,e]);rw[List.getElem?_eq_getElem (by rw[hn];simpa using hi)]at this;exact⟨_,this⟩
 exact⟨us,h1,by simpa using h2⟩
def Iy{e:U1}{α:Type}[Inhabited α]{ok:α->Prop}{encA:α->UU}{sz:Nat}(ht:P.underlying t=some (.slice e))(hc:P.cellsOf e=sz)(Vi:0<sz)(he:na P e (fun us=>∃a,ok a/\us=encA a))(hl:∀a,(encA a).length=sz) :
  na P t (fun us=>∃l:List α,((∀a∈l,ok a)/\l.length<=9223372036854775807)/\us=[aM encA sz l]):=fun T enc w fuel cs x hx=>by
 rcases open_slice ht hx with⟨rfl,_⟩|⟨a,len,cap,m,n,D,Pl,rfl,_,hlc,Vy,hm,_,hr⟩
 ·exact⟨_,⟨[],⟨jE,jE⟩,rfl⟩,td (.gH _ _ _ _ jE)⟩
 ·simp only[if_true]at hm;obtain rfl:cap=m:=hm.symm;have Vs:∀i,i<len->∃g:α,ok g/\∃cs',w.cells? 0 (a.add (i*sz)) sz=some cs'/\cn (n0 w) (encA g) cs':=fun i hi=>by
   obtain⟨cs',h1,h2⟩:=hr i jB;rw[hc]at h1;obtain⟨us,⟨g,hok,rfl⟩,Vt⟩:=he T enc w n cs' _ h2;exact⟨g,hok,cs',h1,Vt⟩
  obtain⟨g,hg⟩:∃g:Nat->α,∀i,i<len->ok (g i)/\∃cs',w.cells? 0 (a.add (i*sz)) sz=some cs'/\cn (n0 w) (encA (g i)) cs':=by
   classical
   exact⟨fun i=>if h:i<len then(Vs i h).choose else default,fun i hi=>by simp only[dif_pos hi];exact(Vs i hi).choose_spec⟩
  have V8:((List.range len).map g).length=len:=jE;refine⟨_,⟨(List.range len).map g,⟨fun y hy=>?_,by rw[V8];have:cap<=9223372036854775807:=Vy;omega⟩,rfl⟩,td ?_⟩
  ·obtain⟨i,hi,rfl⟩:=List.mem_map.1 hy;exact(hg i (by simpa using hi)).1
  ·have Vf:(((List.range len).map g).map encA).length=len:=jE;have hn:∀i,i<len->(((List.range len).map g).map encA).getD i []=encA (g i):=fun i hi=>by simp[List.getD_eq_getElem?_getD,hi]
   by_cases h0:len=0
   ·subst h0;exact .gH _ _ _ _ jE
   ·have I':∀i j,i<len->j<sz->∃v,w.cell? (a.add (i*sz+j))=some v/\∀u,(encA (g i))[j]?=some u->ay (n0 w) u v:=fun i j hi hj=>by
     obtain⟨_,cs',h1,h2⟩:=hg i hi;obtain⟨_,O',VL⟩:=World.cells?_some h1;have hv:cs'[j]?=some cs'[j]:=List.getElem?_eq_getElem jB;refine⟨cs'[j],?_,fun u hu=>h2.2 j u _ hu hv⟩;rw[<-ye,VL j hj,hv]
    have:=ay.sl (w:=n0 w) (d:=encA default) false sz (((List.range len).map g).map encA) a cap (fun k=>(w.cell? (a.add k)).getD undef) jB jB jE (fun cs V3=>by
     obtain⟨y,_,rfl⟩:=List.mem_map.1 V3;exact hl y) (by
     obtain⟨_,cs',h1,_⟩:=hg 0 jB;have:=World.cells?_block h1 Vi;rwa [pT]at this) (fun h=>h) (fun i j hi hj=>by
     obtain⟨v,hv,_⟩:=I' i j jB hj;rw[hv];rfl) (fun i j u hi hu=>by
     rw[hn i jB]at hu;have hj:j<sz:=by rw[<-hl (g i)];exact(List.getElem?_eq_some_iff.1 hu).1
     obtain⟨v,hv,Vt⟩:=I' i j jB hj;rw[hv];exact Vt u hu)
    rw[Vf]at this;exact this
-- arguments
variable {T:Type}{enc:U1×Value->T}{w:World}{v:Value}{d:DataW T}{ps:List MemPlace}{base:Nat}
def Hw{S:UU->Prop}(ht:P.underlying t=some (.struct fs))(hd:na P t S)(hv:Value.okWide P w .any base t v)(h:DataW.Trod enc P w 0 (fun _=>true) true t v d ps):∃us,S us/\ay (n0 w) (.agg us) v:=by unfold Value.okWide at hv;rw[ht]at hv;obtain⟨cs,rfl,_,_⟩:=hv;obtain⟨fuel,hf⟩:=h;obtain⟨us,hs,hr⟩:=hd T enc w fuel _ _ hf;exact⟨us,hs,.agg us cs (by rw[hr.1];rfl) fun i a u ha hu=>hr.2 i a u ha (by show cs.toList[i]?=_;rw[Array.getElem?_toList];exact hu)⟩
end
section
variable {P:U6}{T:Type}{enc:U1×Value->T}
theorem Fj(hl:laidOutB P=true){W W':World}(hb:Below W.heap.size W W'):∀(ts:List U1) (vs:U4) (ds:List (DataW T)) (ps:List MemPlace),(∀t∈ts,P.readableRec t=true/\t<P.types.size)->
  DataW.TrodAll enc P W 0 (fun _=>true) true ts vs ds ps->(∀x∈ps,x.block<W.heap.size)->DataW.TrodAll enc P W' 0 (fun b=>decide (b<W.heap.size)) true ts vs ds ps
 |[],[],[],ps,_,h,_=>h
 |t::ts,v::vs,d::ds,ps,hr,h,D'=>by obtain⟨p,q,h1,h2,rfl⟩:=h;exact⟨p,q,Below.trod hl (hr t jE).1 (hr t jE).2 h1 hb fun x hx=>D' x (by simp[hx]),Fj hl hb ts vs ds q (fun t ht=>hr t (by simp[ht])) h2 fun x hx=>D' x (by simp[hx]),rfl⟩
 |[],_::_,_,_,_,h,_=>h.elim
 |[],[],_::_,_,_,h,_=>h.elim
 |_::_,[],_,_,_,h,_=>h.elim
 |_::_,_::_,[],_,_,h,_=>h.elim
def Bw{fn:Func}{s:ChangeSpec}{apart oN handsOn:Bool}{W W':World}{args:U3}{ds:List (DataW T)}{before:List MemPlace}{tb:U1}(hW:DataW.Whole enc P fn.params.toList s.vars apart W args.toList ds [] before)
  (hx:Below W.heap.size W W') (hl:laidOutB P=true) (hr:∀t∈fn.params.toList,P.readableRec t=true/\t<P.types.size) (hrt:fn.resultTypes=#[tb]) (hb:P.underlying tb=some .bool) (hv:s.vars=[])
  (e1:(s.fn T (ds++[])).results=[.lit (.bool true)]) (e2:(s.fn T (ds++[])).args=ds) (e3:(s.fn T (ds++[])).vars=[]):s.post enc P fn apart oN handsOn false W args (.bool true) W':=by
 have Z3:=hW;obtain⟨p,q,hA,hV,rfl,hfz,ZH⟩:=hW;rw[hv]at hV;have hq:q=[]:=hV;subst hq;refine⟨ds,[],_,[],p,[],Z3,?_,?_,?_,hx.frame _,fun h=>by cases h⟩
 ·rw[hrt,e1];exact trodAll_mk1 (shut_bool hb true)
 ·rw[e2];exact Fj hl hx _ _ _ _ hr hA fun x Vx=>by simpa using Z3.lt x (by simpa using Vx)
 ·rw[hv,e3];exact rfl
def Io(W:World)(hg:kF (n0 W)):aL (n0 W) (entry []):={
 bS:=hg
 rows:=fun i r h=>(by cases h)
 dn:=fun i m z h=>(by cases h)
 inj:=fun i m j n b t s t' s' h _=>(by cases h)
 own:=fun i m b t s h=>(by cases h)
 fin:=fun b h=>h.elim }
def A4{f:FuncId}{avs:UU}{args:U3}{W:World}(hg:kF (n0 W))(h:aD P f avs (.raw (.bool true)))(ha:cn (n0 W) avs args.toList):Calls P f args W fun e W'=>e=.returned (.bool true)/\Below W.heap.size W W':=by refine(h (n0 W) args (Io W hg) ⟨by rw[ha.1];simp,fun i a v h1 h2=>ha.2 i a v h1 (by rw[Array.getElem?_toList];exact h2)⟩).mono ?_;rintro e w' ⟨v,r,H',w2,rfl,rfl,⟨rfl,_⟩,_,g2,g3⟩;have:=di g2;subst this;exact⟨rfl,⟨g3.os,g3.tape,g3.output,g3.size,fun k hk=>(g3.free k hk (fun h=>h)).1⟩⟩
end
section
variable {P:U6}{f:FuncId}{args cs:UU}{H:Hp}{K:UR}{q:Prop}
def cl{l l0:UT}{r0:AV}(hc:af P f (args++cs) l fun r l'=>r=r0/\l'=l0)(k:q)(h1:re l H:=by exact dv)(h0:aX P f=true:=by exact dv)(h2:aY (fun i=>(ids l).contains i) (args++cs)=true:=by exact dv)(h3:rN (fun i=>(ids l).contains i) l:=by exact dv)
 (h4:oN (ids l) H l0:=by exact dv) (h5:(ids l0).Nodup:=by exact dv) (e:K r0 ⟨H.B,gI H.l l0⟩=q:=by exact fq):fi P (.eW f cs) args H K:=OG h0 (v6 hc h1 h2 h3 h4 h5 (e ▸ k))
def cq{R:AV->Prop}{r0:AV}(hc:aD P f args r0)(k:q)(h0:aX P f=true:=by exact dv)(h2:aY eJ args=true:=by exact dv)(e:R r0=q:=by exact fq) :
  ∃r,(fi P (.raw (.func (.func f) #[] #[])) args H fun r' H'=>r'=r/\H'=H)/\R r:=⟨r0,nw h0 (zX hc h2 ⟨rfl,rfl⟩),e ▸ k⟩
end
def Sub(a' a:AV):Prop:=∀(w:NW) v,ay w a' v->ay w a v
def oJ:UU->UU->Prop
 |[],[]=>True
 |a::l,b::m=>Sub a b/\oJ l m
 |_,_=>False
def Sub.refl(a:AV):Sub a a:=fun _ _ h=>h
def Sub.nil(sz:Nat)(d:UU):Sub (.raw (.slice none 0 0)) (.sl false sz [] d):=fun w v h=>by have:=di h;subst this;exact .gH _ _ _ _ jE
def Sub.lit(sz:Nat)(css:US)(d d':UU):Sub (.sl true sz css d) (.sl false sz css d'):=fun w v h=>by
 cases h with
 |gH _ _ A c _=>exact .gH _ _ _ _ jE
 |sl _ _ _ a c vs hn hc hx Vi hb hH I' h=>exact .sl false sz css a c vs hn hc jE Vi hb hH I' h
theorem oJ.get:∀{l m:UU},oJ l m->l.length=m.length/\∀(i:Nat) a b,l[i]?=some a->m[i]?=some b->Sub a b
 |[],[],_=>⟨rfl,fun i a b h=>by simp at h⟩
 |x::l,y::m,h=>by
  have ih:=oJ.get h.2;refine⟨by simp[ih.1],fun i a b ha hb=>?_⟩;cases i with
  |zero=>simp at ha hb;subst ha hb;exact h.1
  |succ i=>exact ih.2 i a b (by simpa using ha) (by simpa using hb)
 |[],_::_,h=>h.elim
 |_::_,[],h=>h.elim
def sC{P:U6}{f:FuncId}{args args':UU}{r:AV}(hc:aD P f args r)(h:oJ args' args):aD P f args' r:=fun w vs h1 h2=>hc w vs h1 ⟨h.get.1.symm.trans h2.1,fun i a v ha hv=>by
 have hi:i<args'.length:=by rw[h.get.1];exact(List.getElem?_eq_some_iff.1 ha).1
 exact h.get.2 i args'[i] a (List.getElem?_eq_getElem hi) ha w v (h2.2 i _ v (List.getElem?_eq_getElem hi) hv)⟩
end Go.Gd
namespace Go.Gd
open Go
variable{zs:U4}{n sz:Nat}
def SF{w:NW}{z:U3}(hz:z.toList=zs)(hl:zs.length=sz)(h0:0<sz)(k:Nat)(a:AV)(v:Value)(ha:(List.replicate n (zs.map AV.raw)).flatten[k]?=some a)(hv:(madeCells z (n*sz))[k]?=some v):ay w a v:=by
 have Y0:z.size=sz:=by rw[<-hl,<-hz];simp
 have hk:k<n*sz:=by have:=(Array.getElem?_eq_some_iff.1 hv).1;rwa [size_madeCells]at this
 obtain⟨i,j,hi,hj,rfl⟩:=u6 hk;have V3:∀cs∈List.replicate n (zs.map AV.raw),cs.length=sz:=fun cs V3=>by rw[(List.mem_replicate.1 V3).2];simpa using hl
 have hg:=qz V3 (i:=i) (j:=j) (by simpa using hi) hj;rw[hg]at ha;have:(List.replicate n (zs.map AV.raw)).getD i []=zs.map AV.raw:=by simp[List.getD_eq_getElem?_getD,hi]
 rw[this]at ha;simp only[List.getElem?_map,Option.map_eq_some_iff]at ha;obtain⟨x,hx,rfl⟩:=ha;have e:(i*sz+j) % sz=j:=by rw[Nat.add_comm,Nat.add_mul_mod_self_right];exact Nat.mod_eq_of_lt hj
 have:v=x:=by
  have Y9:(madeCells z (n*sz))[i*sz+j]?=some (z[(i*sz+j) % z.size]!):=by simp[madeCells,hk]
  rw[Y9]at hv;have hv:=Option.some.inj hv;rw[<-hv,Y0,e];have hjz:j<z.size:=jB;rw[getElem!_pos z j hjz];have Vx:z.toList[j]?=some x:=by rw[hz];exact hx
  rw[Array.getElem?_toList]at Vx;exact Option.some.inj ((Array.getElem?_eq_getElem hjz).symm.trans Vx)
 subst this;exact .raw _
variable{K:UR}{q:Prop}{t:U1}
def Na{P:U6}{ev:U2}{H:Hp}{ty:U1}(i:Nat){et:U1}{l c:Operand}(k:q)(hl:ev l=.raw (.int .i64 (n:Int)):=by rfl)(hc:ev c=.raw (.int .i64 (n:Int)):=by rfl)(ht:io P t=some et:=by(simp only[go_sem];rfl))(hs:dc P et=some sz:=by(simp only[go_sem];rfl))(hz:dM P et=some zs:=by(simp only[go_sem];rfl))(W7:zs.length=sz:=by rfl)(h0:0<sz:=by decide)(hr:room (jr P et) n:=by(simp only[go_sem];omega))(hi:H.get i=none:=by rfl)
  (e:K (.rs i n sz n) (H.put i (.aJ et sz (List.replicate n (zs.map .raw))))=q:=by exact fq):jo P (.makeSlice t l c) ty ev H K:=fun w ρ dst pos after guard hw hρ=>by
 have h1:=hρ l (by simp[Op.operands]);have h2:=hρ c (by simp[Op.operands]);rw[hl]at h1;rw[hc]at h2;have e1:=di h1;have e2:=di h2;have hu:P.underlying t=some (.slice et):=uw ht;unfold dc at hs;cases hf:P.info? et with
 |none=>rw[hf]at hs;cases hs
 |some inf=>
  rw[hf]at hs;have Vi:inf.size=sz:=by simpa using hs
  have VR:=hz;unfold dM at VR;rw[hf]at VR;simp only[Option.bind_some,Option.map_eq_some_iff]at VR;obtain⟨z,hzz,hbg⟩:=VR;have Zs:jr P et=inf.bytes:=by unfold jr;rw[hf];rfl
  obtain⟨r1,r2⟩:=hr;rw[Zs]at r1;have B':=run_make (P:=P) w.toWorld t et inf z hu hf hzz .i64 .i64 (n:Int) (n:Int) jB jB (by have h:((n*inf.bytes:Nat):Int)<=140737488355328:=jB;rw[Int.natCast_mul,Int.mul_comm]at h;omega) jB
  simp only[Int.toNat_natCast]at B';rw[Vi]at B';have V3:∀cs∈List.replicate n (zs.map AV.raw),cs.length=sz:=fun cs V3=>by rw[(List.mem_replicate.1 V3).2];simpa using W7
  have Wp:=gX V3;simp only[List.length_replicate]at Wp;obtain⟨q1,q2⟩:=wi (row:=.aJ et sz (List.replicate n (zs.map AV.raw))) hw (hw.none hi _) (fun r' hr=>by rw[hi]at hr;cases hr) ⟨h0,V3⟩ (madeCells z.cells (n*sz)) ⟨rfl,by show(List.replicate n (zs.map AV.raw)).flatten.length<=_;rw[Wp,size_madeCells];exact Nat.le_refl _⟩ (fun k a v ha hv=>SF hbg W7 h0 k a v ha hv);refine⟨_,_,.rs i n sz n,e ▸ k,q1,q2,.inl ⟨.slice (some ⟨w.heap.size,0,none⟩) n n,?_,?_⟩⟩
  ·simp only[execOp,e1,e2];simp[B'];rfl
  ·have Vm:(((w.to (w.alloc (.cells (madeCells z.cells (n*sz)) et))).gp w.heap.size).name i n (.at w.heap.size (n*sz) sz)).nm i n=some (.at w.heap.size (n*sz) sz):=NW.cA _ _ _ _;have:=ay.rs (w:=((w.to (w.alloc (.cells (madeCells z.cells (n*sz)) et))).gp w.heap.size).name i n (.at w.heap.size (n*sz) sz)) i n sz n w.heap.size (n*sz) n Vm rfl jl h0;have e3:(Row.aJ et sz (List.replicate n (zs.map AV.raw))).fZ=n:=by show(List.replicate n (zs.map AV.raw)).length=n;simp
   have e4:(madeCells z.cells (n*sz)).size=n*sz:=size_madeCells _ _;rw[e3,e4];exact this
open Go.ChangeShapes Go.WideShapes Go.ChangeAt Go.RowKit
def gC(a k:Nat):Nat:=1000+(8*k+a)
def yL(a k:Nat):1000<=gC a k:=by unfold gC;omega
def AG{a b k j:Nat}(ha:a<8)(hb:b<8)(h:gC a k=gC b j):a=b/\k=j:=by unfold gC at h;omega
def oG(a:Nat)(f:U7):Nat->Nat->List U8->UT
 |_,0,l=>l
 |k,n+1,l=>(gC a k,f k)::oG a f (k+1) n l
def jd(a n:Nat)(f:U7)(l:UT):UT:=oG a f 0 n l
theorem Cb(a:Nat)(ha:a<8)(f:U7)(l:UT):∀(n k j:Nat),aC (oG a f k n l) (gC a j)=if k<=j/\j<k+n then some (f j)else aC l (gC a j)
 |0,k,j=>by unfold oG;rw[jN]
 |n+1,k,j=>by
  show(if gC a j=gC a k then some (f k)else aC (oG a f (k+1) n l) (gC a j))=_;by_cases e:j=k
  ·subst e;rw[if_pos rfl,jP]
  ·rw[if_neg (fun h=>e (AG ha ha h).2),Cb a ha f l n (k+1) j];by_cases h:k+1<=j/\j<k+1+n
   ·rw[if_pos h,jP]
   ·rw[if_neg h,jN]
theorem Ad(a:Nat)(f:U7)(l:UT)(i:Nat)(hi:∀k,i≠gC a k):∀(n k:Nat),aC (oG a f k n l) i=aC l i
 |0,k=>rfl
 |n+1,k=>by show(if i=gC a k then some (f k)else aC (oG a f (k+1) n l) i)=_;rw[if_neg (hi k)];exact Ad a f l i hi n (k+1)
@[go_sem] def wv(a n:Nat)(f:U7)(l:UT)(i:Nat)(h:i<1000):aC (jd a n f l) i=aC l i:=Ad a f l i (fun k e=>by have:=yL a k;omega) n 0
@[go_sem] def ri(a n:Nat)(f:U7)(l:UT)(b k:Nat)(ha:a<8)(hb:b<8)(h:a≠b):aC (jd a n f l) (gC b k)=aC l (gC b k):=Ad a f l _ (fun j e=>h (AG hb ha e).1.symm) n 0
@[go_sem] def uX(a n:Nat)(f:U7)(l:UT)(k:Nat)(ha:a<8)(h:k<n):aC (jd a n f l) (gC a k)=some (f k):=by unfold jd;rw[Cb a ha,jP]
@[go_sem] def UB(a n:Nat)(f:U7)(l:UT)(k:Nat)(ha:a<8)(h:n<=k):aC (jd a n f l) (gC a k)=aC l (gC a k):=by unfold jd;rw[Cb a ha,jN]
def wG(a n:Nat)(ha:a<8)(f:U7)(l:UT)(i:Nat):(∃k,k<n/\i=gC a k/\aC (jd a n f l) i=some (f k))\/((∀k,k<n->i≠gC a k)/\aC (jd a n f l) i=aC l i):=by
 by_cases h:∃k,i=gC a k
 ·obtain⟨k,rfl⟩:=h;by_cases hk:k<n
  ·exact .inl ⟨k,hk,rfl,uX a n f l k ha hk⟩
  ·exact .inr ⟨fun j hj e=>hk ((AG ha ha e).2 ▸ hj),UB a n f l k ha jB⟩
 ·exact .inr ⟨fun k _ e=>h ⟨k,e⟩,Ad a f l i (fun k e=>h ⟨k,e⟩) n 0⟩
def xZ{α:Type}(n:Nat)(f:Nat->α):List α:=(List.range n).map f
def Jh{q:U5}{f:Nat->UU}(h:∀k,k<n->aY q (f k)=true):QL q (xZ n f):=fun c hc=>by obtain⟨k,hk,rfl⟩:=List.mem_map.1 hc;exact h k (by simpa using hk)
variable{B:UZ}{l:UT}
def Jb{r:AV}(l':UT)(h:∀i,aC l i=aC l' i):iT r ⟨B,l⟩ r ⟨B,l'⟩:=fun w v h1 h2=>by
 have hg:∀i,(Hp.mk B l').get i=(Hp.mk B l).get i:=fun i=>(h i).symm
 exact⟨w,rfl,{ rows:=fun i r hi=>h1.rows i r ((hg i) ▸ hi),dn:=fun i m z hz=>by rw[hg];exact h1.dn i m z hz,inj:=h1.inj,own:=h1.own,fin:=h1.fin,bS:=h1.bS },h2,{ ExtQ.refl _ w with base:=rfl }⟩
def DE{w:NW}{l':UT}(h:∀i,aC l i=aC l' i)(h1:aL w ⟨B,l⟩):aL w ⟨B,l'⟩:=by
 have hg:∀i,(Hp.mk B l').get i=(Hp.mk B l).get i:=fun i=>(h i).symm
 exact{ rows:=fun i r hi=>h1.rows i r ((hg i) ▸ hi),dn:=fun i m z hz=>by rw[hg];exact h1.dn i m z hz,inj:=h1.inj,own:=h1.own,fin:=h1.fin,bS:=h1.bS }
structure Lays(E:List (Nat×Row)->List (Nat×Row))(tl:List (Nat×Row)):Prop where
 get:∀i,aC (E tl) i=(aC (E []) i).or (aC tl i)
 apart:∀i r,aC tl i=some r->aC (E []) i=none
def BF{P:U6}{f:FuncId}{args:UU}{tl:UT}{E E':List U8->UT}{r0:AV}(hc:af P f args (E []) fun r l'=>r=r0/\l'=E' [])(h1:Lays E tl)(h2:Lays E' tl)(h3:(ids (E' [])).Nodup)
  (ha:aY (fun i=>(ids (E [])).contains i) args=true) (hr:∀i r,aC (E []) i=some r->aY (fun i=>(ids (E [])).contains i) r.cells=true) (hk:K r0 ⟨B,E' tl⟩) (h4:∀i,aC (E []) i≠none->aC (E' []) i≠none):dm P f args ⟨B,E tl⟩ K:=fun w vs hw hv=>by
 refine(zm (H:=⟨B,E tl⟩) (K:=fun r H'=>r=r0/\∃l',H'=⟨B,l'⟩/\∀i,aC l' i=aC (E' tl) i) hc (fun i r hi=>?_) ha hr (fun r l' ⟨e1,e2⟩=>⟨fun i s hs=>?_,by rw[e2];exact h3,e1,_,rfl,fun i=>?_⟩) hw hv).mono ?_
 ·show aC (E tl) i=some r;rw[h1.get,hi];rfl
 ·cases e:aC (E []) i with
  |some x=>exact .inl (tF e)
  |none=>
   right
   show aC (E tl) i=none;rw[h1.get,e,Option.none_or];cases e':aC tl i with
   |none=>rfl
   |some y=>rw[e2]at hs;have:=h2.apart i y e';rw[this]at hs;cases hs
 ·rw[e2,uM _ _ _ (fun _ _ _=>trivial) h3,h2.get,h1.get];cases e:aC (E' []) i with
  |some x=>rfl
  |none=>
   have:aC (E []) i=none:=Classical.byContradiction fun h=>h4 i h e
   rw[this];rfl
 ·rintro e W ⟨v,r,H',w',rfl,rfl,⟨rfl,l',rfl,hl⟩,g1,g2,g3⟩;exact⟨v,_,⟨B,E' tl⟩,w',rfl,rfl,hk,DE hl g1,g2,{ g3 with base:=rfl }⟩
def cC{P:U6}(i:Nat){H:Hp}(k:q)(hi:H.get i=none:=by first|rfl|exact dv)(hz:dM P t=some zs:=by(simp only[go_sem];rfl))(e:K (.pt i 0 0 0) (H.put i (.var t (zs.map .raw)))=q:=by exact fq):nX P H t K:=At i hz hi (e ▸ k)
def bv(i:Nat){x:AV}{H:Hp}(k:q)(hi:H.get i=none:=by first|rfl|exact dv)(ho:cZ x.cells=true:=by simp only[go_sem])(e:K (.pt i 0 0 0) (H.put i (.var t x.cells))=q:=by exact fq):sq H t x K:=AD i ho hi (e ▸ k)
section
variable {α:Type}[DecidableEq α]
def oM(n:α):List α->UU->Option AV
 |k::ks,v::vs=>if n=k then some v else oM n ks vs
 |_,_=>none
def l4(n:α)(x:AV):List α->UU->UU
 |k::ks,v::vs=>if n=k then x::vs else v::l4 n x ks vs
 |_,_=>[x]
def mD(n:α):List α->List α
 |k::ks=>if n=k then k::ks else k::mD n ks
 |[]=>[n]
theorem D7(n:α)(x:AV):∀(ks:List α) (vs:UU),ks.length=vs.length->(mD n ks).length=(l4 n x ks vs).length
 |[],[],_=>rfl
 |[],_::_,h=>by simp at h
 |_::_,[],h=>by simp at h
 |k::ks,v::vs,h=>by
  have h:ks.length=vs.length:=by simpa using h
  unfold mD l4;split
  ·simp[h]
  ·simp[D7 n x ks vs h]
structure kI(P:Program)(kt:TypeId)(enc:α->Value):Prop where
 T1:∃d,P.underlying kt=some d/\∀a b,Instr.sameNow d (enc a) (enc b)=some (decide (a=b))
 Ao:∀(w:World) a e,(Instr.checkKey e 10000 kt (enc a)).run P w=.ok () w
 bits:∀a,Instr.sameBits 10000 (enc a) (enc a)=true
variable{P:U6}{kt:U1}
def Nk(h:P.underlying kt=some (.int .i64)):kI P kt (Value.int .i64):=⟨⟨_,h,fun a b=>by simp[Instr.sameNow];rfl⟩,fun w a e=>MapKept.run_checkKey h (by simp[MapKept.IsKey]) e 9999,fun a=>by unfold Instr.sameBits;simp⟩
def O4(h:P.underlying kt=some .string):kI P kt Value.string:=⟨⟨_,h,fun a b=>by
 have:(a == b)=decide (a=b):=by rw[Bool.eq_iff_iff,MapKept.bytes_beq];simp
 simp only[Instr.sameNow,this]⟩,fun w a e=>MapKept.run_checkKey h (by simp[MapKept.IsKey]) e 9999,fun a=>by unfold Instr.sameBits;exact(MapKept.bytes_beq a a).2 rfl⟩
def nV(n:α):List α->U4->Nat->Option (Nat×Value)
 |k::ks,v::vs,i=>if n=k then some (i,v)else nV n ks vs (i+1)
 |_,_,_=>none
theorem Es{d:TypeDesc}{enc:α->Value}(h:∀a b,Instr.sameNow d (enc a) (enc b)=some (decide (a=b)))(n:α):∀(ks:List α) (vs:U4) (b i:Nat),Instr.findNow d (enc n) (jf b (ks.map enc) vs) i=some (nV n ks vs i)
 |[],vs,b,i=>by simp[jf,nV,Instr.findNow]
 |k::ks,[],b,i=>by simp[jf,nV,Instr.findNow]
 |k::ks,v::vs,b,i=>by
  simp only[List.map_cons,jf,nV,Instr.findNow,h];by_cases e:n=k
  ·simp[e]
  ·simp[e,Es h n ks vs (b+1) (i+1)]
theorem Cp{n:α}:∀{ks:List α} {vs:U4} {i j:Nat} {v:Value},nV n ks vs i=some (j,v)->∃k,j=i+k/\vs[k]?=some v/\ks[k]?=some n/\k<ks.length/\
  (∀zl:UU,zl.length=ks.length->oM n ks zl=zl[k]?/\(∀x,l4 n x ks zl=zl.set k x))/\mD n ks=ks
 |[],_,_,_,_,h=>by simp[nV]at h
 |_::_,[],_,_,_,h=>by simp[nV]at h
 |k::ks,v'::vs,i,j,v,h=>by
  unfold nV at h;split at h
  ·rename_i e;cases h;refine⟨0,rfl,rfl,by simp[e],jE,fun zl hl=>?_,by simp[mD,e]⟩;cases zl with
   |nil=>simp at hl
   |cons a zl=>exact⟨by simp[oM,e],fun x=>by simp[l4,e]⟩
  ·rename_i e;obtain⟨q,h1,h2,h3,h5,h4,h6⟩:=Cp h;refine⟨q+1,jB,by simpa using h2,by simpa using h3,by simpa using h5,fun zl hl=>?_,by unfold mD;rw[if_neg e,h6]⟩;cases zl with
   |nil=>simp at hl
   |cons a zl=> obtain⟨g1,g2⟩:=h4 zl (by simpa using hl);exact⟨by unfold oM;rw[if_neg e,g1];rfl,fun x=>by unfold l4;rw[if_neg e,g2];rfl⟩
theorem CC{n:α}:∀{ks:List α} {vs:U4} {i:Nat},ks.length=vs.length->nV n ks vs i=none->(∀zl:UU,zl.length=ks.length->oM n ks zl=none/\∀x,l4 n x ks zl=zl++[x])/\mD n ks=ks++[n]
 |[],_,_,_,_=>⟨fun zl hl=>by
   have:zl=[]:=by simpa using hl
   subst this;exact⟨rfl,fun x=>rfl⟩,rfl⟩
 |_::_,[],_,h,_=>by simp at h
 |k::ks,v'::vs,i,hl,h=>by
  unfold nV at h;split at h
  ·cases h
  ·rename_i e;obtain⟨g1,g2⟩:=CC (by simpa using hl) h;refine⟨fun zl Xp=>?_,by unfold mD;rw[if_neg e,g2];rfl⟩;cases zl with
   |nil=>simp at Xp
   |cons a zl=> obtain⟨q1,q2⟩:=g1 zl (by simpa using Xp);exact⟨by unfold oM;rw[if_neg e,q1],fun x=>by unfold l4;rw[if_neg e,q2];rfl⟩
theorem Gf:∀(b:Nat) (ks vs:U4) (k v:Value),ks.length=vs.length->jf b (ks++[k]) (vs++[v])=jf b ks vs++[⟨k,v,b+ks.length⟩]
 |b,[],[],k,v,_=>by simp[jf]
 |b,[],_::_,k,v,h=>by simp at h
 |b,_::_,[],k,v,h=>by simp at h
 |b,k'::ks,v'::vs,k,v,h=>by have:=Gf (b+1) ks vs k v (by simpa using h);simp only[List.cons_append,jf,this,List.length_cons];rw[show b+1+ks.length=b+(ks.length+1) from jB]
theorem KH:∀(b:Nat) (ks vs:U4) (j:Nat) (k v:Value),ks[j]?=some k->vs[j]?=some v->(jf b ks vs)[j]?=some ⟨k,v,b+j⟩
 |b,[],_,j,k,v,h,_=>by simp at h
 |b,_::_,[],j,k,v,_,h=>by simp at h
 |b,k'::ks,v'::vs,0,k,v,h1,h2=>by simp at h1 h2;subst h1 h2;rfl
 |b,k'::ks,v'::vs,j+1,k,v,h1,h2=>by have:=KH (b+1) ks vs j k v (by simpa using h1) (by simpa using h2);simp only[jf,List.getElem?_cons_succ,this];rw[show b+1+j=b+(j+1) from jB]
theorem EV:∀(b:Nat) (ks vs:U4) (j:Nat) (k v:Value),ks[j]?=some k->j<vs.length->jf b ks (vs.set j v)=(jf b ks vs).modify j fun e=>{ e with key:=k,val:=v }
 |b,[],_,j,k,v,h,_=>by simp at h
 |b,_::_,[],j,k,v,_,h=>by simp at h
 |b,k'::ks,v'::vs,0,k,v,h1,_=>by simp at h1;subst h1;simp[jf]
 |b,k'::ks,v'::vs,j+1,k,v,h1,h2=>by have:=EV (b+1) ks vs j k v (by simpa using h1) (by simpa using h2);simp[jf,this]
def Ei{enc:α->Value}(K:kI P kt enc)(w:World)(n:α)(ks:List α)(vs:U4)(b:Nat):(Instr.findKey kt (enc n) (jf b (ks.map enc) vs)).run P w=.ok (nV n ks vs 0) w:=by obtain⟨d,h1,h2⟩:=K.T1;simp[Instr.findKey,run_underlying h1,Es h2,Result.andThen]
end
section
variable {P:U6}{H:Hp}{α:Type}[DecidableEq α]
variable{i:Nat}{vs:UU}
def Ki{w:NW}(hw:aL w H){ks:U4}{b t s:Nat}(hi:H.get i=some (.mp ks vs))(hn:w.nm i 0=some (.at b t s)) :
  s=0/\ks.length=vs.length/\∃cur:U3,w.heap[b]?=some (.map (jf 0 ks cur.toList).toArray ks.length)/\cur.size=vs.length/\∀(k:Nat) a v,vs[k]?=some a->cur[k]?=some v->ay w a v:=by
 obtain⟨hok,z,hz,Vq⟩:=hw.rows _ _ hi;have:z=.at b t s:=by have hz:w.nm i 0=some z:=hz;rw[hn]at hz;cases hz;rfl
 subst this;obtain⟨h1,cur,hh,VU,hr⟩:=Vq;exact⟨h1,hok,cur,hh,VU,hr⟩
variable{ty t:U1}{K:UR}{q:Prop}
def tI(i:Nat){ev:U2}(k:q)(hi:H.get i=none:=by first|rfl|exact dv)(e:K (.mr i) (H.put i (.mp [] []))=q:=by exact fq):jo P (.makeMap t none) ty ev H K:=fun w ρ dst pos after guard hw hρ=>by
 obtain⟨q1,q2⟩:=wi (row:=.mp [] []) hw (hw.none hi _) (fun r' hr=>by rw[hi]at hr;cases hr) rfl #[] rfl (fun k a v ha hv=>by have ha:([]:UU)[k]?=some a:=ha;simp at ha)
 refine⟨_,_,.mr i,e ▸ k,q1,q2,.inl ⟨.map (some w.heap.size),?_,.mr _ _ _ _ (NW.cA _ _ _ _)⟩⟩;simp[execOp,Instr.makeMap,newObj,Result.andThen];rfl
variable{et:U1}{om ox:Operand}{op:Op}{enc:α->Value}
def HE{ev:U2}{kt:U1}{ok:Operand}{ks:List α}{n:α}{x:AV}(Xa:op=.insert t om ok ox\/op=.mapUpdate t om ok ox)(hK:kI P kt enc)(ht:P.underlying t=some (.map kt et))
  (hm:ev om=.mr i) (hk:ev ok=.raw (enc n)) (hx:ev ox=x) (hi:H.get i=some (.mp (ks.map enc) vs)) (k:q) (e:K .any (H.put i (.mp ((mD n ks).map enc) (l4 n x ks vs)))=q):jo P op ty ev H K:=fun w ρ dst pos after guard hw hρ=>by
 have ho:om∈op.operands.toList/\ok∈op.operands.toList/\ox∈op.operands.toList:=by rcases Xa with rfl|rfl<;>simp[Op.operands]
 have h1:=hρ om ho.1;have h2:=hρ ok ho.2.1;have h3:=hρ ox ho.2.2;rw[hm]at h1;rw[hk]at h2;rw[hx]at h3;have e2:=di h2;cases e1:ρ om with
 |map r=>
  rw[e1]at h1;cases h1 with
  |mr _ b u s hn=>
  obtain⟨rfl,hl,cur,hh,Vi,hr⟩:=Ki hw hi hn;have hl:ks.length=vs.length:=by simpa using hl
  have Vf:ks.length=cur.toList.length:=by simp;omega
  have hb:b<w.heap.size:=hw.lt hn;have run:∀(vs':U4) (ks':List α),ks'.length=vs'.length->(l4 n x ks vs).length=vs'.length->mD n ks=ks'->
    (Instr.mapUpdate t (ρ om) (ρ ok) (ρ ox)).run P w.toWorld=.ok () { w.toWorld with heap:=w.heap.setIfInBounds b (.map (jf 0 (ks'.map enc) vs').toArray ks'.length) }->
    (∀(k:Nat) a v,(l4 n x ks vs)[k]?=some a->vs'[k]?=some v->ay w a v)->∃(w':NW) (H':Hp) (r:AV),K r H'/\aL w' H'/\Ext w H w' H'/\((∃v,(execOp ρ ⟨dst,op,ty,pos,after,guard⟩).run P w.toWorld=.ok (.value v) w'.toWorld/\ay w' r v)\/((execOp ρ ⟨dst,op,ty,pos,after,guard⟩).run P w.toWorld=.ok .skip w'.toWorld/\r=.any)):=fun vs' ks' Wt Vn YA B' Vt=>by
   obtain⟨g1,g2⟩:=HW (W:={ w.toWorld with heap:=w.heap.setIfInBounds b (.map (jf 0 (ks'.map enc) vs').toArray ks'.length) }) (row:=.mp (ks.map enc) vs) (row':=.mp ((mD n ks).map enc) (l4 n x ks vs)) hw hi hn rfl jl (by show((mD n ks).map enc).length=_;rw[List.length_map];exact D7 n x ks vs hl) rfl rfl rfl jE (fun c hc=>by
    show(w.heap.setIfInBounds b _)[c]?=_;rw[Array.getElem?_setIfInBounds,if_neg (fun h=>hc h.symm)]) vs'.toArray (by
    show(w.heap.setIfInBounds b _)[b]?=_;rw[Array.getElem?_setIfInBounds,if_pos rfl,if_pos hb,YA];simp[Row.obj]) (by show vs'.toArray.size=_;simp;omega) (fun k a v ha hv=>Vt k a v ha (by simpa using hv))
   refine⟨_,_,.any,e ▸ k,g1,g2,.inr ⟨?_,rfl⟩⟩;rcases Xa with rfl|rfl
   ·simp only[execOp,B'];simp[B',Result.andThen];rfl
   ·simp only[execOp,B'];simp[B',Result.andThen];rfl
  have Wc:=Ei hK w.toWorld n ks cur.toList 0;cases hf:nV n ks cur.toList 0 with
  |none=>
   obtain⟨f1,f2⟩:=CC Vf hf;obtain⟨f3,f4⟩:=f1 vs jB;refine run (cur.toList++[ρ ox]) (ks++[n]) jF (by rw[f4];simp;omega) f2 ?_ ?_
   ·rw[e1,e2];have es:=Gf 0 (ks.map enc) cur.toList (enc n) (ρ ox) (by simpa using Vf);rw[Nat.zero_add,List.length_map]at es;rw[List.map_append,List.map_singleton,es];simp[Instr.mapUpdate,run_underlying ht,MapKept.run_getObj_map hh,hK.Ao,Wc,hf,MapKept.run_setObj_map _ hh,Result.andThen]
   ·intro k a v ha hv;rw[f4]at ha;rcases Nat.lt_or_ge k vs.length with h|h
    ·rw[List.getElem?_append_left h]at ha;rw[List.getElem?_append_left jF]at hv;exact hr k a v ha (by simpa using hv)
    ·rw[List.getElem?_append_right h]at ha;rw[List.getElem?_append_right jF]at hv;have Vo:k-vs.length=0:=by
      have:=(List.getElem?_eq_some_iff.1 ha).1;simp at this;omega
     rw[Vo]at ha;rw[show k-cur.toList.length=0 by simp;omega]at hv;simp at ha hv;subst ha hv;exact h3
  |some jv=>
   obtain⟨j,v0⟩:=jv;obtain⟨k0,rfl,f2,f3,f5,f4,f6⟩:=Cp hf;rw[Nat.zero_add]at hf;obtain⟨f7,f8⟩:=f4 vs jB;refine run (cur.toList.set k0 (ρ ox)) ks jF (by rw[f8];simp;omega) f6 ?_ ?_
   ·rw[e1,e2];have Xz:(ks.map enc)[k0]?=some (enc n):=by simp[f3]
    have es:=EV 0 (ks.map enc) cur.toList k0 (enc n) (ρ ox) Xz jB;have eg:=KH 0 (ks.map enc) cur.toList k0 (enc n) v0 Xz f2;rw[es];have hmod:∀g,(jf 0 (ks.map enc) cur.toList).toArray.modify k0 g=((jf 0 (ks.map enc) cur.toList).modify k0 g).toArray:=fun g=>jE
    simp[Instr.mapUpdate,run_underlying ht,MapKept.run_getObj_map hh,hK.Ao,Wc,hf,MapKept.run_setObj_map _ hh,Result.andThen,eg,Instr.keyThatStays,hK.bits]
   ·intro k a v ha hv;rw[f8,List.getElem?_set]at ha;rw[List.getElem?_set]at hv;by_cases Vv:k0=k
    ·rw[if_pos Vv]at ha hv;split at ha
     ·split at hv
      ·cases ha;cases hv;exact h3
      ·cases hv
     ·cases ha
    ·rw[if_neg Vv]at ha hv;exact hr k a v ha (by simpa using hv)
 |_=>rw[e1]at h1;cases h1
def mG(n:α)(ks:List α)(vs:UU)(z:AV)(ok:Bool):AV:=if ok=true then(match oM n ks vs with|some v=>.ba [v,.raw (.bool true)]|none=>.ba [z,.raw (.bool false)])else(oM n ks vs).getD z
def EZ{ev:U2}{kt:U1}{c:Bool}{ks:List α}{n:α}{z:Value}(hK:kI P kt enc)(ht:P.underlying t=some (.map kt et))(hz:(P.info? et).bind (·.zero)=some z)
  (hm:ev om=.mr i) (hk:ev ox=.raw (enc n)) (hi:H.get i=some (.mp (ks.map enc) vs)) (k:q) (e:K (mG n ks vs (.raw z) c) H=q):jo P (.lookup t om ox c) ty ev H K:=fun w ρ dst pos after guard hw hρ=>by
 have h1:=hρ om (by simp[Op.operands]);have h2:=hρ ox (by simp[Op.operands]);rw[hm]at h1;rw[hk]at h2;have e2:=di h2;cases e1:ρ om with
 |map r=>
  rw[e1]at h1;cases h1 with
  |mr _ b u s hn=>
  obtain⟨rfl,hl,cur,hh,Vi,hr⟩:=Ki hw hi hn;have hl:ks.length=vs.length:=by simpa using hl
  have Vf:ks.length=cur.toList.length:=by simp;omega
  have Wc:=Ei hK w.toWorld n ks cur.toList 0;have hzr:(zeroValue et).run P w.toWorld=.ok z w.toWorld:=by
   cases Yk:P.info? et with
   |none=>rw[Yk]at hz;cases hz
   |some ti=>rw[Yk]at hz;simp only[Option.bind_some]at hz;simp[zeroValue,typeInfo,Yk,hz]
  cases hf:nV n ks cur.toList 0 with
  |none=>
   obtain⟨f1,f2⟩:=CC Vf hf;obtain⟨f3,_⟩:=f1 vs jB;refine⟨w,H,_,e ▸ k,hw,Ext.refl w H,.inl ⟨if c=true then .tuple #[z,.bool false]else z,?_,?_⟩⟩
   ·simp only[execOp,e1,e2];cases c<;>simp[Instr.lookup,run_underlying ht,MapKept.run_getObj_map hh,hK.Ao,Wc,hf,hzr,Result.andThen]
   ·unfold mG;rw[f3];cases c
    ·exact .raw _
    ·exact .ba _ _ rfl fun i a v ha hv=>by
      match i with
      |0=>simp at ha hv;subst ha hv;exact .raw _
      |1=>simp at ha hv;subst ha hv;exact .raw _
      |i+2=>simp at ha
  |some jv=>
   obtain⟨j,v0⟩:=jv;obtain⟨k0,rfl,f2,f3,f5,f4,f6⟩:=Cp hf;obtain⟨f7,_⟩:=f4 vs jB;have Vo:k0<vs.length:=jB;have hv0:ay w vs[k0] v0:=hr k0 _ v0 (List.getElem?_eq_getElem Vo) (by simpa using f2);refine⟨w,H,_,e ▸ k,hw,Ext.refl w H,.inl ⟨if c=true then .tuple #[v0,.bool true]else v0,?_,?_⟩⟩
   ·simp only[execOp,e1,e2];cases c<;>simp[Instr.lookup,run_underlying ht,MapKept.run_getObj_map hh,hK.Ao,Wc,hf,Result.andThen]
   ·unfold mG;rw[f7,List.getElem?_eq_getElem Vo];cases c
    ·exact hv0
    ·exact .ba _ _ rfl fun i a v ha hv=>by
      match i with
      |0=>simp at ha hv;subst ha hv;exact hv0
      |1=>simp at ha hv;subst ha hv;exact .raw _
      |i+2=>simp at ha
 |_=>rw[e1]at h1;cases h1
def qx(P:U6)(t:U1):Option (Bool×U1):=match P.underlying t with
 |some (.map k e)=>match P.underlying k with
  |some .string=>some (true,e)
  |some (.int .i64)=>some (false,e)
  |_=>none
 |_=>none
def HM{e:U1}(h:qx P t=some (true,e)):∃k,P.underlying t=some (.map k e)/\kI P k Value.string:=by
 unfold qx at h;split at h
 ·rename_i k e' h1;split at h
  ·rename_i h2;cases h;exact⟨k,h1,O4 h2⟩
  ·cases h
  ·cases h
 ·cases h
def EQ{e:U1}(h:qx P t=some (false,e)):∃k,P.underlying t=some (.map k e)/\kI P k (Value.int .i64):=by
 unfold qx at h;split at h
 ·rename_i k e' h1;split at h
  ·cases h
  ·rename_i h2;cases h;exact⟨k,h1,Nk h2⟩
  ·cases h
 ·cases h
def k9{ev:U2}{ok:Operand}{n:Int}(ks:UY)(hm0:qx P t=some (false,et))(k:q)(Xa:op=.insert t om ok ox\/op=.mapUpdate t om ok ox:=by first|exact Or.inl rfl|exact Or.inr rfl)
  (hm:ev om=.mr i:=by rfl) (hk:ev ok=.raw (.int .i64 n):=by rfl) (hi:H.get i=some (.mp (ks.map (Value.int .i64)) vs):=by first|rfl|exact dv) (e:K .any (H.put i (.mp ((mD n ks).map (Value.int .i64)) (l4 n (ev ox) ks vs)))=q:=by exact fq):jo P op ty ev H K:=by
 obtain⟨kt,h1,h2⟩:=EQ hm0;exact HE Xa h2 h1 hm hk rfl hi k e
def vN{ev:U2}{ok:Operand}{n:U0}(ks:List U0)(hm0:qx P t=some (true,et))(k:q)(Xa:op=.insert t om ok ox\/op=.mapUpdate t om ok ox:=by first|exact Or.inl rfl|exact Or.inr rfl)
  (hm:ev om=.mr i:=by rfl) (hk:ev ok=.raw (.string n):=by rfl) (hi:H.get i=some (.mp (ks.map Value.string) vs):=by first|rfl|exact dv) (e:K .any (H.put i (.mp ((mD n ks).map Value.string) (l4 n (ev ox) ks vs)))=q:=by exact fq):jo P op ty ev H K:=by
 obtain⟨kt,h1,h2⟩:=HM hm0;exact HE Xa h2 h1 hm hk rfl hi k e
def sX{ev:U2}{c:Bool}{n:Int}(ks:UY)(z:Value)(r:AV)(hm0:qx P t=some (false,et))(hz:(P.info? et).bind (·.zero)=some z)(hr:mG n ks vs (.raw z) c=r)(k:q)
  (hm:ev om=.mr i:=by rfl) (hk:ev ox=.raw (.int .i64 n):=by rfl) (hi:H.get i=some (.mp (ks.map (Value.int .i64)) vs):=by first|rfl|exact dv) (e:K r H=q:=by exact fq):jo P (.lookup t om ox c) ty ev H K:=by
 obtain⟨kt,h1,h2⟩:=EQ hm0;exact EZ h2 h1 hz hm hk hi k (hr ▸ e)
def p6{ev:U2}{c:Bool}{n:U0}(ks:List U0)(z:Value)(r:AV)(hm0:qx P t=some (true,et))(hz:(P.info? et).bind (·.zero)=some z)(hr:mG n ks vs (.raw z) c=r)(k:q)
  (hm:ev om=.mr i:=by rfl) (hk:ev ox=.raw (.string n):=by rfl) (hi:H.get i=some (.mp (ks.map Value.string) vs):=by first|rfl|exact dv) (e:K r H=q:=by exact fq):jo P (.lookup t om ox c) ty ev H K:=by
 obtain⟨kt,h1,h2⟩:=HM hm0;exact EZ h2 h1 hz hm hk hi k (hr ▸ e)
@[go_sem] def j3z{ev:U2}(t:U1)(r:Option Operand):vc P ev H ty K (.makeMap t r)=jo P (.makeMap t r) ty ev H K:=by simp[vc,du]
@[go_sem] def j6r{ev:U2}(t:U1)(m k x:Operand):vc P ev H ty K (.insert t m k x)=jo P (.insert t m k x) ty ev H K:=by simp[vc,du]
@[go_sem] def Nv{ev:U2}(t:U1)(m k x:Operand):vc P ev H ty K (.mapUpdate t m k x)=jo P (.mapUpdate t m k x) ty ev H K:=by simp[vc,du]
@[go_sem] def j6t{ev:U2}(t:U1)(m k:Operand)(c:Bool):vc P ev H ty K (.lookup t m k c)=jo P (.lookup t m k c) ty ev H K:=by simp[vc,du]
end
attribute [go_sem] l4 mD
-- what is new, in regions that leave their order open
section
variable {P:U6}{A:AS}{ev:U2}{H:Hp}
@[go_sem] def j8s:(∀{K:UR} (t:U1) (l c:Operand),sW P A ev H K (.makeSlice t l c)=jo P (.makeSlice t l c) 0 ev H (AP (fun r H'=>eD A H H'/\K r H') .mk))/\(∀{K:UR} (t:U1) (a x:Operand),sW P A ev H K (.call ⟨.builtin .append,#[a,x],#[t,t]⟩)=pz P t t (ev a) (ev x) H (AP (fun r H'=>eD A H H'/\K r H') .mk)):=by and_intros<;>(intros;rfl)
variable{t:U1}{sz:Nat}{zs:U4}{f:UR}{q:Prop}
def SI(i:Nat){e:U1}{b:Bool}{x:AV}{c:Prop}{ys:US}{d:ir fun r H'=>eD A H H'/\f r H'}(k:q)(ht:io P t=some e:=by(simp only[go_sem];rfl))(hs:dc P e=some sz:=by first|(simp only[go_sem];done)|(simp only[go_sem];rfl))(hz:dM P e=some zs:=by(simp only[go_sem];rfl))(W7:zs.length=sz:=by rfl)(h0:0<sz:=by decide)
  (hx:tE H x=some (c,ys):=by first|rfl|exact dv) (hc:c:=by first|trivial|exact dv) (hg:Good sz ys:=by first|exact Iu _ _ (fun _=>rfl)|exact dv) (hr:room (jr P e) ys.length:=by(simp only[go_sem];omega)) (hi:H.get i=none:=by first|rfl|exact dv)
  (e:f (.rs i ys.length sz ys.length) (H.put i (.aJ e sz ys))=q:=by exact fq):pz P t t (.sl true sz [] []) x H (AP (fun r H'=>eD A H H'/\f r H') d):=by
 refine D3 ?_;unfold xo;rw[ht];simp only[hs,hz,hx];refine⟨⟨W7,h0,hc,hg⟩,⟨rfl,by simpa using hr,.inl rfl⟩,i,hi,eD.put (by simpa using hi),?_⟩;simp only[List.length_nil,Nat.zero_add,List.nil_append];exact e ▸ k
def sV(i:Nat){css:US}{K:UR}(k:q)(h0:0<sz:=by decide)(hi:H.get i=none:=by first|rfl|exact dv)(e:K (.rs i css.length sz css.length) (H.put i (.aJ t sz css))=q:=by exact fq):sT t sz css H K:=D4 i h0 hi (e ▸ k)
def Og(i:Nat){et:U1}{n:Nat}{l c:Operand}{d:ir fun r H'=>eD A H H'/\f r H'}(k:q)(hl:ev l=.raw (.int .i64 (n:Int)):=by rfl)(hc:ev c=.raw (.int .i64 (n:Int)):=by rfl)(ht:io P t=some et:=by(simp only[go_sem];rfl))(hs:dc P et=some sz:=by(simp only[go_sem];rfl))(hz:dM P et=some zs:=by(simp only[go_sem];rfl))(W7:zs.length=sz:=by rfl)(h0:0<sz:=by decide)(hr:room (jr P et) n:=by(simp only[go_sem];omega))(hi:H.get i=none:=by first|rfl|exact dv)
  (e:f (.rs i n sz n) (H.put i (.aJ et sz (List.replicate n (zs.map .raw))))=q:=by exact fq):jo P (.makeSlice t l c) 0 ev H (AP (fun r H'=>eD A H H'/\f r H') d):=
 Na (K:=AP (fun r H'=>eD A H H'/\f r H') d) (q:=eD A H (H.put i (.aJ et sz (List.replicate n (zs.map .raw))))/\q) i ⟨eD.put hi,k⟩ hl hc ht hs hz W7 h0 hr hi (by show(eD A H _/\f _ _)=_;rw[e])
variable{l0:UT}
def LG(h4:oN [] H l0)(h5:(ids l0).Nodup):eD A H ⟨H.B,gI H.l l0⟩:=fun i r _ hi=>by
 left
 show aC (gI H.l l0) i=some r;rw[uM _ _ _ (fun _ _ _=>trivial) h5];cases e:aC l0 i with
 |none=>exact hi
 |some x=>
  rcases Au h4 i x e with h|h
  ·simp at h
  ·rw[hi]at h;cases h
def cN{f:FuncId}{args:UU}{g:UR}{d:ir fun r H'=>eD A H H'/\g r H'}{r0:AV}(hc:af P f args [] fun r l'=>r=r0/\l'=l0)(k:q)(h0:aX P f=true:=by exact dv)(h2:aY eJ args=true:=by exact dv)
 (h4:oN [] H l0:=by exact dv) (h5:(ids l0).Nodup:=by exact dv) (e:g r0 ⟨H.B,gI H.l l0⟩=q:=by exact fq):fi P (.raw (.func (.func f) #[] #[])) args H (AP (fun r H'=>eD A H H'/\g r H') d):=
 nw h0 (v6 (K:=AP (fun r H'=>eD A H H'/\g r H') d) hc trivial (by simpa[ids]using h2) trivial h4 h5 ⟨LG h4 h5,e ▸ k⟩)
end
attribute [go_sem] qb
variable{cs:UU}
def Un{w:NW}{H:Hp}(r:aL w H){D:U5}{j:Nat}{ds:UU}(hj:H.get j=some (.var t cs))(hD:D j=false)(hv:bD D H cs ds)(hB:H.B.all (iv D)=true)(hl:iV D (qb H.l j)) :
  aL (w.cX D) ⟨H.B,bp (fB D H.l) j (.var t ds)⟩/\fX w H (w.cX D) ⟨H.B,bp (fB D H.l) j (.var t ds)⟩:=by
 have VW:∀k n,(w.cX D).nm k n=if D k=true then none else w.nm k n:=fun _ _=>rfl
 have gE:∀k,(Hp.mk H.B (bp (fB D H.l) j (.var t ds))).get k=if k=j then some (.var t ds)else if D k=true then none else H.get k:=fun k=>by show aC _ _=_;rw[bP,AJ];rfl
 obtain⟨O',Vs⟩:=hv.get;refine⟨{ rows:=fun k s hk=>?_,dn:=fun k n z hz=>?_,inj:=fun k n k' n' b t s t' s' h1 h2=>?_,own:=fun k n b t s h=>?_,fin:=fun b hb=>r.fin b hb.1,bS:=r.bS.aW (qi w D) },{ qi w D with names:=fun k n z hq h=>?_,os:=rfl,tape:=rfl,output:=rfl,rest:=fun b hb hO hn=>⟨rfl,⟨hO,fun k n t s _=>hn k n t s⟩,fun k n t s h=>?_⟩,base:=rfl }⟩
 ·rw[gE]at hk;by_cases e:k=j
  ·subst e;rw[if_pos rfl]at hk;cases hk;obtain⟨h1,z,h2,h3⟩:=r.rows k _ hj;refine⟨trivial,z,by rw[VW,if_neg (by rw[hD];decide)];exact h2,?_⟩;cases z with
   |nil=>obtain⟨e,sz,h⟩:=h3;cases h
   |«at» b T st=>
    obtain⟨g1,cur,g2,g3,g5⟩:=h3;refine⟨g1,cur,g2,⟨g3.1,by show ds.length<=T;rw[<-O'];exact g3.2⟩,fun i d v hd Vp=>?_⟩;have hi:i<cs.length:=by rw[O'];exact(List.getElem?_eq_some_iff.1 hd).1
    have hc:cs[i]?=some cs[i]:=List.getElem?_eq_getElem hi;exact(Vs i _ d hc hd).sound r (g5 i _ v hc Vp)
  ·rw[if_neg e]at hk;split at hk
   ·cases hk
   ·rename_i e2;obtain⟨h1,z,h2,h3⟩:=r.rows k s hk;refine⟨h1,z,by rw[VW,if_neg e2];exact h2,?_⟩;cases z with
    |nil=>exact h3
    |«at» b T st=>
     obtain⟨g1,cur,g2,g3,g5⟩:=h3;have Vv:aC (qb H.l j) k=some s:=by rw[By,if_neg e];exact hk
     exact⟨g1,cur,g2,g3,fun i a v ha hv=>(g5 i a v ha hv).aW (qi w D) (mg (BJ hl Vv (by simpa using e2)) ha)⟩
 ·rw[VW]at hz;split at hz
  ·cases hz
  ·rename_i e;obtain⟨s,h1,h2⟩:=r.dn k n z hz;by_cases e2:k=j
   ·subst e2;rw[hj]at h1;cases h1;exact⟨.var t ds,by rw[gE,if_pos rfl],h2⟩
   ·exact⟨s,by rw[gE,if_neg e2,if_neg e];exact h1,h2⟩
 ·rw[VW]at h1 h2;split at h1
  ·cases h1
  split at h2
  ·cases h2
  exact r.inj _ _ _ _ _ _ _ _ _ h1 h2
 ·rw[VW]at h;split at h
  ·cases h
  rename_i e;refine⟨r.own _ _ _ _ _ h,fun i m t' s' hd h'=>?_⟩;have:=r.inj _ _ _ _ _ _ _ _ _ h h';subst this;exact e hd
 ·rw[VW];have:=List.all_eq_true.1 hB k (List.contains_iff_mem.1 hq);unfold iv at this;rw[if_neg (by intro e;rw[e]at this;cases this)];exact h
 ·rw[VW]at h;split at h
  ·cases h
  ·exact hn k n t s h
variable{F:UU}
def dI.xM{F':UU}{H:Hp}(D:U5)(j:Nat)(ds:UU)(hj:H.get j=some (.var t cs))(hD:D j=false)(hc:bD D H cs ds)(hB:H.B.all (iv D)=true)(hl:iV D (qb H.l j))(hv:bD D H F F'):dI F H F' ⟨H.B,bp (fB D H.l) j (.var t ds)⟩:=fun w tm h1 h2=>by
 obtain⟨a,b⟩:=Un h1 hj hD hc hB hl;obtain⟨Wt,hg⟩:=hv.get;refine⟨w.cX D,rfl,a,⟨by rw[<-Wt];exact h2.1,fun i c v hc hv=>?_⟩,b⟩;have hi:i<F.length:=by rw[Wt];exact(List.getElem?_eq_some_iff.1 hc).1
 exact(hg i F[i] c (List.getElem?_eq_getElem hi) hc).sound h1 (h2.2 i _ v (List.getElem?_eq_getElem hi) hv)
variable{Q:Exit->UQ}
def CR{P:U6}{id:Nat}{l:List Oper}{b:Bool}{H:Hp}(L:UZ)(j:Nat)(ds:UU)(W:List (Nat×Nat))(J:List (Nat×AV))(h:q)(h0:(L.any fun i=>(H.get i).isSome)=true:=by rfl)(hj:H.get j=some (.var t cs):=by rfl)(hD:(L.contains j)=false:=by rfl)(hc:bD (fun i=>L.contains i) H cs ds:=by exact iQ)(hB:H.B.all (iv fun i=>L.contains i)=true:=by exact dv)(hl:iV (fun i=>L.contains i) (qb H.l j):=by exact dv)
 (hv:bD (fun i=>L.contains i) H F (ni J (nH W F)):=by exact iQ) (e:dL P (.region id l.toArray b) Q (ni J (nH W F)) ⟨H.B,bp (fB (fun i=>L.contains i) H.l) j (.var t ds)⟩=q:=by exact fq):dL P (.region id l.toArray b) Q F H:=iW (dI.xM _ j ds hj hD hc hB hl hv) (e ▸ h)
-- calls under guards, that change things
def Er(D:UZ):Option Tmp->Bool
 |some t=>D.contains t
 |none=>false
def HF(P:U6)(ev:U2)(H:Hp)(K:UR):Op->Prop
 |.call { callee:=.value f,args,.. }=>fi P (ev f) (args.toList.map ev) H K
 |_=>False
def kj(D:UZ)(P:U6)(ops:Array Oper)(K:UQ):List Oper->UQ
 |[],F,H=>K F H
 |o::rest,F,H=>match o.guard with
  |none=>vc P (cw F) H o.type (fun r H'=>kj D P ops K rest (cQ F o.dst r) H') o.op
  |some (j,want)=>match l9 ops F j want with
   |some b=>if(Er D o.dst && jw o.op)=true then(b=true->gw F o.op=true/\HF P (bJ F) H (fun r H'=>kj D P ops K rest (cQ F o.dst r) H') o.op)/\(b=false->kj D P ops K rest (cQ F o.dst (.gd false (.raw (.bool false)))) H)
    else if jw o.op || iM o.op then eR P F H b (fun r=>kj D P ops K rest (cQ F o.dst r) H) o.op
    else(b=true->vc P (cw F) H o.type (fun r H'=>kj D P ops K rest (cQ F o.dst r) H') o.op)/\(b=false->kj D P ops K rest (cQ F o.dst .any) H)
   |none=>False
section
variable {P:U6}{ops:Array Oper}
theorem xW{D:UZ}{K:UQ}:∀(l:List Oper) (F:UU) (H:Hp),kj D P ops K l F H->wq P ops K l F H
 |[],F,H,h=>Jo h
 |o::rest,F,H,h=>by
  refine KL ?_;simp only[kj]at h;split at h
  ·rename_i hg;exact(qF (K:=fun F' H'=>kj D P ops K rest F' H') hg h).mono fun F' H' hk=>xW rest F' H' hk
  ·rename_i j want hg;split at h
   ·rename_i b hb;split at h
    ·rename_i hd;refine nq.mono (K:=fun F' H'=>kj D P ops K rest F' H') ?_ fun F' H' hk=>xW rest F' H' hk
     obtain⟨dst,op,ty,pos,after,guard⟩:=o;have hc:jw op=true:=by simp only[Bool.and_eq_true]at hd;exact hd.2
     cases op<;>first|(cases hc;done)|skip
     rename_i c;obtain⟨callee,args,ts⟩:=c;cases callee<;>first|(cases hc;done)|skip
     rename_i f;refine pr hg hb (fun VK w tm Q next h1 h2 hn=>?_) (fun VK=>⟨.gd false (.raw (.bool false)),qZ rfl,h.2 VK⟩);obtain⟨ok,VG⟩:=h.1 VK;have XH:=qC ok;have e1:kK F f=bJ F f:=XH f (by simp[Op.operands,Call.operands]);have e2:args.toList.map (kK F)=args.toList.map (bJ F):=List.map_congr_left fun x hx=>XH x (by simp[Op.operands,Call.operands]at hx ⊢;exact .inr hx)
     refine xU (ev:=kK F) e1 e2 VG h1 (sK h2) fun v r' w' H' hR g1 g2 g3=>?_
     rw[Act.put_eq];exact hn _ w' _ H' hR g1 ((h2.ext g3).put dst g2 []) g3
    split at h
    ·refine nq.mono (K:=fun F' H'=>kj D P ops K rest F' H') ?_ fun F' H' hk=>xW rest F' H' hk
     obtain⟨dst,op,ty,pos,after,guard⟩:=o;unfold eR at h;split at h
     ·rename_i f args argTypes XV;cases XV;obtain⟨r,hc,hk⟩:=h;refine pr hg hb (fun VK w tm Q next h1 h2 hn=>?_) (fun VK=>⟨_,qZ VK,hk⟩);obtain⟨ok,VG⟩:=hc VK;have XH:=qC ok;have e1:kK F f=bJ F f:=XH f (by simp[Op.operands,Call.operands]);have e2:args.toList.map (kK F)=args.toList.map (bJ F):=List.map_congr_left fun x hx=>XH x (by simp[Op.operands,Call.operands]at hx ⊢;exact .inr hx)
      refine xU (ev:=kK F) e1 e2 VG h1 (sK h2) fun v r' w' H' hR g1 g2 g3=>?_
      obtain⟨rfl,rfl⟩:=hR;rw[Act.put_eq];exact hn _ w' _ H' hk g1 ((h2.ext g3).put dst (tK VK g2) []) g3
     ·rename_i f m args argTypes XV;cases XV;obtain⟨r,hc,hk⟩:=h;refine pr hg hb (fun VK w tm Q next h1 h2 hn=>?_) (fun VK=>⟨_,qZ VK,hk⟩);obtain⟨ok,VG⟩:=hc VK;have XH:=qC ok;have e1:kK F f=bJ F f:=XH f (by simp[Op.operands,Call.operands]);have e2:args.toList.map (kK F)=args.toList.map (bJ F):=List.map_congr_left fun x hx=>XH x (by simp[Op.operands,Call.operands]at hx ⊢;exact .inr hx)
      refine Bf (ev:=kK F) e1 e2 VG h1 (sK h2) fun v r' w' H' hR g1 g2 g3=>?_
      obtain⟨rfl,rfl⟩:=hR;rw[Act.put_eq];exact hn _ w' _ H' hk g1 ((h2.ext g3).put dst (tK VK g2) []) g3
     ·rename_i c x y XV;simp only at XV;subst XV;obtain⟨hs,hk⟩:=h;refine pr hg hb (fun VK w tm Q next h1 h2 hn=>?_) (fun VK=>⟨_,qZ VK,hk⟩);obtain⟨ok,hq⟩:=hs VK;obtain⟨v,B',hv⟩:=IL (P:=P) (ρ:=(Act.mk tm []).eval) (dst:=dst) (ty:=ty) (pos:=pos) (after:=after) (guard:=guard) (CZ h2 c ok) (h2.eval [] x) (h2.eval [] y) hq;simp only[Oper.wp,B',Oper.upon];rw[Act.put_eq];exact hn _ w _ H hk h1 (h2.put dst (tK VK hv) []) (Ext.refl w H)
     ·split at h
      ·obtain⟨hs,hk⟩:=h;refine pr hg hb (fun VK w tm Q next h1 h2 hn=>?_) (fun VK=>⟨_,qZ VK,hk⟩);obtain⟨ok,hq⟩:=hs VK;rw[<-uk _ (qC ok)]at hq;obtain⟨v,B',hv⟩:=zF (ρ:=(Act.mk tm []).eval) ⟨dst,op,ty,pos,after,guard⟩ h1 (sK h2) hq;simp only[Oper.wp,B',Oper.upon];rw[Act.put_eq];rw[uk _ (qC ok)]at hv;exact hn _ w _ H hk h1 (h2.put dst (tK VK hv) []) (Ext.refl w H)
      ·exact h.elim
    ·refine nq.mono (K:=fun F' H'=>kj D P ops K rest F' H') ?_ fun F' H' hk=>xW rest F' H' hk
     refine pr hg hb (fun VK w tm Q next h1 h2 hn=>?_) (fun VK=>⟨_,fun w=>.any _,h.2 VK⟩);exact Cv (h.1 VK) h1 h2 (fun x=>h2.eval [] x) hn
   ·exact h.elim
end
section
variable {D:UZ}{P:U6}{ops:Array Oper}{K:UQ}
@[go_sem] def j8C(F:UU)(H:Hp):kj D P ops K [] F H=K F H:=(rfl)
@[go_sem] def j6v(dst:Option Tmp)(op:Op)(ty:U1)(pos:String)(after:Array Edge)(rest:List Oper)(F:UU)(H:Hp) :
  kj D P ops K (⟨dst,op,ty,pos,after,none⟩::rest) F H=vc P (cw F) H ty (AP (fun r H'=>kj D P ops K rest (cQ F dst r) H') .mk) op:=(rfl)
def BP(P:U6)(F:UU)(H:Hp)(K:UR):Op->Prop
 |.call { callee:=.value f,args,.. }=>((jZ (cw F f)).1=true/\qG F args.toList)/\fi P (bJ F f) (args.toList.map (bJ F)) H K
 |_=>False
@[go_sem] def j6o{F:UU}{H:Hp}{K:UR}(f:Operand)(zl:Array Operand)(ts:Array U1):BP P F H K (.call ⟨.value f,zl,ts⟩)=(((jZ (cw F f)).1=true/\qG F zl.toList)/\fi P (bJ F f) (zl.toList.map (bJ F)) H K):=(rfl)
def UM{F:UU}{H:Hp}{K:UR}{op:Op}(h:jw op=true):(gw F op=true/\HF P (bJ F) H K op)=BP P F H K op:=by
 cases op<;>first|(cases h;done)|skip
 rename_i c;obtain⟨callee,args,ts⟩:=c;cases callee<;>first|(cases h;done)|skip
 rename_i f;rw[IN];rfl
@[go_sem] def j3E(t:Nat)(op:Op)(ty:U1)(pos:String)(after:Array Edge)(j:Nat)(want:Bool)(rest:List Oper)(F:UU)(H:Hp) :
  kj D P ops K (⟨some t,op,ty,pos,after,some (j,want)⟩::rest) F H=rF (l9 ops F j want) (fun b=>pI (D.contains t && jw op)
   (q5 b (BP P F H (AP (fun r H'=>kj D P ops K rest (cQ F (some t) r) H') .mk) op) (kj D P ops K rest (cQ F (some t) (.gd false (.raw (.bool false)))) H) .mk .mk)
   (pI (jw op || iM op) (eR P F H b (vj (fun r=>kj D P ops K rest (cQ F (some t) r) H) .mk) op)
    ((b=true->vc P (cw F) H ty (AP (fun r H'=>kj D P ops K rest (cQ F (some t) r) H') .mk) op)/\(b=false->kj D P ops K rest (cQ F (some t) .any) H)) .mk .mk) .mk .mk) .mk:=by
 conv=>lhs;unfold kj
 simp only;unfold rF pI q5 Er;cases l9 ops F j want with
 |none=>rfl
 |some b=>
  simp only;by_cases hc:(D.contains t && jw op)=true
  ·rw[if_pos hc,if_pos hc];have hv:jw op=true:=by simp only[Bool.and_eq_true]at hc;exact hc.2
   rw[<-UM hv];rfl
  ·rw[if_neg hc,if_neg hc];rfl
end
def sS{P:U6}{id:Nat}{l:List Oper}{H:Hp}(D:UZ)(h:q)(e:kj D P l.toArray (Q .normal) l F H=q:=by exact fq):dL P (.region id l.toArray false) Q F H:=
 Fs (by simpa using xW l F H (e ▸ h))
def gh{b:Bool}{X Y X' Y' pt pf:Prop}{d:ir X}{d':ir Y}(ht:pt->X')(hf:pf->Y')
 (et:(b=true)=pt:=by first|(simp only[Int.reduceEq,Int.reduceLE,Int.reduceLT,Int.reduceNe,false_and,and_false,true_and,and_true,or_false,false_or,true_or,or_true,Bool.false_eq_true,Bool.true_eq_false,eq_self,reduceCtorEq,Bool.not_true,Bool.not_false,Bool.and_eq_true,Bool.or_eq_true,Bool.and_eq_false_iff,Bool.or_eq_false_iff,decide_eq_true_eq,decide_eq_false_iff_not,Bool.not_eq_true',Bool.not_eq_false',Int.not_lt,Int.not_le];rfl)|rfl) (ef:(b=false)=pf:=by first|(simp only[Int.reduceEq,Int.reduceLE,Int.reduceLT,Int.reduceNe,false_and,and_false,true_and,and_true,or_false,false_or,true_or,or_true,Bool.false_eq_true,Bool.true_eq_false,eq_self,reduceCtorEq,Bool.not_true,Bool.not_false,Bool.and_eq_true,Bool.or_eq_true,Bool.and_eq_false_iff,Bool.or_eq_false_iff,decide_eq_true_eq,decide_eq_false_iff_not,Bool.not_eq_true',Bool.not_eq_false',Int.not_lt,Int.not_le];rfl)|rfl) (eX:X=X':=by exact fq) (eY:Y=Y':=by exact fq):q5 b X Y d d':=⟨fun h=>eX ▸ ht (et ▸ h),fun h=>eY ▸ hf (ef ▸ h)⟩
def C0(A:AS)(l0:UT):List U8->Prop
 |[]=>True
 |(i,r)::l=>(A.1.contains i=true\/aC l0 i=some r)/\C0 A l0 l
theorem E9{A:AS}{l0:UT}:∀{l:UT},C0 A l0 l->∀{i:Nat},(ids l).contains i=true->A.1.contains i=true\/∃r,aC l i=some r/\aC l0 i=some r
 |[],_,i,h=>by simp[ids]at h
 |(j,r)::l,hk,i,h=>by
  by_cases e:i=j
  ·subst e;rcases hk.1 with g|g
   ·exact .inl g
   ·exact .inr ⟨r,by simp[aC],g⟩
  ·have h:(ids l).contains i=true:=by
    simp only[ids,List.map_cons,List.contains_cons,Bool.or_eq_true,beq_iff_eq]at h;rcases h with h|h
    ·exact(e h).elim
    ·exact h
   rcases E9 hk.2 h with g|⟨s,g1,g2⟩
   ·exact .inl g
   ·exact .inr ⟨s,by simp only[aC,if_neg e];exact g1,g2⟩
def zy{P:U6}{A:AS}{H:Hp}{f:FuncId}{args:UU}{g:UR}{d:ir fun r H'=>eD A H H'/\g r H'}{l0:UT}{r0:AV}(hc:af P f args l fun r l'=>r=r0/\l'=l0)(k:q)(hA:C0 A l0 l:=by(repeat' (first|exact jI|exact Or.inl rfl|exact Or.inr rfl|refine jA ?_ ?_)))(h1:re l H:=by exact dv)(h0:aX P f=true:=by exact dv)(h2:aY (fun i=>(ids l).contains i) args=true:=by exact dv)(h3:rN (fun i=>(ids l).contains i) l:=by exact dv)
 (h4:oN (ids l) H l0:=by exact dv) (h5:(ids l0).Nodup:=by exact dv) (e:g r0 ⟨H.B,gI H.l l0⟩=q:=by exact fq):fi P (.raw (.func (.func f) #[] #[])) args H (AP (fun r H'=>eD A H H'/\g r H') d):=
 have hx:eD A H ⟨H.B,gI H.l l0⟩:=fun i r hi hr=>by
  left
  show aC (gI H.l l0) i=some r;rw[uM _ _ _ (fun _ _ _=>trivial) h5];cases e':aC l0 i with|none=>exact hr|some x=>
   rcases Au h4 i x e' with h|h
   ·rcases E9 hA h with g|⟨s,g1,g2⟩
    ·rw[g]at hi;cases hi
    ·rw[g2]at e';cases e';rw[Cd h1 i _ g1]at hr;cases hr;rfl
   ·rw[hr]at h;cases h
 nw h0 (v6 (K:=AP (fun r H'=>eD A H H'/\g r H') d) hc h1 h2 h3 h4 h5 ⟨hx,e ▸ k⟩)
variable {P:U6}{H:Hp}
def Sl{e:U1}{d:Nat}{x:AV}{c:Prop}{css ys:US}(k:q)(hd:H.get d=some (.aJ e sz css):=by(simp(disch:=first|omega|assumption|fail) only[go_sem,ra,↓reduceIte,Int.reduceEq,Int.reduceLE,Int.reduceLT,Int.reduceNe,Int.reduceToNat,Nat.reduceMul,Nat.reduceAdd,Nat.reduceLeDiff,Nat.reduceSub,Nat.reduceEqDiff,Nat.reduceBEq,List.nodup_cons,List.nodup_nil,List.mem_cons,List.not_mem_nil,List.mem_nil_iff];first|rfl|exact⟨rfl,rfl⟩|exact⟨rfl,rfl,rfl⟩))(ht:io P t=some e:=by first|(simp only[go_sem];done)|(simp only[go_sem];rfl))(WH:dc P e=some sz:=by(simp only[go_sem];done))(Y2:dM P e=some zs:=by first|(simp only[go_sem];done)|(simp only[go_sem];rfl))(W7:zs.length=sz:=by rfl)(h0:0<sz:=by decide)(hn:css.length=n:=by first|rfl|exact List.length_replicate|exact dv)(Y3:tE H x=some (c,ys):=by rfl)(hc:c:=by trivial)(hg:Good sz ys:=by exact dv)(Za:ys.length<=n:=by first|assumption|(simp only[List.length_map];omega)|exact dv)
  (he:K (.raw (.int .i64 (ys.length:Nat))) (H.put d (.aJ e sz (eH css 0 ys)))=q:=by exact fq):qg P .copy [t,t] [.rs d n sz n,x] H K:=by
 subst hn;have hk:=he ▸ k;intro w vs ty cs hw hr;obtain⟨vd,vx,rfl⟩:∃vd vx,vs=[vd,vx]:=by
  have:=hr.1;match vs,this with
  |[vd,vx],_=>exact⟨vd,vx,rfl⟩
 have hu:=uw ht;obtain⟨i,z,hi,VC,Xn,Y0,Zs⟩:=wa WH Y2 W7;obtain⟨A',cx,news,rfl,VF,Ww⟩:=Cy hw (hr.2 1 _ vx rfl rfl) Y3 hc hg;have Xm:ay w (.rs d css.length sz css.length) vd:=hr.2 0 _ vd rfl rfl;have Wp:ys.flatten.length=ys.length*sz:=gX fun y hy=>(hg y hy).1
 have W8:news.length=ys.length*sz:=by rw[<-VF.1,Wp]
 have W0:cZ ys.flatten=true:=by simp only[cZ,List.all_eq_true];intro u Y4;obtain⟨y,hy,ZZ⟩:=List.mem_flatten.1 Y4;have:=(hg y hy).2;simp only[cZ,List.all_eq_true]at this;exact this u ZZ
 have hf:(Builtin.firstCells i.size ys.length (.slice A' ys.length cx)).run P w.toWorld=.ok news.toArray w.toWorld:=by
  by_cases h0:ys.length=0
  ·have:news=[]:=by have:=W8;rw[h0,Nat.zero_mul]at this;simpa using this
   subst this;rw[h0];cases A'<;>simp[Builtin.firstCells,loadCells,loadCellsFrom]
  ·obtain⟨ad,rfl,I'⟩:=Ww jB;exact run_firstCells_some (P:=P) w.toWorld i.size ys.length ad ys.length cx news (by rw[VC];exact W8) I'
 rw[VC]at hf;have hok:=(hw.rows d _ hd).1;have Vu:∀cs∈eH css 0 ys,cs.length=sz:=fun cs h=>by
  unfold eH at h;rcases List.mem_append.1 h with h|h
  ·rcases List.mem_append.1 h with h|h
   ·exact hok.2 _ (List.mem_of_mem_take h)
   ·exact(hg cs h).1
  ·exact hok.2 _ (List.mem_of_mem_drop h)
 have W2:=gX hok.2;have Vn:=vw (css:=css) ys (Nat.zero_le _);have hmn:Nat.min ys.length css.length=ys.length:=Nat.min_eq_left Za;generalize hN:css.length=N at Xm;cases Xm with
 |iO _ _ _ A Vm=>
  have Zb:ys=[]:=List.length_eq_zero_iff.1 jB;subst Zb;refine⟨w,_,_,.int .i64 0,?_,hk,?_,.raw _,?_⟩
  ·have Z4:news=[]:=by simpa using W8
   subst Z4;have hN':Nat.min ([]:US).length 0=0:=rfl;have hf:(Builtin.firstCells sz 0 (.slice A' 0 cx)).run P w.toWorld=.ok #[] w.toWorld:=hf;cases A<;>simp[builtin,Builtin.copy_,run_underlying hu,Builtin.lenOf,sizeOf,typeInfo,hi,VC,hf,storeCells,goInt]
  ·refine{ hw with rows:=fun j r hj=>?_,dn:=fun j q z hz=>?_ }
   ·rw[Hp.bn]at hj;split at hj
    ·rename_i e;subst e;exact hw.rows j r (by rw[hd];exact hj)
    ·exact hw.rows j r hj
   ·rw[Hp.bn];split
    ·rename_i e;subst e;obtain⟨r,g1,g2⟩:=hw.dn j q z hz;rw[hd]at g1;cases g1;exact⟨_,rfl,g2⟩
    ·exact hw.dn j q z hz
  ·exact{ Ext.refl w H with base:=rfl }
 |rs _ _ _ _ b t' cap Vm WK Vd Wy=>
  subst hN;obtain⟨_,z',VR,Vq⟩:=hw.rows d _ hd;have:z'=.at b t' sz:=by have VR:w.nm d css.length=some z':=VR;rw[Vm]at VR;cases VR;rfl
  subst this;obtain⟨_,cur,hh,⟨V3,Vf⟩,Xy⟩:=Vq;have Vf:css.flatten.length<=t':=Vf;have XZ:css.length<=cap:=by rw[W2,<-WK]at Vf;exact Nat.le_of_mul_le_mul_right Vf h0
  have WR:0+ys.flatten.length<=t':=by rw[Wp,Nat.zero_add,<-WK];exact Nat.mul_le_mul_right _ (Nat.le_trans Za XZ)
  obtain⟨w',B',g1,g2,g3⟩:=ub (P:=P) (off:=0) (r':=.aJ e sz (eH css 0 ys)) hw hd Vm VF W0 WR rfl rfl rfl rfl (by show css.length<=(eH css 0 ys).length;rw[Vn];omega) ⟨h0,Vu⟩ (by show(eH css 0 ys).flatten.length<=t';rw[gX Vu,Vn,<-WK];exact Nat.mul_le_mul_right _ (Nat.max_le.2 ⟨XZ,jB⟩)) (fun p u hp=>by
   have hp:(eH css 0 ys).flatten[p]?=some u:=hp;unfold eH at hp;rw[List.flatten_append,List.flatten_append]at hp;show if _ then _ else css.flatten[p]?=some u
   simp only[List.take_zero,List.flatten_nil,List.nil_append,Nat.zero_add]at hp;rcases Nat.lt_or_ge p (0+ys.flatten.length)with h'|h'
   ·rw[if_pos ⟨Nat.zero_le _,h'⟩];rw[List.getElem?_append_left jB]at hp;exact hp
   ·rw[jN];rw[List.getElem?_append_right jB]at hp;have e2:css.flatten=(css.take ys.length).flatten++(css.drop ys.length).flatten:=by rw[<-List.flatten_append,List.take_append_drop]
    have e3:(css.take ys.length).flatten.length=ys.flatten.length:=by rw[gX fun c hc=>hok.2 c (List.mem_of_mem_take hc),List.length_take,Nat.min_eq_left Za,Wp]
    rw[e2,List.getElem?_append_right jB,e3];exact hp)
  refine⟨w',_,_,.int .i64 ys.length,?_,hk,g1,.raw _,g2⟩;simp[builtin,Builtin.copy_,run_underlying hu,Builtin.lenOf,sizeOf,typeInfo,hi,VC,hmn,hf,B',goInt]
mutual
def AV.bV(f:Nat->Nat):AV->AV
 |.raw v=>.raw v
 |.any=>.any
 |.agg cs=>.agg (fm f cs)
 |.ba cs=>.ba (fm f cs)
 |.sl x sz css d=>.sl x sz css d
 |.ip cs=>.ip cs
 |.gd p v=>.gd p (v.bV f)
 |.eW g cs=>.eW g (fm f cs)
 |.pt i m k j=>.pt (f i) m k j
 |.rs i m sz n=>.rs (f i) m sz n
 |.rc i m sz n=>.rc (f i) m sz n
 |.rv i m sz o n=>.rv (f i) m sz o n
 |.mr i=>.mr (f i)
 |.bd g fs=>.bd g (fm f fs)
 |.iZ t v=>.iZ t (v.bV f)
 |.mv m v=>.mv m (v.bV f)
def fm(f:Nat->Nat):UU->UU
 |[]=>[]
 |a::l=>a.bV f::fm f l
end
theorem pN(f:Nat->Nat):∀(l:UU) (i:Nat),(fm f l)[i]?=(l[i]?).map (AV.bV f)
 |[],i=>by simp[fm]
 |a::l,0=>by simp[fm]
 |a::l,i+1=>by simp only[fm,List.getElem?_cons_succ];exact pN f l i
theorem mI(f:Nat->Nat):∀l:UU,(fm f l).length=l.length
 |[]=>rfl
 |a::l=>by simp only[fm,List.length_cons,mI f l]
theorem GI(f:Nat->Nat):∀l m:UU,fm f (l++m)=fm f l++fm f m
 |[],m=>rfl
 |a::l,m=>by simp only[List.cons_append,fm,GI f l m]
def Row.bV(f:Nat->Nat):Row->Row
 |.var t cs=>.var t (fm f cs)
 |.aJ e sz css=>.aJ e sz (css.map (fm f))
 |.mp ks vs=>.mp ks (fm f vs)
def Row.j9(f:Nat->Nat)(r:Row):(r.bV f).fZ=r.fZ:=by cases r<;>simp[Row.bV,Row.fZ]
def Row.ku(f:Nat->Nat)(r:Row):(r.bV f).bE=r.bE:=by cases r<;>rfl
def Row.gQ(f:Nat->Nat)(r:Row):(r.bV f).cells=fm f r.cells:=by
 cases r with
 |var t cs=>rfl
 |aJ e sz css=>
  show(css.map (fm f)).flatten=fm f css.flatten;induction css with
  |nil=>rfl
  |cons c css ih=>simp only[List.map_cons,List.flatten_cons,ih,GI]
 |mp ks vs=>rfl
def Row.oj(f:Nat->Nat)(r:Row)(cur:U3):(r.bV f).obj cur=r.obj cur:=by cases r<;>rfl
def Row.n8(f:Nat->Nat)(r:Row)(n t:Nat):(r.bV f).fit n t=r.fit n t:=by
 have h:=r.gQ f;cases r with
 |var ty cs=> show(n=t/\(Row.var ty (fm f cs)).cells.length<=t)=_;have h:(Row.var ty (fm f cs)).cells=fm f (Row.var ty cs).cells:=h;rw[h,mI];rfl
 |aJ e sz css=> show(n=t/\(Row.aJ e sz (css.map (fm f))).cells.length<=t)=_;have h:(Row.aJ e sz (css.map (fm f))).cells=fm f (Row.aJ e sz css).cells:=h;rw[h,mI];rfl
 |mp ks vs=>show(n=(fm f vs).length)=_;rw[mI];rfl
variable{f:Nat->Nat}{r:Row}
def Row.ux(h:r.ok):(r.bV f).ok:=by
 cases r with
 |var t cs=>trivial
 |aJ e sz css=> refine⟨h.1,fun cs V3=>?_⟩;obtain⟨c,hc,rfl⟩:=List.mem_map.1 V3;rw[mI];exact h.2 c hc
 |mp ks vs=>show ks.length=(fm f vs).length;rw[mI];exact h
def lp(f:Nat->Nat)(l:UT):UT:=l.map fun x=>(f x.1,x.2.bV f)
def ze(f:Nat->Nat)(l:UT):ids (lp f l)=(ids l).map f:=by unfold ids lp;simp[List.map_map,Function.comp_def]
theorem y6{f g:Nat->Nat}(hf:∀i,g (f i)=i):∀(l:UT) (i:Nat),aC (lp f l) (f i)=(aC l i).map (Row.bV f)
 |[],i=>rfl
 |(j,r)::l,i=>by
  show(if f i=f j then some (r.bV f)else aC (lp f l) (f i))=((if i=j then some r else aC l i):Option Row).map _;by_cases h:i=j
  ·subst h;rw[if_pos rfl,if_pos rfl];rfl
  ·rw[if_neg h,if_neg (fun e=>h (by rw[<-hf i,<-hf j,e])),y6 hf l i]
variable{l:UT}{j:Nat}
def xh{g:Nat->Nat}(hf:∀i,g (f i)=i)(h:aC (lp f l) j=some r):∃i r0,j=f i/\r=r0.bV f/\aC l i=some r0:=by
 induction l with
 |nil=>cases h
 |cons x l ih=>
  obtain⟨k,s⟩:=x;have h:(if j=f k then some (s.bV f)else aC (lp f l) j)=some r:=h;by_cases e:j=f k
  ·rw[if_pos e]at h;cases h;exact⟨k,s,e,rfl,by simp[aC]⟩
  ·rw[if_neg e]at h;obtain⟨i,r0,h1,h2,h3⟩:=ih h;refine⟨i,r0,h1,h2,?_⟩;show(if i=k then some s else aC l i)=_;rw[if_neg (fun e'=>e (by rw[h1,e']))];exact h3
@[reducible] def NW.pull(f:Nat->Nat)(w:NW):NW:={ w with nm:=fun i m=>w.nm (f i) m }
@[reducible] def NW.push(f g:Nat->Nat)(w:NW):NW:={ w with nm:=fun j m=>if f (g j)=j then w.nm (g j) m else none }
def NW.oE{g:Nat->Nat}(hf:∀i,g (f i)=i)(w:NW):(w.push f g).pull f=w:=by
 obtain⟨W,O,nm⟩:=w;show NW.mk W O _=NW.mk W O nm;congr 1
 funext i m
 show(if f (g (f i))=f i then nm (g (f i)) m else none)=nm i m;rw[hf,if_pos rfl]
def HU{a:AV}{v:Value}{w0:NW}(h:ay w0 a v):∀w:NW,w0=w.pull f->ay w (a.bV f) v:=by
 induction h with
 |raw v=>intro w e;simp only[AV.bV];exact .raw v
 |any v=>intro w e;simp only[AV.bV];exact .any v
 |agg cs vs hl _ ih=>
  intro w e;simp only[AV.bV];refine .agg _ vs (by rw[mI];exact hl) fun i a v h1 h2=>?_
  rw[pN]at h1;cases hc:cs[i]? with
  |none=>rw[hc]at h1;cases h1
  |some b=>rw[hc]at h1;cases h1;exact ih i b v hc h2 w e
 |ba cs vs hl _ ih=>
  intro w e;simp only[AV.bV];refine .ba _ vs (by rw[mI];exact hl) fun i a v h1 h2=>?_
  rw[pN]at h1;cases hc:cs[i]? with
  |none=>rw[hc]at h1;cases h1
  |some b=>rw[hc]at h1;cases h1;exact ih i b v hc h2 w e
 |gH x sz A c hx=>intro w e;simp only[AV.bV];exact .gH x sz A c hx
 |sl x sz css a c vs hn hc hx Vi hb hH I' VO _=>intro w e;subst e;simp only[AV.bV];exact .sl x sz css a c vs hn hc hx Vi hb hH I' VO
 |ip cs a vs hb hH I' VO _=>intro w e;subst e;simp only[AV.bV];exact .ip cs a vs hb hH I' VO
 |gd p a v _ hu ih=>intro w e;simp only[AV.bV];exact .gd p _ v (fun hp=>ih hp w e) hu
 |eW g cs vs hl _ ih=>
  intro w e;simp only[AV.bV];refine .eW g _ vs (by rw[mI];exact hl) fun i a v h1 h2=>?_
  rw[pN]at h1;cases hc:cs[i]? with
  |none=>rw[hc]at h1;cases h1
  |some b=>rw[hc]at h1;cases h1;exact ih i b v hc h2 w e
 |pt i m k j b t s h=>intro w e;subst e;simp only[AV.bV];exact .pt (f i) m k j b t s h
 |iO i m sz A h=>intro w e;subst e;simp only[AV.bV];exact .iO (f i) m sz A h
 |rs i m sz n b t c h hc hn hs=>intro w e;subst e;simp only[AV.bV];exact .rs (f i) m sz n b t c h hc hn hs
 |rc i m sz n b t h hc hn hs=>intro w e;subst e;simp only[AV.bV];exact .rc (f i) m sz n b t h hc hn hs
 |jx i m sz o c A=>intro w e;simp only[AV.bV];exact .jx (f i) m sz o c A
 |rv i m sz o n b t c h hn=>intro w e;subst e;simp only[AV.bV];exact .rv (f i) m sz o n b t c h hn
 |mr i b t s h=>intro w e;subst e;simp only[AV.bV];exact .mr (f i) b t s h
 |bd g fs vs hl _ ih=>
  intro w e;simp only[AV.bV];refine .bd g _ vs (by rw[mI];exact hl) fun i a v h1 h2=>?_
  rw[pN]at h1;cases hc:fs[i]? with
  |none=>rw[hc]at h1;cases h1
  |some b=>rw[hc]at h1;cases h1;exact ih i b v hc h2 w e
 |iZ t a v _ ih=>intro w e;simp only[AV.bV];exact .iZ t _ v (ih w e)
 |mv m a v _ ih=>intro w e;simp only[AV.bV];exact .mv m _ v (ih w e)
mutual
theorem vV{f:Nat->Nat}{w:NW}:∀(a:AV) (v:Value),ay w (a.bV f) v->ay (w.pull f) a v
 |.raw x,v,h=>by simp only[AV.bV]at h;cases h;exact .raw _
 |.any,v,h=>.any v
 |.agg cs,v,h=>by
  simp only[AV.bV]at h;cases h with
  |agg _ vs hl hh=>exact .agg cs vs (by rw[mI]at hl;exact hl) fun i a u h1 h2=>wU cs i a h1 u (hh i _ u (by rw[pN,h1];rfl) h2)
 |.ba cs,v,h=>by
  simp only[AV.bV]at h;cases h with
  |ba _ vs hl hh=>exact .ba cs vs (by rw[mI]at hl;exact hl) fun i a u h1 h2=>wU cs i a h1 u (hh i _ u (by rw[pN,h1];rfl) h2)
 |.sl x sz css d,v,h=>by
  simp only[AV.bV]at h;cases h with
  |gH _ _ A c hx=>exact .gH x sz A c hx
  |sl _ _ _ a c vs hn hc hx Vi hb hH I' VO=>exact .sl x sz css a c vs hn hc hx Vi hb hH I' VO
 |.ip cs,v,h=>by
  simp only[AV.bV]at h;cases h with
  |ip _ a vs hb hH I' VO=>exact .ip cs a vs hb hH I' VO
 |.gd p x,v,h=>by
  simp only[AV.bV]at h;cases h with
  |gd _ _ _ h1 hu=>exact .gd p x v (fun hp=>vV x v (h1 hp)) hu
 |.eW g cs,v,h=>by
  simp only[AV.bV]at h;cases h with
  |eW _ _ vs hl hh=>exact .eW g cs vs (by rw[mI]at hl;exact hl) fun i a u h1 h2=>wU cs i a h1 u (hh i _ u (by rw[pN,h1];rfl) h2)
 |.pt i m k j,v,h=>by
  simp only[AV.bV]at h;cases h with
  |pt _ _ _ _ b t s hn=>exact .pt i m k j b t s hn
 |.rs i m sz n,v,h=>by
  simp only[AV.bV]at h;cases h with
  |iO _ _ _ A hn=>exact .iO i m sz A hn
  |rs _ _ _ _ b t c hn h1 h2 h3=>exact .rs i m sz n b t c hn h1 h2 h3
 |.rc i m sz n,v,h=>by
  simp only[AV.bV]at h;cases h with
  |rc _ _ _ _ b t hn h1 h2 h3=>exact .rc i m sz n b t hn h1 h2 h3
 |.rv i m sz o n,v,h=>by
  simp only[AV.bV]at h;cases h with
  |jx _ _ _ _ c A=>exact .jx i m sz o c A
  |rv _ _ _ _ _ b t c hn h1=>exact .rv i m sz o n b t c hn h1
 |.mr i,v,h=>by
  simp only[AV.bV]at h;cases h with
  |mr _ b t s hn=>exact .mr i b t s hn
 |.bd g fs,v,h=>by
  simp only[AV.bV]at h;cases h with
  |bd _ _ vs hl hh=>exact .bd g fs vs (by rw[mI]at hl;exact hl) fun i a u h1 h2=>wU fs i a h1 u (hh i _ u (by rw[pN,h1];rfl) h2)
 |.iZ t x,v,h=>by
  simp only[AV.bV]at h;cases h with
  |iZ _ _ u h1=>exact .iZ t x u (vV x u h1)
 |.mv m x,v,h=>by
  simp only[AV.bV]at h;cases h with
  |mv _ _ u h1=>exact .mv m x u (vV x u h1)
theorem wU{f:Nat->Nat}{w:NW}:∀(l:UU) (i:Nat) (a:AV),l[i]?=some a->∀v,ay w (a.bV f) v->ay (w.pull f) a v
 |[],i,a,h,v,hv=>by simp at h
 |x::l,0,a,h,v,hv=>by
  have e:x=a:=by simpa using h
  rw[<-e]at hv ⊢;exact vV x v hv
 |x::l,i+1,a,h,v,hv=>wU l i a (by simpa using h) v hv
end
variable{w:NW}
def Ql{z:Rz}(h:gB (w.pull f) r z):gB w (r.bV f) z:=by
 cases z with
 |nil=> obtain⟨e,sz,rfl⟩:=h;exact⟨e,sz,rfl⟩
 |«at» b t s=>
  obtain⟨h1,cur,h2,h3,h4⟩:=h;refine⟨h1.trans (r.ku f).symm,cur,by rw[Row.oj];exact h2,by rw[Row.n8];exact h3,fun i a v h5 h6=>?_⟩;rw[Row.gQ,pN]at h5;cases hc:r.cells[i]? with
  |none=>rw[hc]at h5;cases h5
  |some c=>rw[hc]at h5;cases h5;exact HU (h4 i c v hc h6) w rfl
def Ty{z:Rz}(h:gB w (r.bV f) z):gB (w.pull f) r z:=by
 cases z with
 |nil=>
  obtain⟨e,sz,h⟩:=h;cases r with
  |var t cs=>cases h
  |aJ e' sz' css=>
   have h:Row.aJ e' sz' (css.map (fm f))=Row.aJ e sz []:=h;cases css with
   |nil=>exact⟨e',sz',rfl⟩
   |cons c css=>cases h
  |mp ks vs=>cases h
 |«at» b t s=> obtain⟨h1,cur,h2,h3,h4⟩:=h;rw[Row.oj]at h2;rw[Row.n8]at h3;refine⟨h1.trans (r.ku f),cur,h2,h3,fun i a v h5 h6=>?_⟩;exact vV a v (h4 i (a.bV f) v (by rw[Row.gQ,pN,h5];rfl) h6)
theorem af.bV{P:U6}{fn:FuncId}{args:UU}{l:UT}{R:AV->List U8->Prop}{f g:Nat->Nat}(hf:∀i,g (f i)=i)(hc:af P fn args l R) :
  af P fn (fm f args) (lp f l) fun r l'=>∃r0 l0,r=AV.bV f r0/\l'=lp f l0/\R r0 l0:=fun w vs hw hv=>by
 have inj:∀{i j},f i=f j->i=j:=fun{i j} e=>by rw[<-hf i,<-hf j,e]
 have hW:aL (w.pull f) (entry l):={
  bS:=hw.bS
  rows:=fun i r hi=>by
   have hi:aC l i=some r:=hi;obtain⟨h1,z,h2,h3⟩:=hw.rows (f i) (r.bV f) (by show aC (lp f l) (f i)=_;rw[y6 hf,hi];rfl);refine⟨?_,z,by rw[Row.j9]at h2;exact h2,Ty h3⟩;cases r with
   |var t cs=>trivial
   |aJ e sz css=>exact⟨h1.1,fun cs V3=>by have:=h1.2 (fm f cs) (List.mem_map_of_mem V3);rw[mI]at this;exact this⟩
   |mp ks vs=>have h1:ks.length=(fm f vs).length:=h1;rw[mI]at h1;exact h1
  dn:=fun i m z h=>by obtain⟨r,h1,h2⟩:=hw.dn (f i) m z h;obtain⟨i',r0,e1,rfl,e3⟩:=xh hf h1;cases inj e1;exact⟨r0,e3,by rw[Row.j9]at h2;exact h2⟩
  inj:=fun i m j n b t s t' s' h1 h2=>inj (hw.inj _ _ _ _ _ _ _ _ _ h1 h2)
  own:=fun i m b t s h=>hw.own _ _ _ _ _ h
  fin:=hw.fin }
 have hV:bu (w.pull f) args vs:=⟨by have:=hv.1;rw[mI]at this;exact this,fun i a v h1 h2=>vV a v (hv.2 i _ v (by rw[pN,h1];rfl) h2)⟩;refine(hc (w.pull f) vs hW hV).mono ?_;rintro e W ⟨v,r,H',w',rfl,rfl,hR,h1,h2,h3⟩;have hp:=NW.oE hf w';refine⟨v,r.bV f,⟨H'.B.map f,lp f H'.l⟩,w'.push f g,rfl,rfl,⟨r,H'.l,rfl,rfl,hR⟩,?_,?_,?_⟩
 ·exact{
   bS:=h1.bS
   rows:=fun j r hj=>by obtain⟨i,r0,rfl,rfl,e3⟩:=xh hf hj;obtain⟨k1,z,k2,k3⟩:=h1.rows i r0 e3;refine⟨Row.ux k1,z,?_,Ql (w:=w'.push f g) (by rw[hp];exact k3)⟩;show(if f (g (f i))=f i then w'.nm (g (f i)) (r0.bV f).fZ else none)=some z;rw[hf,if_pos rfl,Row.j9];exact k2
   dn:=fun j m z h=>by
    have h:(if f (g j)=j then w'.nm (g j) m else none)=some z:=h;split at h
    ·rename_i e;obtain⟨r0,k1,k2⟩:=h1.dn _ _ _ h;refine⟨r0.bV f,?_,by rw[Row.j9];exact k2⟩;show aC (lp f H'.l) j=_;rw[<-e,y6 hf];have k1:aC H'.l (g j)=some r0:=k1;rw[k1];rfl
    ·cases h
   inj:=fun i m j n b t s t' s' k1 k2=>by
    have k1:(if f (g i)=i then w'.nm (g i) m else none)=some _:=k1;have k2:(if f (g j)=j then w'.nm (g j) n else none)=some _:=k2;split at k1
    ·rename_i e1;split at k2
     ·rename_i e2;have:=h1.inj _ _ _ _ _ _ _ _ _ k1 k2;rw[<-e1,<-e2,this]
     ·cases k2
    ·cases k1
   own:=fun i m b t s k=>by
    have k:(if f (g i)=i then w'.nm (g i) m else none)=some _:=k;split at k
    ·exact h1.own _ _ _ _ _ k
    ·cases k
   fin:=h1.fin }
 ·exact HU (w0:=w') h2 (w'.push f g) hp.symm
 ·exact{
   size:=h3.size
   free:=h3.free
   names:=fun j m z hj hz=>by have hj:(ids (lp f l)).contains j=true:=hj;rw[ze]at hj;obtain⟨i,hi,rfl⟩:=List.mem_map.1 (List.contains_iff_mem.1 hj);have:=h3.names i m z (List.contains_iff_mem.2 hi) hz;show(if f (g (f i))=f i then w'.nm (g (f i)) m else none)=some z;rw[hf,if_pos rfl];exact this
   os:=h3.os,tape:=h3.tape,output:=h3.output
   rest:=fun b hb hO Vj=>by
    obtain⟨k1,k2,k3⟩:=h3.rest b hb hO fun i m t s=>Vj (f i) m t s
    refine⟨k1,k2,fun j m t s h=>?_⟩;have h:(if f (g j)=j then w'.nm (g j) m else none)=some _:=h;split at h
    ·exact k3 _ _ _ _ h
    ·cases h
   base:=by show H'.B.map f=ids (lp f l);rw[ze];have:H'.B=ids l:=h3.base;rw[this] }
section
variable {P:U6}{f:FuncId}{args fs:UU}{H:Hp}{K:UR}{q:Prop}
def bm{l l0:UT}{r0:AV}(hc:af P f (fs++args) l fun r l'=>r=r0/\l'=l0)(k:q)(h1:re l H:=by exact dv)(h0:aX P f=true:=by exact dv)(h2:aY (fun i=>(ids l).contains i) (fs++args)=true:=by exact dv)(h3:rN (fun i=>(ids l).contains i) l:=by exact dv)
 (h4:oN (ids l) H l0:=by exact dv) (h5:(ids l0).Nodup:=by exact dv) (e:K r0 ⟨H.B,gI H.l l0⟩=q:=by exact fq):fi P (.bd f fs) args H K:=.inl ⟨h0,by have:=v6 hc h1 h2 h3 h4 h5 (e ▸ k:K r0 ⟨H.B,gI H.l l0⟩);simpa using this⟩
end
variable {P:U6}{H:Hp}
def DR(w:NW)(v:Value)(k:Nat)(ys:US):Prop:=∃A c news,v=.slice A k c/\ys.length<=k/\cn w ys.flatten news/\(0<ys.length->∃ad,A=some ad/\∀(j:Nat) u,news[j]?=some u->w.cell? (ad.add j)=some u)
variable{ys:US}{sz:Nat}
def JU{H:Hp}{x:AV}{c:Prop}(h:tE H x=some (c,ys))(hc:c)(hg:Good sz ys):∀(w:NW) vx,aL w H->ay w x vx->DR w vx ys.length ys:=fun w vx hw hx=>by obtain⟨A,c',news,e,h1,h2⟩:=Cy hw hx h hc hg;exact⟨A,c',news,e,Nat.le_refl _,h1,h2⟩
variable{d m o k n:Nat}{css:US}
def FM{e:U1}(hd:H.get d=some (.aJ e sz css))(hm:m=css.length)(ho:o+k<=m)(hn:n<=k):∀(w:NW) vx,aL w H->ay w (.rv d m sz o k) vx->DR w vx k ((css.drop o).take n):=fun w vx hw hx=>by
 subst hm;obtain⟨hok,_⟩:=hw.rows d _ hd;have Ve:=hok.2;have O':((css.drop o).take n).length=n:=by simp;omega
 cases hx with
 |jx _ _ _ _ c A=> have e0:n=0:=jB;subst e0;exact⟨A,c,[],rfl,jE,⟨rfl,fun i a v h=>by simp at h⟩,fun h=>by simp at h⟩
 |rv _ _ _ _ _ b t c Vm Vd=>
  by_cases h0:n=0
  ·subst h0;exact⟨_,c,[],rfl,jE,⟨rfl,fun i a v h=>by simp at h⟩,fun h=>by simp at h⟩
  have:=Aj (w:=w) (sz:=sz) (c:=c) (ys:=(css.drop o).take n) (ad:=⟨b,o*sz,none⟩) (fun y hy=>Ve y (List.mem_of_mem_drop (List.mem_of_mem_take hy))) fun i' j V4 hj=>by obtain⟨_,_,_,v,h1,h2⟩:=rP hw hd Vm (k:=o+i') (j:=j) jB hj;refine⟨v,by rw[j6,<-Nat.add_assoc,<-Nat.add_mul];exact h1,fun u hu=>h2 u ?_⟩;rw[<-hu];simp[List.getElem?_take,show i'<n from jB]
  obtain⟨A,c',news,e,h1,h2⟩:=this;cases e;exact⟨_,c,news,rfl,jB,h1,h2⟩
def IK(hc:∀c∈css,c.length=sz)(hy:∀c∈ys,c.length=sz)(ho:o+ys.length<=css.length){p:Nat}{u:AV}(hp:(eH css o ys).flatten[p]?=some u):if o*sz<=p/\p<o*sz+ys.flatten.length then ys.flatten[p-o*sz]?=some u else css.flatten[p]?=some u:=by
 have h1:(css.take o).flatten.length=o*sz:=by rw[gX fun c h=>hc c (List.mem_of_mem_take h),List.length_take,Nat.min_eq_left jB]
 have e2:css.flatten=(css.take o).flatten++((css.drop o).take ys.length).flatten++(css.drop (o+ys.length)).flatten:=by
  rw[<-List.flatten_append,<-List.flatten_append];congr 1
  rw[List.append_assoc,<-List.drop_drop,List.take_append_drop,List.take_append_drop]
 have h3:((css.drop o).take ys.length).flatten.length=ys.flatten.length:=by rw[gX fun c h=>hc c (List.mem_of_mem_drop (List.mem_of_mem_take h)),gX hy,List.length_take,List.length_drop,Nat.min_eq_left jB]
 unfold eH at hp;rw[List.flatten_append,List.flatten_append]at hp;generalize (css.take o).flatten=T at*;generalize ((css.drop o).take ys.length).flatten=M at*;generalize (css.drop (o+ys.length)).flatten=D at*;generalize ys.flatten=Y at*;rcases Nat.lt_or_ge p T.length with h|h
 ·rw[jN,e2,List.append_assoc,List.getElem?_append_left h];rw[List.append_assoc,List.getElem?_append_left h]at hp;exact hp
 ·rw[List.append_assoc,List.getElem?_append_right h]at hp;rcases Nat.lt_or_ge (p-T.length) Y.length with h'|h'
  ·rw[List.getElem?_append_left h']at hp;rw[if_pos ⟨jB,jB⟩,<-hp,h1]
  ·rw[List.getElem?_append_right h']at hp;rw[jN,e2,List.append_assoc,List.getElem?_append_right h,List.getElem?_append_right jB,<-hp,h3]
variable{t:U1}{zs:U4}{K:UR}
def zp{e:U1}{x:AV}(hd:H.get d=some (.aJ e sz css))(hm:m=css.length)(ht:io P t=some e)(WH:dc P e=some sz)(Y2:dM P e=some zs)(W7:zs.length=sz)(h0:0<sz)(hon:o+n<=m)(YO:0<n)
  (Y3:∀(w:NW) vx,aL w H->ay w x vx->DR w vx k ys) (hg:Good sz ys) (Zc:Nat.min k n=ys.length)
  (hk:K (.raw (.int .i64 (ys.length:Nat))) (H.put d (.aJ e sz (eH css o ys)))):qg P .copy [t,t] [.rv d m sz o n,x] H K:=by
 subst hm;intro w vs ty cs hw hr;obtain⟨vd,vx,rfl⟩:∃vd vx,vs=[vd,vx]:=by
  have:=hr.1;match vs,this with
  |[vd,vx],_=>exact⟨vd,vx,rfl⟩
 have hu:=uw ht;obtain⟨i,z,hi,VC,Xn,Y0,Zs⟩:=wa WH Y2 W7;obtain⟨A',cx,news,rfl,hyk,VF,Ww⟩:=Y3 w vx hw (hr.2 1 _ vx rfl rfl);have Xm:ay w (.rv d css.length sz o n) vd:=hr.2 0 _ vd rfl rfl;have hyn:ys.length<=n:=by rw[<-Zc];exact Nat.min_le_right _ _
 have Wp:ys.flatten.length=ys.length*sz:=gX fun y hy=>(hg y hy).1
 have W8:news.length=ys.length*sz:=by rw[<-VF.1,Wp]
 have W0:cZ ys.flatten=true:=by simp only[cZ,List.all_eq_true];intro u Y4;obtain⟨y,hy,ZZ⟩:=List.mem_flatten.1 Y4;have:=(hg y hy).2;simp only[cZ,List.all_eq_true]at this;exact this u ZZ
 have hf:(Builtin.firstCells i.size ys.length (.slice A' k cx)).run P w.toWorld=.ok news.toArray w.toWorld:=by
  by_cases h0:ys.length=0
  ·have:news=[]:=by have:=W8;rw[h0,Nat.zero_mul]at this;simpa using this
   subst this;rw[h0];cases A'<;>simp[Builtin.firstCells,loadCells,loadCellsFrom]
  ·obtain⟨ad,rfl,I'⟩:=Ww jB;exact run_firstCells_some (P:=P) w.toWorld i.size ys.length ad k cx news (by rw[VC];exact W8) I'
 rw[VC]at hf;have hok:=(hw.rows d _ hd).1;have Vu:∀cs∈eH css o ys,cs.length=sz:=fun cs h=>by
  unfold eH at h;rcases List.mem_append.1 h with h|h
  ·rcases List.mem_append.1 h with h|h
   ·exact hok.2 _ (List.mem_of_mem_take h)
   ·exact(hg cs h).1
  ·exact hok.2 _ (List.mem_of_mem_drop h)
 have W2:=gX hok.2;have Vn:(eH css o ys).length=css.length:=by rw[vw ys jB,Nat.max_eq_left jB]
 cases Xm with
 |jx _ _ _ _ _ A=>omega
 |rv _ _ _ _ _ b t' cap Vm Vd=>
  obtain⟨_,z',VR,Vq⟩:=hw.rows d _ hd;have:z'=.at b t' sz:=by have VR:w.nm d css.length=some z':=VR;rw[Vm]at VR;cases VR;rfl
  subst this;obtain⟨_,cur,hh,⟨V3,Vf⟩,Xy⟩:=Vq;have Vf:css.flatten.length<=t':=Vf;have hmul:(o+ys.length)*sz<=css.length*sz:=Nat.mul_le_mul_right _ jB;rw[Nat.add_mul]at hmul;have WR:o*sz+ys.flatten.length<=t':=jB;obtain⟨w',B',g1,g2,g3⟩:=ub (P:=P) (off:=o*sz) (r':=.aJ e sz (eH css o ys)) hw hd Vm VF W0 WR rfl rfl rfl rfl (by show css.length<=(eH css o ys).length;rw[Vn];exact Nat.le_refl _) ⟨h0,Vu⟩ (by show(eH css o ys).flatten.length<=t';rw[gX Vu,Vn];omega) (fun p u hp=>IK hok.2 (fun c hc=>(hg c hc).1) jB hp);refine⟨w',_,_,.int .i64 ys.length,?_,hk,g1,.raw _,g2⟩;have haN:Nat.min n k=ys.length:=(Nat.min_comm n k).trans Zc;simp[builtin,Builtin.copy_,run_underlying hu,Builtin.lenOf,sizeOf,typeInfo,hi,VC,Zc,haN,hf,B',goInt]
variable{f:FuncId}
def Rf  {fn : Func} {tR e:TypeId}   {dd : List AV} {K : AV → Hp → Prop} (hf : P.funcs[f]? = some fn) (XF : (fn.name == "runtime.NumGoroutine") = false) (Zv : fn.body.isNone = true) (hn : Extern.findNext fn = none)
  (he:Extern.find fn=some (Extern.SlicesOverlaps.overlaps #[t,t] #[tR])) (ht:io P t=some e) (Vi:dc P e=some sz) (hd:H.get d=some (.aJ e sz css)) (hm:m=css.length) (YO:0<n) (hon:o+n<=m) (hy:0<ys.length) (hk:K (.raw (.bool false)) H) :
  uf P f [.sl true sz ys dd,.rv d m sz o n] H K:=by
 subst hm;have hu:=uw ht;intro w vs hw hr;obtain⟨vd,vx,rfl⟩:∃vd vx,vs=#[vd,vx]:=by
  have:=hr.1;match vs,this with
  |⟨[vd,vx]⟩,_=>exact⟨vd,vx,rfl⟩
 have h2:=hr.2 1 _ vx rfl rfl;have h1:=hr.2 0 _ vd rfl rfl;cases h2 with
 |jx _ _ _ _ _ A=>omega
 |rv _ _ _ _ _ b t' cap Vm Vd=>
  obtain⟨hok,z',VR,Vq⟩:=hw.rows d _ hd;have:z'=.at b t' sz:=by have VR:w.nm d css.length=some z':=VR;rw[Vm]at VR;cases VR;rfl
  subst this;obtain⟨_,cur,hh,⟨V3,Vf⟩,Xy⟩:=Vq;have Vf:css.flatten.length<=t':=Vf;have hh:w.heap[b]?=some (.cells cur e (0,0)):=hh;rw[gX hok.2]at Vf;have VV:0<css.length*sz:=Nat.mul_pos jB hok.1;have hO:w.O b:=hw.own _ _ _ _ _ Vm;cases h1 with
  |gH=>simp at hy
  |sl _ _ _ ad c' vs' _ _ hx _ hbl hH _ _=>
   obtain⟨_,cu,el,WM⟩:=hx rfl;have B':=Lib.run_overlaps_apart (P:=P) w.toWorld t tR e hu sz (fun _=>lR Vi) ad ⟨b,o*sz,none⟩ ys.length c' n cap (fun e=>hH (by rw[e];exact hO)) el e cu.size cur.size
    (by simp[World.shape?,WM]) (by simp[World.shape?,hh]) jB (by simp[World.frozen?,WM]) (by simp[World.frozen?,WM])
   refine⟨_,w,_,H,?_,hk,hw,.raw _,Ext.refl w H⟩;rw[run_callFunc_extern hf XF Zv hn he,B'];rfl
def E3(z:U3)(m:Nat):(Builtin.zeroCells z m).toList=(List.replicate m z.toList).flatten:=by
 induction m with
 |zero=>simp[Builtin.zeroCells]
 |succ m ih=>
  rw[List.replicate_succ',List.flatten_append,<-ih];apply List.ext_getElem
  ·simp[Builtin.zeroCells,Nat.add_mul]
  ·intro i h1 h2;simp only[Builtin.zeroCells,Array.toList_map,Array.toList_range,List.getElem_map,List.getElem_range]at h1 ⊢;rcases Nat.lt_or_ge i (m*z.size)with h|h
   ·rw[List.getElem_append_left (by simpa using h)];simp
   ·rw[List.getElem_append_right (by simpa using h)];simp only[List.length_map,List.length_range,Array.size_range]at*;simp only[List.length_map,List.length_range,Nat.add_mul,Nat.one_mul]at h1;have hi:i % z.size=i-m*z.size:=by
     have:i=(i-m*z.size)+m*z.size:=jB;rw[this,Nat.add_mul_mod_self_right,Nat.mod_eq_of_lt jB];omega
    rw[hi];simp[getElem!_pos,show i-m*z.size<z.size from jB]
variable{i:Nat}
def T9{t' e:U1}{q:Int}(ht:io P t=some e)(Y4:∃d,P.underlying t'=some (.int d))(Vi:dc P e=some sz)(hz:dM P e=some zs)(W7:zs.length=sz)(h0:0<sz)
  (hd:H.get d=some (.aJ e sz css)) (hm:m=css.length) (hi:i<=m) (hc:m<i+k) (Wi:room (jr P e) (i+k)) (hq:q=k) (hj:H.get j=none) (hn:n=i+k)
  (hk:K (.rs j n sz n) (H.put j (.aJ e sz (css.take i++List.replicate k (zs.map .raw))))):pz P t t' (.rc d m sz i) (.raw (.int .i64 q)) H K:=by
 subst hm hq hn;have hu:=uw ht;intro w va vx ty hw Xm hrx;have:=di hrx;subst this;obtain⟨dk,ZI⟩:=Y4;obtain⟨inf,z,V4,VC,Xn,Y0,Zs⟩:=wa Vi hz W7;obtain⟨WU,Xu⟩:=Wi;rw[Zs]at WU;have Ye:z.cells.toList=zs:=by unfold dM at hz;rw[V4]at hz;simp only[Option.bind_some,Xn,Option.map_some,Option.some.injEq]at hz;exact hz
 have W9:i+k<=grownCap w.toWorld (i+k) css.length e:=by unfold grownCap Question.cut;simp
 have hok:=(hw.rows d _ hd).1;have Vu:∀cs∈css.take i++List.replicate k (zs.map AV.raw),cs.length=sz:=fun cs h=>by
  rcases List.mem_append.1 h with h|h
  ·exact hok.2 cs (List.mem_of_mem_take h)
  ·rw[List.eq_of_mem_replicate h];simpa using W7
 have Vn:(css.take i++List.replicate k (zs.map AV.raw)).length=i+k:=by simp;omega
 have W2:=gX hok.2;have VF:cn w (List.replicate k (zs.map AV.raw)).flatten (List.replicate k zs).flatten:=by
  have:(List.replicate k (zs.map AV.raw)).flatten=((List.replicate k zs).flatten).map .raw:=by simp[List.map_flatten]
  rw[this];exact yK _
 generalize hbh:css.length=L at Xm hc W9 W2 hi;cases Xm with
 |rc _ _ _ _ b t' Vm WK Vd Wy=>
  obtain⟨_,z',VR,Vq⟩:=hw.rows d _ hd;have:z'=.at b t' sz:=by have VR:w.nm d css.length=some z':=VR;rw[hbh,Vm]at VR;cases VR;rfl
  subst this;obtain⟨_,cur,hh,⟨V3,Vf⟩,Xy⟩:=Vq;have hh:w.heap[b]?=some (.cells cur e (0,0)):=hh;have Vf:css.flatten.length<=t':=Vf;have Xy:∀(x:Nat) a v,css.flatten[x]?=some a->cur[x]?=some v->ay w a v:=Xy;have hmul:=Nat.mul_le_mul_right sz hi;have WS:(css.take i).flatten=css.flatten.take (i*sz):=by
   have e1:css.flatten=(css.take i).flatten++(css.drop i).flatten:=by rw[<-List.flatten_append,List.take_append_drop]
   have e2:(css.take i).flatten.length=i*sz:=by rw[gX fun c h=>hok.2 c (List.mem_of_mem_take h),List.length_take,Nat.min_eq_left jB]
   have e3:=congrArg (List.take (i*sz)) e1;rw[List.take_append_of_le_length jB,List.take_of_length_le (l:=(css.take i).flatten) jB]at e3;exact e3.symm
  have hold:cn w (css.take i).flatten (cur.toList.take (i*sz)):=by
   rw[WS];refine⟨by simp only[List.length_take,Array.length_toList];omega,fun x a v ha hv=>?_⟩;rw[List.getElem?_take]at ha hv;split at ha
   ·rename_i h;rw[if_pos h]at hv;exact Xy x a v ha (by simpa using hv)
   ·cases ha
  have Ve:=hold.append VF;rw[<-List.flatten_append]at Ve;have Z5:∀q,w.nm j q=none:=fun q=>by
   cases e:w.nm j q with
   |none=>rfl
   |some z=>obtain⟨r,h1,_⟩:=hw.dn j q z e;rw[hj]at h1;cases h1
  obtain⟨w',e1,g1,g2,g3⟩:=sH (i:=j) (e:=e) (cap:=grownCap w.toWorld (i+k) L e) (css:=css.take i++List.replicate k (zs.map AV.raw)) (rest:=Builtin.zeroCells z.cells (grownCap w.toWorld (i+k) L e-(i+k))) hw h0 Vu Ve (by rw[Vn];exact W9) (by rw[Vn];simp[Builtin.zeroCells,Y0]) (Z5 _) (fun r hr=>by rw[hj]at hr;cases hr);rw[Vn]at g3;refine⟨w',_,_,_,?_,hk,g1,g3,g2⟩;rw[e1];have X4:(Builtin.firstCells inf.size i (.slice (some ⟨b,0,none⟩) i L)).run P w.drew=.ok (cur.toList.take (i*sz)).toArray w.drew:=by
   refine run_firstCells_some (P:=P) w.drew inf.size i ⟨b,0,none⟩ i L _ (by rw[VC];simp only[List.length_take,Array.length_toList];omega) (fun x v h=>?_);rw[List.getElem?_take]at h;split at h
   ·rw[j6,tq (w:=w.drew) b _ cur e (0,0) hh,Nat.zero_add];simpa using h
   ·cases h
  have YP:IntKind.i64.wrap (k:Int)=k:=ra jB;have WD:¬(281474976710656<(k:Int)*inf.bytes):=by have:k*inf.bytes<=(i+k)*inf.bytes:=Nat.mul_le_mul_right _ jB;have h2:((k*inf.bytes:Nat):Int)<=140737488355328:=jB;rw[Int.natCast_mul]at h2;omega
  have V9:¬(i+k<=L):=jB;have Xb:¬(9223372036854775807<(i:Int)+(k:Int)):=jB;have X5:¬((k:Int)<0):=jB;have haO:=growslice_fits (bytes:=inf.bytes) (old:=L) (show L<i+k from jB) WU;have Xc:¬(281474976710656<Builtin.nextslicecap (i+k) L*inf.bytes):=jB;have hkz:¬(k*inf.size=0):=by rw[VC];exact Nat.ne_of_gt (Nat.mul_pos jB h0)
  simp[Builtin.append_,run_underlying hu,run_underlying ZI,sizeOf,typeInfo,zeroValue,V4,Xn,asInt,asIntOf,YP,WD,Xc,V9,Xb,X5,hkz,Question.forced,X4,newRow,grownCap];have:Builtin.zeroCells z.cells k=(List.replicate k zs).flatten.toArray:=by apply Array.ext';rw[E3,Ye]
  rw[this];congr 2
  apply Array.ext';simp
def Pf{e:U1}(hd:H.get d=some (.aJ e sz css))(hm:m=css.length)(ht:io P t=some e)(WH:dc P e=some sz)(Y2:dM P e=some zs)(W7:zs.length=sz)(h0:0<sz)(VT:cZ (zs.map .raw)=true)(hon:o+n<=m)
  (hk:K (.raw (.tuple #[])) (H.put d (.aJ e sz (eH css o (List.replicate n (zs.map .raw)))))):qg P .clear [t] [.rv d m sz o n] H K:=by
 subst hm;have hu:=uw ht;intro w vs ty cs hw hr;obtain⟨vd,rfl⟩:∃vd,vs=[vd]:=by
  have:=hr.1;match vs,this with
  |[vd],_=>exact⟨vd,rfl⟩
 obtain⟨i,z,hi,VC,Xn,Y0,Zs⟩:=wa WH Y2 W7;have Ye:z.cells.toList=zs:=by unfold dM at Y2;rw[hi]at Y2;simp only[Option.bind_some,Xn,Option.map_some,Option.some.injEq]at Y2;exact Y2
 have Xm:ay w (.rv d css.length sz o n) vd:=hr.2 0 _ vd rfl rfl;have hok:=(hw.rows d _ hd).1;by_cases YO:n=0
 ·subst YO;have Yf:eH css o (List.replicate 0 (zs.map AV.raw))=css:=by simp[eH]
  rw[Yf]at hk;have YY:aL w (H.put d (.aJ e sz css)):={ hw with rows:=fun j r hj=>?_,dn:=fun j q z hz=>?_ };rotate_left
  ·rw[Hp.bn]at hj;split at hj
   ·rename_i e;subst e;exact hw.rows j r (by rw[hd];exact hj)
   ·exact hw.rows j r hj
  ·rw[Hp.bn];split
   ·rename_i e;subst e;obtain⟨r,g1,g2⟩:=hw.dn j q z hz;rw[hd]at g1;cases g1;exact⟨_,rfl,g2⟩
   ·exact hw.dn j q z hz
  have hv:∃A c,vd=.slice A 0 c:=by
   generalize hq:(0:Nat)=q at Xm;cases Xm with
   |jx _ _ _ _ c A=>exact⟨A,c,rfl⟩
   |rv _ _ _ _ _ b t' cap Vm Vd=>subst hq;exact⟨_,_,rfl⟩
  obtain⟨A,c,rfl⟩:=hv;refine⟨w,_,_,.tuple #[],?_,hk,YY,.raw _,{ Ext.refl w H with base:=rfl }⟩;cases A<;>simp[builtin,Builtin.clear_,run_underlying hu]
 generalize hgn:n=n' at Xm;cases Xm with
 |jx _ _ _ _ _ A=>omega
 |rv _ _ _ _ _ b t' cap Vm Vd=>
  subst hgn;obtain⟨_,z',VR,Vq⟩:=hw.rows d _ hd;have:z'=.at b t' sz:=by have VR:w.nm d css.length=some z':=VR;rw[Vm]at VR;cases VR;rfl
  subst this;obtain⟨_,cur,hh,⟨V3,Vf⟩,Xy⟩:=Vq;have Vf:css.flatten.length<=t':=Vf;have W2:=gX hok.2;have Vt:cn w (List.replicate n (zs.map AV.raw)).flatten (List.replicate n zs).flatten:=by
   have:(List.replicate n (zs.map AV.raw)).flatten=((List.replicate n zs).flatten).map .raw:=by simp[List.map_flatten]
   rw[this];exact yK _
  have hyl:∀c∈List.replicate n (zs.map AV.raw),c.length=sz:=fun c hc=>by rw[List.eq_of_mem_replicate hc];simpa using W7
  have hlr:(List.replicate n (zs.map AV.raw)).length=n:=List.length_replicate;have Wp:(List.replicate n (zs.map AV.raw)).flatten.length=n*sz:=by rw[gX hyl,hlr]
  have Vu:∀cs∈eH css o (List.replicate n (zs.map AV.raw)),cs.length=sz:=fun cs h=>by
   unfold eH at h;rcases List.mem_append.1 h with h|h
   ·rcases List.mem_append.1 h with h|h
    ·exact hok.2 _ (List.mem_of_mem_take h)
    ·exact hyl cs h
   ·exact hok.2 _ (List.mem_of_mem_drop h)
  have Vn:(eH css o (List.replicate n (zs.map AV.raw))).length=css.length:=by rw[vw _ jB,hlr,Nat.max_eq_left jB]
  have hmul:(o+n)*sz<=css.length*sz:=Nat.mul_le_mul_right _ jB;rw[Nat.add_mul]at hmul;obtain⟨w',B',g1,g2,g3⟩:=ub (P:=P) (off:=o*sz) (r':=.aJ e sz (eH css o (List.replicate n (zs.map AV.raw)))) hw hd Vm Vt (by simp only[cZ,List.all_eq_true]at VT ⊢;intro u Y4;obtain⟨y,hy,ZZ⟩:=List.mem_flatten.1 Y4;rw[List.eq_of_mem_replicate hy]at ZZ;exact VT u ZZ) (by rw[Wp];omega) rfl rfl rfl rfl (by show css.length<=(eH css o _).length;rw[Vn];exact Nat.le_refl _) ⟨h0,Vu⟩ (by show(eH css o _).flatten.length<=t';rw[gX Vu,Vn];omega) (fun p u hp=>IK hok.2 hyl (by rw[hlr];omega) hp)
  refine⟨w',_,_,.tuple #[],?_,hk,g1,.raw _,g2⟩;obtain⟨k,rfl⟩:∃k,n=k+1:=⟨n-1,jB⟩;simp[builtin,Builtin.clear_,run_underlying hu,zeroValue,typeInfo,hi,Xn,E3,Ye,B']
def iF(sz k:Nat):US:=List.replicate k (List.replicate sz AV.any)
def Cm:(iF sz k).length=k:=List.length_replicate
def Jz{w':NW}(e:w'.toWorld=w.toWorld)(hO:∀b,w'.O b=w.O b){q:U5}(hn:∀i m z,q i=true->w.nm i m=some z->w'.nm i m=some z):Keep q w w':=
 ⟨by rw[e];exact Nat.le_refl _,fun b _ h=>⟨by rw[e],by rw[hO];exact h⟩,hn⟩
def gB.tf{w':NW}{z:Rz}{q:U5}(h:gB w r z)(e:w'.toWorld=w.toWorld)(k:Keep q w w')(hq:aY q r.cells=true):gB w' r z:=by
 cases z with
 |nil=>exact h
 |«at» b t s=> obtain⟨h1,cur,h2,h3,h5⟩:=h;exact⟨h1,cur,by rw[e];exact h2,h3,fun i a v ha hv=>(h5 i a v ha hv).aW k (mg hq ha)⟩
theorem IH{r s:Row}{i:Nat}:∀{l:UT},aC l i=some s->ids (bp l i r)=ids l
 |[],h=>by cases h
 |(j,t)::l,h=>by
  simp only[aC]at h;simp only[bp];split
  ·rename_i e;subst e;rfl
  ·rename_i e;rw[if_neg e]at h;have:=IH (r:=r) h;simp only[ids,List.map_cons]at this ⊢;rw[this]
variable{X:US}{rest:UU}
def af.room{e:U1}(hn:0<css.length)(hl:aC l i=some (.aJ e sz css))(Z4:n=css.length)(hq:∀k r,aC l k=some r->k≠i->aY (fun j=>(ids l).contains j && !(j == i)) r.cells=true)(hX:X.length=n+1)(hXq:aY (fun j=>(ids l).contains j && !(j == i)) X.flatten=true)(hXs:∀x∈X,x.length=sz)
  (h:∀c,n<=c->af P f (.rc i c sz n::rest) (bp l i (.aJ e sz (css++iF sz (c-n)))) fun r l'=>(n+1<=c/\r=.rc i c sz (n+1)/\l'=bp l i (.aJ e sz (X++iF sz (c-(n+1)))))\/(c=n/\∃j,aC l j=none/\r=.rs j (n+1) sz (n+1)/\l'=l++[(j,.aJ e sz X)])) :
  af P f (.rs i n sz n::rest) l fun r l'=>r=.rs i (n+1) sz (n+1)/\l'=bp l i (.aJ e sz X):=fun w vs hw hv=>by
 obtain⟨v0,vr,rfl⟩:∃v0 vr,vs=(v0::vr).toArray:=by
  have:=hv.1;obtain⟨vl⟩:=vs;match vl,this with
  |v0::vr,_=>exact⟨v0,vr,rfl⟩
 have h0:ay w (.rs i n sz n) v0:=hv.2 0 _ v0 rfl rfl;have Vq:=hw.rows i _ hl;obtain⟨⟨Wy,Ve⟩,z,hz,hrw⟩:=Vq;have hz:w.nm i css.length=some z:=hz;rw[<-Z4]at hz;generalize hn':n=n' at h0;cases h0 with
 |iO _ _ _ A Vm=>omega
 |rs _ _ _ _ b t c Vm WK Vd _=>
  subst hn';have:z=.at b t sz:=by rw[Vm]at hz;cases hz;rfl
  subst this;obtain⟨_,cur,hh,⟨V3,Vf⟩,Xy⟩:=hrw;have Vf:css.flatten.length<=t:=Vf;have Xy:∀(x:Nat) a v,css.flatten[x]?=some a->cur[x]?=some v->ay w a v:=Xy
  -- the names, with one more
  let w1:NW:={ w with nm:=fun k m=>if k=i/\m=c then some (.at b t sz)else w.nm k m }
  have VA:∀k m z,w.nm k m=some z->w1.nm k m=some z:=fun k m z VT=>by
   show(if k=i/\m=c then _ else _)=_;by_cases hc:k=i/\m=c
   ·rw[if_pos hc];rw[hc.1,hc.2]at VT;obtain⟨r,g1,g2⟩:=hw.dn _ _ _ VT;have g1:aC l i=some r:=g1;rw[hl]at g1;cases g1;have g2:c<=css.length:=g2;have e2:c=n:=jB;rw[e2,Vm]at VT;exact VT
   ·rw[if_neg hc];exact VT
  have WD:∀{k m b' t' s'},w1.nm k m=some (.at b' t' s')->w.nm k m=some (.at b' t' s')\/(k=i/\m=c/\b'=b/\t'=t/\s'=sz):=fun{k m b' t' s'} h=>by
   have h:(if k=i/\m=c then some (.at b t sz)else w.nm k m)=some (.at b' t' s'):=h;split at h
   ·rename_i hc;cases h;exact .inr ⟨hc.1,hc.2,rfl,rfl,rfl⟩
   ·exact .inl h
  have K1:Keep rD w w1:=Jz (w:=w) (w':=w1) rfl (fun _=>rfl) fun k m z _ VT=>VA k m z VT
  have Zd:(css++iF sz (c-n)).length=c:=by rw[List.length_append,Cm];omega
  have hfl1:(css++iF sz (c-n)).flatten.length=c*sz:=by
   rw[gX (sz:=sz),Zd];intro x hx;rcases List.mem_append.1 hx with hx|hx
   ·exact Ve x hx
   ·rw[List.eq_of_mem_replicate hx];simp
  have haP:ids (bp l i (.aJ e sz (css++iF sz (c-n))))=ids l:=IH hl;have W1:aL w1 (entry (bp l i (.aJ e sz (css++iF sz (c-n))))):={
   bS:=hw.bS
   rows:=fun k r hk=>by
    have hk:aC (bp l i (.aJ e sz (css++iF sz (c-n)))) k=some r:=hk;rw[bP]at hk;by_cases e1:k=i
    ·rw[if_pos e1]at hk;have hk:=Option.some.inj hk;subst hk;subst e1;refine⟨⟨Wy,fun x hx=>?_⟩,.at b t sz,?_,rfl,cur,hh,⟨V3,by show(css++iF sz (c-n)).flatten.length<=t;omega⟩,fun x a v ha hv=>?_⟩
     ·rcases List.mem_append.1 hx with hx|hx
      ·exact Ve x hx
      ·rw[List.eq_of_mem_replicate hx];simp
     ·show(if _ then _ else _)=_;rw[if_pos ⟨rfl,Zd⟩]
     ·have ha:(css++iF sz (c-n)).flatten[x]?=some a:=ha;rw[List.flatten_append]at ha;rcases Nat.lt_or_ge x css.flatten.length with hx|hx
      ·rw[List.getElem?_append_left hx]at ha;exact(Xy x a v ha hv).aW K1 (ny a)
      ·rw[List.getElem?_append_right hx]at ha;have:a=.any:=by
        have:=List.mem_of_getElem? ha;obtain⟨y,hy,hay⟩:=List.mem_flatten.1 this;rw[List.eq_of_mem_replicate hy]at hay;exact List.eq_of_mem_replicate hay
       subst this;exact .any v
    ·rw[if_neg e1]at hk;obtain⟨g1,z,g2,g3⟩:=hw.rows k r hk;refine⟨g1,z,VA _ _ _ g2,?_⟩;exact g3.tf rfl K1 (wc _)
   dn:=fun k m z hk=>by
    have hk:(if k=i/\m=c then some (.at b t sz)else w.nm k m)=some z:=hk;show∃r,aC (bp l i _) k=some r/\m<=r.fZ;rw[bP];split at hk
    ·rename_i hc;rw[if_pos hc.1];exact⟨_,rfl,by show m<=(css++iF sz (c-n)).length;rw[Zd,hc.2];exact Nat.le_refl _⟩
    ·obtain⟨r,g1,g2⟩:=hw.dn k m z hk;split
     ·rename_i e1;subst e1;have g1:aC l k=some r:=g1;rw[hl]at g1;cases g1;have g2:m<=css.length:=g2;exact⟨_,rfl,by show m<=(css++iF sz (c-n)).length;omega⟩
     ·exact⟨r,g1,g2⟩
   inj:=fun k m j q b' t1 s1 t2 s2 h1 h2=>by
    rcases WD h1 with h1|⟨a1,_,a2,_,_⟩<;>rcases WD h2 with h2|⟨c1,_,c2,_,_⟩
    ·exact hw.inj _ _ _ _ _ _ _ _ _ h1 h2
    ·rw[c1];exact hw.inj _ _ _ _ _ _ _ _ _ h1 (c2 ▸ Vm)
    ·rw[a1];exact hw.inj _ _ _ _ _ _ _ _ _ (a2 ▸ Vm) h2
    ·rw[a1,c1]
   own:=fun k m b' t1 s1 h1=>by
    rcases WD h1 with h1|⟨_,_,a2,_,_⟩
    ·exact hw.own _ _ _ _ _ h1
    ·rw[a2];exact hw.own _ _ _ _ _ Vm
   fin:=hw.fin }
  have V1:bu w1 (.rc i c sz n::rest) (.slice (some ⟨b,0,none⟩) n c::vr).toArray:=by
   refine⟨hv.1,fun k a v ha Vp=>?_⟩;cases k with
   |zero=> cases ha;cases Vp;exact .rc i c sz n b t (by show(if _ then _ else _)=_;rw[if_pos ⟨rfl,rfl⟩]) WK Vd Wy
   |succ k=>exact(hv.2 (k+1) a v ha Vp).aW K1 (ny a)
  refine((h c jB) w1 _ W1 V1).mono ?_;rintro ex W ⟨v,r,H2,w2,rfl,rfl,hR,g1,g2,g3⟩;have hB:H2.B=ids l:=g3.base.trans haP;have hN2:∀k m z,(ids l).contains k=true->w.nm k m=some z->w2.nm k m=some z:=fun k m z hk hz=>g3.names k m z (by show(ids (bp l i _)).contains k=true;rw[haP];exact hk) (VA k m z hz)
  have hiL:(ids l).contains i=true:=tF hl;have Vr:∀b',b'<w.heap.size->w.O b'->(∀k m t s,w.nm k m≠some (.at b' t s))->w2.heap[b']?=w.heap[b']?/\w2.O b'/\∀k m t s,w2.nm k m≠some (.at b' t s):=fun b' h1 h2 h3=>g3.rest b' h1 h2 fun k m t1 s1 h4=>by
   rcases WD h4 with h4|⟨_,_,a2,_,_⟩
   ·exact h3 _ _ _ _ h4
   ·exact h3 _ _ _ _ (a2 ▸ Vm)
  have har:∀m z,w.nm i m=some z->m<=n:=fun m z hz=>by obtain⟨r,q1,q2⟩:=hw.dn _ _ _ hz;have q1:aC l i=some r:=q1;rw[hl]at q1;cases q1;have q2:m<=css.length:=q2;omega
  have fin:∀(jj cc b3 t3 c3:Nat) (sp:US),(jj=i\/aC l jj=none)->aC H2.l jj=some (.aJ e sz (X++sp))->w2.nm jj (X++sp).length=some (.at b3 t3 sz)->c3*sz=t3->n+1<=c3->v=.slice (some ⟨b3,0,none⟩) (n+1) c3->(∀k,k≠i->k≠jj->aC H2.l k=aC l k)->
    ∃v' r' H' w',w2.toWorld=NW.toWorld w'/\Ending.returned v=.returned v'/\(r'=.rs i (n+1) sz (n+1)/\Hp.l H'=bp l i (.aJ e sz X))/\aL w' H'/\ay w' r' v'/\fX w (entry l) w' H':=fun jj _ b3 t3 c3 sp hjj hg X5 hc3 hbj ev hun=>by
   have Z5:∀k,(ids l).contains k=true->k≠i->k≠jj:=fun k hk WJ e1=>by
    rcases hjj with e2|e2
    ·exact WJ (e1.trans e2)
    ·obtain⟨r,hr⟩:=yM hk;rw[e1,e2]at hr;cases hr
   let w3:NW:={ w2 with nm:=fun k m=>if k=i then(if m<=n then w.nm i m else if m=n+1 then some (.at b3 t3 sz)else none)else if k=jj then none else w2.nm k m }
   have n1:∀{m},m<=n->w3.nm i m=w.nm i m:=fun{m} hm=>by show(if i=i then(if m<=n then _ else _)else _)=_;rw[if_pos rfl,if_pos hm]
   have n2:w3.nm i (n+1)=some (.at b3 t3 sz):=by show(if i=i then(if n+1<=n then _ else if n+1=n+1 then _ else _)else _)=_;rw[if_pos rfl,jN,if_pos rfl]
   have n3:∀{k m},k≠i->k≠jj->w3.nm k m=w2.nm k m:=fun{k m} h1 h2=>by show(if k=i then _ else if k=jj then _ else _)=_;rw[if_neg h1,if_neg h2]
   have n4:∀{k m z},w3.nm k m=some z->(k≠i/\k≠jj/\w2.nm k m=some z)\/(k=i/\m<=n/\w.nm i m=some z)\/(k=i/\m=n+1/\z=.at b3 t3 sz):=fun{k m z} VT=>by
    have VT:(if k=i then(if m<=n then w.nm i m else if m=n+1 then some (.at b3 t3 sz)else none)else if k=jj then none else w2.nm k m)=some z:=VT;by_cases e1:k=i
    ·rw[if_pos e1]at VT;by_cases e2:m<=n
     ·rw[if_pos e2]at VT;exact .inr (.inl ⟨e1,e2,VT⟩)
     ·rw[if_neg e2]at VT;by_cases e3:m=n+1
      ·rw[if_pos e3]at VT;cases VT;exact .inr (.inr ⟨e1,e3,rfl⟩)
      ·rw[if_neg e3]at VT;cases VT
    ·rw[if_neg e1]at VT;by_cases e2:k=jj
     ·rw[if_pos e2]at VT;cases VT
     ·rw[if_neg e2]at VT;exact .inl ⟨e1,e2,VT⟩
   have n5:∀{m z},w.nm i m=some z->w2.nm i m=some z:=fun{m z} VT=>hN2 i m z hiL VT
   have K3:Keep (fun j=>(ids l).contains j && !(j == i)) w2 w3:=Jz (w:=w2) (w':=w3) rfl (fun _=>rfl) fun k m z hk VT=>by simp at hk;rw[n3 hk.2 (Z5 k (by simpa using hk.1) hk.2)];exact VT
   obtain⟨_,z4,Zw,hbp⟩:=g1.rows jj _ hg;have:z4=.at b3 t3 sz:=by have Zw:w2.nm jj (X++sp).length=some z4:=Zw;rw[X5]at Zw;cases Zw;rfl
   subst this;obtain⟨_,cur4,hh4,⟨hbq,hau⟩,hav⟩:=hbp;have hau:(X++sp).flatten.length<=t3:=hau;have hav:∀(x:Nat) a v,(X++sp).flatten[x]?=some a->cur4[x]?=some v->ay w2 a v:=hav;refine⟨v,_,⟨ids l,bp l i (.aJ e sz X)⟩,w3,rfl,rfl,⟨rfl,rfl⟩,?_,?_,?_⟩
   ·exact{
     bS:=g1.bS
     rows:=fun k r hk=>by
      have hk:aC (bp l i (.aJ e sz X)) k=some r:=hk;rw[bP]at hk;by_cases e1:k=i
      ·rw[if_pos e1]at hk;have hk:=Option.some.inj hk;subst hk;subst e1;refine⟨⟨Wy,hXs⟩,.at b3 t3 sz,?_,rfl,cur4,hh4,⟨hbq,?_⟩,fun x a v ha hv=>?_⟩
       ·show w3.nm k X.length=_;rw[hX];exact n2
       ·show X.flatten.length<=t3;rw[List.flatten_append,List.length_append]at hau;omega
       ·have ha:X.flatten[x]?=some a:=ha;have D':=(List.getElem?_eq_some_iff.1 ha).1;refine(hav x a v ?_ hv).aW K3 (mg hXq ha);rw[List.flatten_append,List.getElem?_append_left D'];exact ha
      ·rw[if_neg e1]at hk;have hj:=Z5 k (tF hk) e1;obtain⟨q1,z,q2,q3⟩:=g1.rows k r (by show aC H2.l k=_;rw[hun k e1 hj];exact hk);exact⟨q1,z,by rw[n3 e1 hj];exact q2,q3.tf rfl K3 (hq k r hk e1)⟩
     dn:=fun k m z VT=>by
      show∃r,aC (bp l i _) k=some r/\m<=r.fZ;rw[bP];rcases n4 VT with⟨e1,e2,VT⟩|⟨e1,e2,_⟩|⟨e1,e2,_⟩
      ·rw[if_neg e1];obtain⟨r,q1,q2⟩:=g1.dn k m z VT;have q1:aC H2.l k=some r:=q1;rw[hun k e1 e2]at q1;exact⟨r,q1,q2⟩
      ·rw[if_pos e1];exact⟨_,rfl,by show m<=X.length;omega⟩
      ·rw[if_pos e1];exact⟨_,rfl,by show m<=X.length;omega⟩
     inj:=fun k m k' m' b' t1 s1 t2 s2 h1 h2=>by
      rcases n4 h1 with⟨a1,a2,h1⟩|⟨a1,a2,h1⟩|⟨a1,a2,h1⟩<;>rcases n4 h2 with⟨c1,c2,h2⟩|⟨c1,c2,h2⟩|⟨c1,c2,h2⟩
      ·exact g1.inj _ _ _ _ _ _ _ _ _ h1 h2
      ·rw[c1];exact g1.inj _ _ _ _ _ _ _ _ _ h1 (n5 h2)
      ·cases h2;exact(a2 (g1.inj _ _ _ _ _ _ _ _ _ h1 X5)).elim
      ·rw[a1];exact g1.inj _ _ _ _ _ _ _ _ _ (n5 h1) h2
      ·rw[a1,c1]
      ·rw[a1,c1]
      ·cases h1;exact(c2 (g1.inj _ _ _ _ _ _ _ _ _ h2 X5)).elim
      ·rw[a1,c1]
      ·rw[a1,c1]
     own:=fun k m b' t1 s1 h1=>by
      rcases n4 h1 with⟨a1,a2,h1⟩|⟨a1,a2,h1⟩|⟨a1,a2,h1⟩
      ·exact g1.own _ _ _ _ _ h1
      ·exact g1.own _ _ _ _ _ (n5 h1)
      ·cases h1;exact g1.own _ _ _ _ _ X5
     fin:=g1.fin }
   ·rw[ev];exact .rs i (n+1) sz (n+1) b3 t3 c3 n2 hc3 hbj Wy
   ·exact{
     size:=g3.size
     free:=g3.free
     names:=fun k m z hk VT=>by
      have hk:(ids l).contains k=true:=hk;by_cases e1:k=i
      ·subst e1;rw[n1 (har m z VT)];exact VT
      ·rw[n3 e1 (Z5 k hk e1)];exact hN2 k m z hk VT
     os:=g3.os,tape:=g3.tape,output:=g3.output
     rest:=fun b' h1 h2 h3=>by
      obtain⟨q1,q2,q3⟩:=Vr b' h1 h2 h3;refine⟨q1,q2,fun k m t1 s1 h4=>?_⟩;rcases n4 h4 with⟨a1,a2,h4⟩|⟨a1,a2,h4⟩|⟨a1,a2,h4⟩
      ·exact q3 _ _ _ _ h4
      ·exact h3 _ _ _ _ h4
      ·cases h4;exact q3 _ _ _ _ X5
     base:=rfl }
  rcases hR with⟨hc,rfl,Vn⟩|⟨hc,j,hj,rfl,Vn⟩
  ·generalize Yw:c=c' at g2;generalize haw:n+1=n1 at g2;cases g2 with
   |rc _ _ _ _ b3 t3 q1 q2 q3 q4=>
    subst Yw haw;have hlX:(X++iF sz (c-(n+1))).length=c:=by rw[List.length_append,Cm];omega
    refine fin i c b3 t3 c (iF sz (c-(n+1))) (.inl rfl) ?_ (by rw[hlX];exact q1) q2 hc rfl fun k h1 _=>?_
    ·rw[Vn,bP,if_pos rfl]
    ·rw[Vn,bP,if_neg h1]
  ·have WW:j≠i:=fun e1=>by rw[e1,hl]at hj;cases hj
   have lget_app2:∀(l m:UT) (i:Nat),aC (l++m) i=(aC l i).or (aC m i):=fun l m i=>by
    induction l with
    |nil=>rfl
    |cons x l ih=>
     obtain⟨k,r⟩:=x;simp only[List.cons_append,aC];split
     ·rfl
     ·exact ih
   have hga:∀k,aC (l++[(j,Row.aJ e sz X)]) k=(aC l k).or (if k=j then some (.aJ e sz X)else none):=fun k=>by rw[lget_app2];rfl
   generalize haw:n+1=n1 at g2;cases g2 with
   |iO _ _ _ A q1=>omega
   |rs _ _ _ _ b3 t3 c3 q1 q2 q3 q4=>
    subst haw;refine fin j (n+1) b3 t3 c3 [] (.inr hj) ?_ (by rw[List.append_nil,hX];exact q1) q2 q3 rfl fun k h1 h2=>?_
    ·rw[Vn,hga,hj,if_pos rfl,List.append_nil];rfl
    ·rw[Vn,hga,if_neg h2];cases aC l k<;>rfl
def af.xm{e:U1}(j:Nat)(hn:0<css.length)(hl:aC l i=some (.aJ e sz css))(Z4:n=css.length)(hq:∀k r,aC l k=some r->k≠i->aY (fun j=>(ids l).contains j && !(j == i)) r.cells=true)(hX:X.length=n+1)(hXq:aY (fun j=>(ids l).contains j && !(j == i)) X.flatten=true)(hXs:∀x∈X,x.length=sz)(hj:aC l j=none)
  (ha:af P f (.rc i n sz n::rest) (bp l i (.aJ e sz css)) fun r l'=>r=.rs j (n+1) sz (n+1)/\l'=l++[(j,.aJ e sz X)])
  (hb:∀c,n+1<=c->af P f (.rc i c sz n::rest) (bp l i (.aJ e sz (css++iF sz (c-n)))) fun r l'=>r=.rc i c sz (n+1)/\l'=bp l i (.aJ e sz (X++iF sz (c-(n+1))))) :
  af P f (.rs i n sz n::rest) l fun r l'=>r=.rs i (n+1) sz (n+1)/\l'=bp l i (.aJ e sz X):=af.room hn hl Z4 hq hX hXq hXs fun c hc=>by
 by_cases hcn:c=n
 ·subst hcn;rw[Nat.sub_self,show iF sz 0=[] from rfl,List.append_nil];exact ha.mono fun r l' h=>.inr ⟨rfl,j,hj,h.1,h.2⟩
 ·exact(hb c jB).mono fun r l' h=>.inl ⟨jB,h.1,h.2⟩
section
variable {P:U6}{H:Hp}
def Ab(z:Value)(k:Nat):Builtin.zeroCells #[z] k=(List.replicate k z).toArray:=by
 apply Array.ext
 ·simp[Builtin.zeroCells]
 ·intro i h1 h2;simp[Builtin.zeroCells,Nat.mod_one]
def OS(w:NW)(z:Value):∀k,cn w (List.replicate k [AV.raw z]).flatten (List.replicate k z):=fun k=>by
 have:(List.replicate k [AV.raw z]).flatten=(List.replicate k z).map .raw:=by simp[List.flatten_replicate_singleton]
 rw[this];refine⟨jE,fun i a v ha hv=>?_⟩;rw[List.getElem?_map,hv]at ha;simp at ha;subst ha;exact .raw _
def P6{t t' e:U1}{d m n k:Nat}{z0:Value}{css:US}{K:UR}(hu:P.underlying t=some (.slice e))(Y4:∃d,P.underlying t'=some (.int d))(Vi:dc P e=some 1)(hz:dM P e=some [z0])(VT:z0.oneCell'=true)
  (hd:H.get d=some (.aJ e 1 css)) (hm:m=css.length) (hn:n=css.length) (Wi:room (jr P e) (css.length+k)) (hk:K (.rs d (css.length+k) 1 (css.length+k)) (H.put d (.aJ e 1 (css++List.replicate k [.raw z0])))):pz P t t' (.rs d m 1 n) (.raw (.int .i64 k)) H K:=by
 subst hm hn;intro w va vx ty hw Xm hrx;have:=di hrx;subst this;obtain⟨dk,ZI⟩:=Y4;obtain⟨i,z,hi,VC,Xn,Y0,Zs⟩:=wa Vi hz rfl;obtain⟨WU,Xu⟩:=Wi;rw[Zs]at WU;have Ye:z.cells=#[z0]:=by unfold dM at hz;rw[hi]at hz;simp only[Option.bind_some,Xn,Option.map_some,Option.some.injEq]at hz;rw[<-Array.toList_inj,hz]
 have W9:∀need old,need<=grownCap w.toWorld need old e:=fun need old=>by unfold grownCap Question.cut;simp
 have haQ:∀m,(Builtin.zeroCells z.cells m).size=m*1:=fun m=>by rw[Ye,Ab];simp
 have hok:=(hw.rows d _ hd).1;have Vu:∀cs∈css++List.replicate k [AV.raw z0],cs.length=1:=fun cs h=>by
  rcases List.mem_append.1 h with h|h
  ·exact hok.2 cs h
  ·rw[List.eq_of_mem_replicate h];rfl
 have VF:=OS w z0 k;have YP:IntKind.i64.wrap (k:Int)=k:=by
  have:IntKind.i64.wrap (k:Int)=(k:Int):=by unfold IntKind.wrap;simp[IntKind.bits,IntKind.signed];omega
  exact this
 have WD:¬(281474976710656<(k:Int)*i.bytes):=by have:k*i.bytes<=(css.length+k)*i.bytes:=Nat.mul_le_mul_right _ jB;have h2:((k*i.bytes:Nat):Int)<=140737488355328:=jB;rw[Int.natCast_mul]at h2;omega
 have X5:¬((k:Int)<0):=jB;have Vn:(css++List.replicate k [AV.raw z0]).length=css.length+k:=jE;have W2:=gX hok.2;generalize hgl:css.length=l at*;cases Xm with
 |iO _ _ _ A Vm=>
  obtain⟨_,z',VR,Vq⟩:=hw.rows d _ hd;have:z'=.nil:=by have VR:w.nm d css.length=some z':=VR;rw[hgl,Vm]at VR;cases VR;rfl
  subst this;obtain⟨e2,sz3,Vq⟩:=Vq;cases Vq;simp only[List.length_nil]at hgl;by_cases Vo:k=0
  ·subst Vo;refine⟨w,_,_,.slice A 0 0,?_,hk,?_,.iO _ _ _ _ Vm,?_⟩
   ·have hw0:IntKind.i64.wrap 0=0:=YP;cases A<;>simp[Builtin.append_,run_underlying hu,run_underlying ZI,sizeOf,typeInfo,hi,asInt,asIntOf,hw0,storeCells]
   ·refine{ hw with rows:=fun j r hj=>?_,dn:=fun j q z hz=>?_ }
    ·rw[Hp.bn]at hj;split at hj
     ·rename_i e;subst e;exact hw.rows j r (by rw[hd];exact hj)
     ·exact hw.rows j r hj
    ·rw[Hp.bn];split
     ·rename_i e;subst e;obtain⟨r,g1,g2⟩:=hw.dn j q z hz;rw[hd]at g1;cases g1;exact⟨_,rfl,g2⟩
     ·exact hw.dn j q z hz
   ·exact{ Ext.refl w H with base:=rfl }
  ·simp only[List.nil_append,Nat.zero_add]at hk Vu Vn WU Xu;obtain⟨w',e1,g1,g2,g3⟩:=sH (i:=d) (e:=e) (cap:=grownCap w.toWorld k 0 e) (css:=List.replicate k [AV.raw z0]) (rest:=Builtin.zeroCells z.cells (grownCap w.toWorld k 0 e-k)) hw jC Vu VF (by rw[Vn];exact W9 _ _) (by rw[Vn];exact haQ _) (hw.later hd (by show([]:US).length<_;rw[Vn];simp;omega)) (fun r hr=>by rw[hd]at hr;cases hr;exact Nat.zero_le _);rw[Vn]at g3;refine⟨w',_,_,_,?_,by simpa using hk,g1,by simpa using g3,g2⟩;rw[e1];have V9:¬(k=0):=Vo;have Xb:¬(9223372036854775807<(k:Int)):=jB;have Xc:¬(281474976710656<Builtin.nextslicecap k 0*i.bytes):=by rw[nextslicecap_zero jB];omega
   cases A<;>simp[Builtin.append_,run_underlying hu,run_underlying ZI,sizeOf,typeInfo,zeroValue,hi,Xn,VC,asInt,asIntOf,YP,WD,Xc,V9,Xb,X5,Question.forced,newRow,grownCap,Builtin.firstCells,loadCells,loadCellsFrom,Ye,Ab]
 |rs _ _ _ _ b t' cap Vm WK Vd Wy=>
  obtain⟨_,z',VR,Vq⟩:=hw.rows d _ hd;have:z'=.at b t' 1:=by have VR:w.nm d css.length=some z':=VR;rw[hgl,Vm]at VR;cases VR;rfl
  subst this;obtain⟨_,cur,hh,⟨V3,Vf⟩,Xy⟩:=Vq;have hh:w.heap[b]?=some (.cells cur e (0,0)):=hh;have Vf:css.flatten.length<=t':=Vf;have W0:cZ (List.replicate k [AV.raw z0]).flatten=true:=by
   have:(List.replicate k [AV.raw z0]).flatten=(List.replicate k z0).map .raw:=by simp[List.flatten_replicate_singleton]
   rw[this];simp[cZ,AV.one,VT]
  have WV:(List.replicate k [AV.raw z0]).flatten.length=k:=jE;by_cases VU:l+k<=cap
  ·obtain⟨w',B',g1,g2,g3⟩:=ub (P:=P) (off:=l) (r':=.aJ e 1 (css++List.replicate k [.raw z0])) hw hd (by show w.nm d css.length=_;rw[hgl];exact Vm) VF W0 (by rw[WV];omega) rfl rfl rfl rfl (by show css.length<=(css++_).length;simp) ⟨jC,Vu⟩ (by show(css++List.replicate k [AV.raw z0]).flatten.length<=t';rw[gX Vu,Vn];omega) (fun p u hp=>by
     have hp:(css++List.replicate k [AV.raw z0]).flatten[p]?=some u:=hp;rw[List.flatten_append]at hp;show if _ then _ else css.flatten[p]?=some u
     rcases Nat.lt_or_ge p l with h|h
     ·rw[jN];rw[List.getElem?_append_left jB]at hp;exact hp
     ·rw[List.getElem?_append_right jB]at hp;have D':=(List.getElem?_eq_some_iff.1 hp).1;rw[if_pos ⟨h,jB⟩];rw[<-hp];congr 1;omega)
   refine⟨w',_,_,.slice (some ⟨b,0,none⟩) (l+k) cap,?_,hk,g1,?_,g2⟩
   ·have ZE:(⟨b,0,none⟩:Addr).add l=⟨b,l,none⟩:=by rw[j6];simp
    by_cases Vo:k=0
    ·subst Vo;have hw0:IntKind.i64.wrap 0=0:=YP;have haR:(storeCells ⟨b,l,none⟩ []).run P w.toWorld=.ok () w'.toWorld:=B';have Za:l<=cap:=jB;simp[Builtin.append_,run_underlying hu,run_underlying ZI,sizeOf,typeInfo,hi,VC,asInt,asIntOf,hw0,Za,ZE,haR]
    ·simp[Builtin.append_,run_underlying hu,run_underlying ZI,sizeOf,typeInfo,zeroValue,hi,Xn,VC,asInt,asIntOf,YP,WD,X5,VU,Vo,ZE,Ye,Ab,B']
   ·have g3:w'.nm d (css++List.replicate k [AV.raw z0]).length=some (.at b t' 1):=g3;rw[Vn]at g3;exact .rs d _ 1 _ b t' cap g3 WK VU jC
  ·have hold:cn w css.flatten (cur.toList.take l):=by
    refine⟨by simp only[List.length_take,Array.length_toList];omega,fun j a v Z0 hv=>?_⟩;rw[List.getElem?_take]at hv;split at hv
    ·exact Xy j a v Z0 (by simpa using hv)
    ·cases hv
   have Ve:=hold.append VF;rw[<-List.flatten_append]at Ve;obtain⟨w',e1,g1,g2,g3⟩:=sH (i:=d) (e:=e) (cap:=grownCap w.toWorld (l+k) cap e) (css:=css++List.replicate k [AV.raw z0]) (rest:=Builtin.zeroCells z.cells (grownCap w.toWorld (l+k) cap e-(l+k))) hw jC Vu Ve (by rw[Vn];exact W9 _ _) (by rw[Vn];exact haQ _) (hw.later hd (by show css.length<_;rw[Vn];omega)) (fun r hr=>by rw[hd]at hr;cases hr;show css.length<=_;rw[Vn];omega);rw[Vn]at g3;refine⟨w',_,_,_,?_,hk,g1,g3,g2⟩;rw[e1];have X4:(Builtin.firstCells 1 l (.slice (some ⟨b,0,none⟩) l cap)).run P w.drew=.ok (cur.toList.take l).toArray w.drew:=by
    refine run_firstCells_some (P:=P) w.drew 1 l ⟨b,0,none⟩ l cap _ (by simp only[List.length_take,Array.length_toList];omega) (fun j v h=>?_);rw[List.getElem?_take]at h;split at h
    ·rw[j6,tq (w:=w.drew) b _ cur e (0,0) hh,Nat.zero_add];simpa using h
    ·cases h
   have V9:¬(l+k<=cap):=VU;have Xb:¬(9223372036854775807<(l:Int)+(k:Int)):=jB;have haO:=growslice_fits (bytes:=i.bytes) (old:=cap) (show cap<l+k from jB) WU;have Xc:¬(281474976710656<Builtin.nextslicecap (l+k) cap*i.bytes):=jB;have Vo:¬(k=0):=jB;simp[Builtin.append_,run_underlying hu,run_underlying ZI,sizeOf,typeInfo,zeroValue,hi,Xn,VC,asInt,asIntOf,YP,WD,Xc,V9,Xb,X5,Vo,Question.forced,X4,newRow,grownCap,Ye,Ab];congr 2
   apply Array.ext';simp
end
abbrev sE:U0:=⟨#[]⟩
def vI(n:Int):aj:=⟨1,n,sE⟩
def vB(b:Bool):aj:=⟨2,if b=true then 1 else 0,sE⟩
def vT(s:U0):aj:=⟨3,0,s⟩
def vZ(t:Int):aj:=⟨t,0,sE⟩
def v0:aj:=⟨0,0,sE⟩
def lc(v:aj):Bool:=
 if v.ty=1 then decide (v.s=sE)
 else if v.ty=2 then decide (v.s=sE) && (decide (v.n=0) || decide (v.n=1))
 else if v.ty=3 then decide (v.n=0) && decide ((v.s.size:Int)<=40)
 else if v.ty=4 then decide (v.s=sE) && decide (0<=v.n)
 else false
def vv(sign:U0)(a b:Int):aj×Int:=
 if sign=(⟨#[43]⟩:U0)then(vI (IntKind.i64.wrap (a+b)),0)
 else if sign=(⟨#[45]⟩:U0)then(vI (IntKind.i64.wrap (a-b)),0)
 else if sign=(⟨#[42]⟩:U0)then(vI (IntKind.i64.wrap (a*b)),0)
 else if sign=(⟨#[47]⟩:U0)then(if b=0 then(v0,1)else(vI (IntKind.i64.wrap (a.tdiv b)),0))
 else if sign=(⟨#[37]⟩:U0)then(if b=0 then(v0,1)else(vI (a.tmod b),0))
 else if sign=(⟨#[60]⟩:U0)then(vB (decide (a<b)),0)
 else if sign=(⟨#[60,61]⟩:U0)then(vB (decide (a<=b)),0)
 else(v0,0)
def qP(sign:U0)(a b:aj):aj×Int:=
 if a.ty≠b.ty\/a.ty<1\/4<a.ty then(v0,0)
 else if sign=(⟨#[61,61]⟩:U0)then(vB (decide (a.n=b.n) && decide (a.s=b.s)),0)
 else if sign=(⟨#[33,61]⟩:U0)then(vB (!(decide (a.n=b.n) && decide (a.s=b.s))),0)
 else if a.ty=1 then vv sign a.n b.n
 else if a.ty=2 then(if sign=(⟨#[124,124]⟩:U0)then(vB (decide (a.n=1) || decide (b.n=1)),0)else if sign=(⟨#[38,38]⟩:U0)then(vB (decide (a.n=1) && decide (b.n=1)),0)else(v0,0))
 else if a.ty=3 then(if sign=(⟨#[43]⟩:U0)then(if(a.s.size:Int)+b.s.size>40 then(v0,6)else(vT (a.s++b.s),0))else(v0,0))
 else(v0,0)
def mQ(sign:U0)(a:aj):aj:=
 if sign=(⟨#[45]⟩:U0)/\a.ty=1 then vI (IntKind.i64.wrap (-a.n))
 else if sign=(⟨#[33]⟩:U0)/\a.ty=2 then vB (!decide (a.n=1))
 else v0
def km(n:Int):Bool:=decide (48<=n) && decide (n<=57)
def x8(n:Int):Bool:=(decide (97<=n) && decide (n<=122)) || (decide (65<=n) && decide (n<=90))
def xc(s:U0):Bool:=decide ((s.size:Int)<19) || (decide ((s.size:Int)=19) && (Op.bytesLess s.toList (⟨#[57,50,50,51,51,55,50,48,51,54,56,53,52,55,55,53,56,48,55]⟩:U0).toList || decide (s=(⟨#[57,50,50,51,51,55,50,48,51,54,56,53,52,55,55,53,56,48,55]⟩:U0))))
def pn(s:U0):Nat->Int
 |0=>1
 |k+1=>if eZ s k=10 then pn s k+1 else pn s k
theorem Ix(s:U0):∀k,1<=pn s k/\pn s k<=k+1
 |0=>by simp[pn]
 |k+1=>by have:=Ix s k;unfold pn;split<;>omega
def gi:List U0:=[(⟨#[102,110]⟩:U0),(⟨#[108,101,116]⟩:U0),(⟨#[105,102]⟩:U0),(⟨#[101,108,115,101]⟩:U0),(⟨#[119,104,105,108,101]⟩:U0),(⟨#[114,101,116,117,114,110]⟩:U0),(⟨#[112,114,105,110,116]⟩:U0),(⟨#[105,110,112,117,116]⟩:U0),(⟨#[110,101,119]⟩:U0),(⟨#[108,101,110]⟩:U0),(⟨#[116,114,117,101]⟩:U0),(⟨#[102,97,108,115,101]⟩:U0),(⟨#[105,110,116]⟩:U0),(⟨#[98,111,111,108]⟩:U0),(⟨#[116,101,120,116]⟩:U0),(⟨#[108,105,115,116]⟩:U0)]
def M0:gi.length=16:=rfl
def vY(s:U0):Bool:=gi.any fun t=>decide (t=s)
-- the first one
theorem Aq{α:Type}[Inhabited α]{p:α->Bool}:∀{l:List α} {k:Nat},(∀j,j<k->p (nth l j)=false)->k<l.length->p (nth l k)=true->l.find? p=some (nth l k)
 |[],k,_,h,_=>by simp at h
 |x::l,0,_,_,hp=>by have:p x=true:=hp;rw[List.find?_cons,this];rfl
 |x::l,k+1,h,hk,hp=>by have h0:p x=false:=h 0 jB;rw[List.find?_cons,h0];exact Aq (fun j hj=>h (j+1) jB) (by simpa using hk) hp
variable{α:Type}
def C2[Inhabited α]{p:α->Bool}{l:List α}(h:∀j,j<l.length->p (nth l j)=false):l.find? p=none:=by rw[List.find?_eq_none];intro x hx;obtain⟨j,hj,rfl⟩:=List.getElem_of_mem hx;have:=h j hj;rw[fA hj]at this;simp[this]
def CP(h:k<n):nth (List.range n) k=k:=by simp[nth,h]
-- bytes of which p holds
def qk(p:Int->Bool)(s:U0):Nat->Nat->Nat
 |0,i=>i
 |n+1,i=>if i<s.size/\p (eZ s i)=true then qk p s n (i+1)else i
def iY(p:Int->Bool)(s:U0)(i:Nat):Nat:=qk p s (s.size+1) i
theorem JY{p:Int->Bool}{s:U0}{k:Nat}(Yl:¬(k<s.size/\p (eZ s k)=true)):∀{n i:Nat},i<=k->k<n+i->(∀j,i<=j->j<k->j<s.size/\p (eZ s j)=true)->qk p s n i=k
 |0,i,h1,h2,_=>by omega
 |n+1,i,h1,h2,h3=>by
  unfold qk;by_cases e:i=k
  ·subst e;rw[if_neg Yl]
  ·rw[if_pos (h3 i jl jB)];exact JY Yl jB jB fun j hj=>h3 j jB
variable{p:Int->Bool}{s:U0}
def zJ(Yl:¬(k<s.size/\p (eZ s k)=true))(h1:i<=k)(hk:k<=s.size)(h3:∀j,i<=j->j<k->p (eZ s j)=true):iY p s i=k:=
 JY Yl h1 jB fun j hj hjk=>⟨jB,h3 j hj hjk⟩
theorem zj{p:Int->Bool}{s:U0}:∀{n i:Nat},i<=qk p s n i/\(i<=s.size->qk p s n i<=s.size)
 |0,i=>⟨Nat.le_refl _,id⟩
 |n+1,i=>by
  unfold qk;split
  ·have:=zj (p:=p) (s:=s) (n:=n) (i:=i+1);exact⟨jB,fun _=>this.2 jB⟩
  ·exact⟨Nat.le_refl _,id⟩
def wH(h:i<=s.size):i<=iY p s i/\iY p s i<=s.size:=⟨zj.1,zj.2 h⟩
def xe(h:i<s.size)(hp:p (eZ s i)=true):i<iY p s i:=by unfold iY;unfold qk;rw[if_pos ⟨h,hp⟩];have:=(zj (p:=p) (s:=s) (n:=s.size) (i:=i+1)).1;omega
theorem J6{p:Int->Bool}{s:U0}:∀{n i j:Nat},i<=j->j<qk p s n i->p (eZ s j)=true
 |0,i,j,h1,h2=>by unfold qk at h2;omega
 |n+1,i,j,h1,h2=>by
  unfold qk at h2;split at h2
  ·rename_i h;by_cases e:j=i
   ·subst e;exact h.2
   ·exact J6 jB h2
  ·omega
-- iH between tokens
def yW(c:Int):Bool:=decide (c=32) || decide (c=9) || decide (c=13) || decide (c=10)
def Az(s:U0)(i:Nat):Bool:=decide (eZ s i=47) && decide (i+1<s.size) && decide (eZ s (i+1:Nat)=47)
def sQ(c:Int):Bool:=decide (c≠10)
def mF(s:U0)(i:Nat):Option Nat:=if i<s.size then(if yW (eZ s i)=true then some (i+1)else if Az s i=true then some (iY sQ s i)else none)else none
def nD(s:U0):Nat->Nat->Nat
 |0,i=>i
 |n+1,i=>match mF s i with
  |some j=>nD s n j
  |none=>i
def yY(h:mF s i=some j):i<j/\j<=s.size:=by
 unfold mF at h;split at h
 ·rename_i hi;split at h
  ·cases h;omega
  ·split at h
   ·rename_i hc;cases h;have Wg:sQ (eZ s i)=true:=by
     simp only[Az,Bool.and_eq_true,decide_eq_true_eq]at hc;simp[sQ,hc.1.1]
    exact⟨xe hi Wg,(wH jB).2⟩
   ·cases h
 ·cases h
theorem Kc(s:U0):∀(n m i:Nat),s.size<n+i->s.size<m+i->nD s n i=nD s m i
 |0,0,i,_,_=>rfl
 |0,m+1,i,h,_=>by
  unfold nD;have:mF s i=none:=by unfold mF;rw[jN]
  rw[this]
 |n+1,0,i,_,h=>by
  unfold nD;have:mF s i=none:=by unfold mF;rw[jN]
  rw[this]
 |n+1,m+1,i,h1,h2=>by
  unfold nD;cases e:mF s i with
  |none=>rfl
  |some j=> have:=yY e;exact Kc s n m j jB jB
def oS(s:U0)(i:Nat):Nat:=nD s (s.size+1) i
def GR(h:mF s i=some j):oS s i=oS s j:=by have:=yY h;show nD s (s.size+1) i=nD s (s.size+1) j;rw[nD,h];exact Kc s _ _ j jB jB
def Fi(h:mF s i=none):oS s i=i:=by show nD s (s.size+1) i=i;rw[nD,h]
theorem C3{s:U0}:∀{n i:Nat},i<=nD s n i/\(i<=s.size->nD s n i<=s.size)
 |0,i=>⟨Nat.le_refl _,id⟩
 |n+1,i=>by
  unfold nD;cases e:mF s i with
  |none=>exact⟨Nat.le_refl _,id⟩
  |some j=> have h1:=yY e;have h2:=C3 (s:=s) (n:=n) (i:=j);exact⟨by simp only;omega,fun _=>h2.2 h1.2⟩
def wK(h:i<=s.size):i<=oS s i/\oS s i<=s.size:=⟨C3.1,C3.2 h⟩
-- tokens
def ui(c:Int):Bool:=decide (32<=c) && decide (c<=126) && decide (c≠34)
def oA(s:U0)(a:Nat):U0×Int×Int:=
 let i:=iY ui s (a+1)
 if i<s.size/\eZ s i=34 then(if(i:Int)-a-1>12 then(⟨#[]⟩,a,4)else(s.extract (a+1) i,(i:Int)+1,0))else(⟨#[]⟩,a,11)
def jL:List U0:=[(⟨#[124,124]⟩:U0),(⟨#[38,38]⟩:U0),(⟨#[60,61]⟩:U0),(⟨#[61,61]⟩:U0),(⟨#[33,61]⟩:U0)]
def iU:U0:=(⟨#[40,41,123,125,91,93,44,59,61,60,43,45,42,47,37,33]⟩:U0)
def qT(s t:U0):Bool:=decide (2<=(s.size:Int)) && decide (s.extract 0 2=t)
def ov(s:U0):U0:=match jL.find? (qT s)with
 |some t=>t
 |none=>match (List.range 16).find? fun k:Nat=>decide (eZ s 0=eZ iU (k:Nat))with
  |some k=>iU.extract k (k+1)
  |none=>⟨#[]⟩
def pA(c:Int):Bool:=x8 c || km c || decide (c=95)
def QB{b:U0}(h:b.size=0):b=⟨#[]⟩:=by obtain⟨d⟩:=b;have:d=#[]:=Array.size_eq_zero_iff.1 h;rw[this]
def wC:cF:=⟨0,⟨#[]⟩,0⟩
def iA(s:U0)(a:Nat):cF×Int×Int:=
 if km (eZ s a)=true then
  (if xc (s.extract a (iY km s a))=true then(⟨1,s.extract a (iY km s a),a⟩,(iY km s a:Nat),0)else(wC,a,12))
 else if x8 (eZ s a)=true then
  (if vY (s.extract a (iY pA s a))=true then(⟨4,s.extract a (iY pA s a),a⟩,(iY pA s a:Nat),0)
  else if((s.extract a (iY pA s a)).size:Int)>8 then(wC,a,13)else(⟨3,s.extract a (iY pA s a),a⟩,(iY pA s a:Nat),0))
 else if eZ s a=34 then(⟨2,(oA s a).1,a⟩,(oA s a).2.1,(oA s a).2.2)
 else if ov (s.extract a s.size)=⟨#[]⟩then(wC,a,10)
 else(⟨5,ov (s.extract a s.size),a⟩,a+(ov (s.extract a s.size)).size,0)
def T4(s:U0):(ov s).size<=2:=by
 unfold ov;cases h:jL.find? (qT s)with
 |some t=> have hm:=List.mem_of_find?_eq_some h;have:∀t∈jL,t.size<=2:=jC;exact this t hm
 |none=>
  cases h2:(List.range 16).find? fun k:Nat=>decide (eZ s 0=eZ iU (k:Nat))with
  |some k=> simp only;rw[ByteArray.size_extract];omega
  |none=>decide
variable{t:U0}
def On(h:jL.find? (qT s)=some t):t.size=2/\2<=s.size:=by have hm:=List.mem_of_find?_eq_some h;have hp:=List.find?_some h;have:∀t∈jL,t.size=2:=jC;simp only[qT,Bool.and_eq_true,decide_eq_true_eq]at hp;exact⟨this t hm,jB⟩
def P1(hs:0<s.size):(ov s).size<=s.size:=by
 unfold ov;cases h:jL.find? (qT s)with
 |some t=>have:=On h;simp only;omega
 |none=>
  cases h2:(List.range 16).find? fun k:Nat=>decide (eZ s 0=eZ iU (k:Nat))with
  |some k=> simp only;rw[ByteArray.size_extract];omega
  |none=>exact Nat.zero_le _
variable{a:Nat}
def zU(ha:a<s.size)(h:(iA s a).2.2=0):∃e:Nat,(iA s a).2.1=e/\a<e/\e<=s.size:=by
 unfold iA at h ⊢;split at h<;>rename_i h1
 ·rw[if_pos h1]at*;split at h<;>rename_i h2
  ·rw[if_pos h2];exact⟨_,rfl,xe ha h1,(wH jB).2⟩
  ·cases h
 ·rw[if_neg h1]at*;split at h<;>rename_i h2
  ·rw[if_pos h2];have hw:pA (eZ s a)=true:=by simp[pA,h2]
   split at h<;>rename_i h3
   ·rw[if_pos h3];exact⟨_,rfl,xe ha hw,(wH jB).2⟩
   ·rw[if_neg h3];split at h<;>rename_i h4
    ·cases h
    ·rw[if_neg h4];exact⟨_,rfl,xe ha hw,(wH jB).2⟩
  ·rw[if_neg h2];split at h<;>rename_i h3
   ·rw[if_pos h3];have hb:=wH (p:=ui) (s:=s) (i:=a+1) jB;simp only[oA]at h ⊢;split at h<;>rename_i h4
    ·rw[if_pos h4];split at h<;>rename_i h5
     ·cases h
     ·rw[if_neg h5];exact⟨iY ui s (a+1)+1,jE,jB,jB⟩
    ·cases h
   ·rw[if_neg h3];split at h<;>rename_i h4
    ·cases h
    ·rw[if_neg h4];have Vi:(s.extract a s.size).size=s.size-a:=by rw[ByteArray.size_extract];omega
     have Vd:=P1 (s:=s.extract a s.size) jB;have VV:0<(ov (s.extract a s.size)).size:=by
      rcases Nat.eq_zero_or_pos (ov (s.extract a s.size)).size with e|e
      ·exact(h4 (QB e)).elim
      ·exact e
     exact⟨a+(ov (s.extract a s.size)).size,jE,jB,jB⟩
def lM(s:U0):Nat->Nat->List cF->List cF×Int×Int
 |0,_,out=>(out,0,0)
 |n+1,i,out=>if i<s.size then
   (if(iA s i).2.2=0 then lM s n (oS s (iA s i).2.1.toNat) (out++[(iA s i).1])else([],((i:Nat):Int),(iA s i).2.2))
  else(out++[⟨0,⟨#[]⟩,s.size⟩],0,0)
theorem FU(s:U0):∀(n m i:Nat) (out:List cF),s.size<n+i->s.size<m+i->i<=s.size->lM s n i out=lM s m i out
 |0,_,i,_,h,_,h3=>by omega
 |_,0,i,_,_,h,h3=>jB
 |n+1,m+1,i,out,h1,h2,h3=>by
  unfold lM;split
  ·rename_i hi;split
   ·rename_i he;obtain⟨e,h4,h5,h6⟩:=zU hi he;rw[h4,Int.toNat_natCast];have:=wK (s:=s) (i:=e) h6;exact FU s n m _ _ jB jB this.2
   ·rfl
  ·rfl
def we(s:U0)(i:Nat)(out:List cF):List cF×Int×Int:=lM s (s.size+1) i out
variable{out:List cF}
def LY(hi:i<s.size)(he:(iA s i).2.2=0):we s i out=we s (oS s (iA s i).2.1.toNat) (out++[(iA s i).1]):=by show lM s (s.size+1) i out=lM s (s.size+1) _ _;rw[lM,if_pos hi,if_pos he];obtain⟨e,h4,h5,h6⟩:=zU hi he;rw[h4,Int.toNat_natCast];have:=wK (s:=s) (i:=e) h6;exact FU s _ _ _ _ jB jB this.2
def Sz(hi:i<s.size)(he:(iA s i).2.2≠0):we s i out=([],((i:Nat):Int),(iA s i).2.2):=by show lM s (s.size+1) i out=_;rw[lM,if_pos hi,if_neg he]
def PT(hi:¬i<s.size):we s i out=(out++[⟨0,⟨#[]⟩,s.size⟩],0,0):=by show lM s (s.size+1) i out=_;rw[lM,if_neg hi]
def kY(s:U0):List cF×Int×Int:=if(s.size:Int)>600 then([],0,4)else we s (oS s 0) []
structure Rd where
 src:ByteArray
 l:List cF
 i:Int
 nodes:List bw
 deep:Int
 e:Int
 at_:Int
 deriving Inhabited
namespace Rd
def tok(r:Rd):cF:=nth r.l r.i.toNat
def aG(r:Rd)(e:Int):Rd:=if r.e=0 then{ r with e:=e,at_:=r.tok.at_ }else r
def is(r:Rd)(t:U0):Bool:=decide (r.e=0) && (decide (r.tok.kind=5) || decide (r.tok.kind=4)) && decide (r.tok.text=t)
def kind(r:Rd)(k:Int):Bool:=decide (r.e=0) && decide (r.tok.kind=k)
def inc(r:Rd):Rd:={ r with i:=r.i+1 }
def ap(r:Rd)(t:U0):Rd:=if r.is t=true then r.inc else r.aG 20
def name(r:Rd):Rd×U0:=if r.kind 3=true then(r.inc,r.tok.text)else(r.aG 20,⟨#[]⟩)
def ci(r:Rd):Int:=pn r.src (min r.src.size r.tok.at_.toNat)
def node(r:Rd)(n:bw):Rd:={ r with nodes:=r.nodes++[n] }
def put(r:Rd)(k ln n:Int)(nm:U0)(L:UY):Rd×Int:=(r.node ⟨k,ln,n,nm,L⟩,r.nodes.length)
def down(r:Rd):Rd:={ (if 16<=r.deep then r.aG 21 else r)with deep:=r.deep+1 }
def up(r:Rd):Rd:={ r with deep:=r.deep-1 }
end Rd
def nL(level:Int):List U0:=
 if level=0 then[(⟨#[124,124]⟩:U0)]else if level=1 then[(⟨#[38,38]⟩:U0)]else if level=2 then[(⟨#[60]⟩:U0),(⟨#[60,61]⟩:U0),(⟨#[61,61]⟩:U0),(⟨#[33,61]⟩:U0)]else if level=3 then[(⟨#[43]⟩:U0),(⟨#[45]⟩:U0)]else[(⟨#[42]⟩:U0),(⟨#[47]⟩:U0),(⟨#[37]⟩:U0)]
namespace Rd
section
variable (r:Rd)(e:Int)
@[go_sem] def HL:(r.aG e).src=r.src:=by unfold aG;split<;>rfl
@[go_sem] def gZ:(r.aG e).l=r.l:=by unfold aG;split<;>rfl
@[go_sem] def wz:(r.aG e).i=r.i:=by unfold aG;split<;>rfl
@[go_sem] def dN:(r.aG e).nodes=r.nodes:=by unfold aG;split<;>rfl
@[go_sem] def Lu:(r.aG e).deep=r.deep:=by unfold aG;split<;>rfl
end
section
variable (r:Rd)
@[go_sem] def j9C:(r.inc.src=r.src)/\(r.inc.l=r.l)/\(r.inc.i=r.i+1)/\(r.inc.nodes=r.nodes)/\(r.inc.deep=r.deep)/\(r.inc.e=r.e)/\(r.inc.at_=r.at_)/\(r.up.src=r.src)/\(r.up.l=r.l)/\(r.up.i=r.i)/\(r.up.nodes=r.nodes)/\(r.up.deep=r.deep-1)/\(r.up.e=r.e)/\(r.up.at_=r.at_):=by and_intros<;>(intros;rfl)
end
def next(r:Rd)(level:Int):U0:=match (nL level).find? (fun s=>r.is s)with
 |some s=>s
 |none=>⟨#[]⟩
def nW(r:Rd):cF:=nth r.l (r.i+1).toNat
def calls(r:Rd):Bool:=r.kind 3 && decide (r.nW.kind=5) && decide (r.nW.text=(⟨#[40]⟩:U0))
def word(r:Rd):U0:=if r.kind 4=true then r.tok.text else⟨#[]⟩
end Rd
def wS(s:U0):Nat->Int
 |0=>0
 |k+1=>wS s k*10+(eZ s k-48)
def pX(s:U0):Int:=wS s s.size
mutual
def qV:Nat->Rd->Rd×Int
 |0,r=>(r,0)
 |n+1,r=>
  if r.e≠0 then(r,0)
  else if r.tok.kind=1 then r.inc.put 1 r.ci (pX r.tok.text) ⟨#[]⟩ []
  else if r.tok.kind=2 then r.inc.put 3 r.ci 0 r.tok.text []
  else if r.tok.kind=3 then
   (if r.inc.is (⟨#[91]⟩:U0)=true then
    (((dZ n 0 (r.inc.down.ap (⟨#[91]⟩:U0))).1.ap (⟨#[93]⟩:U0)).up).put 5 r.ci 0 r.tok.text [(dZ n 0 (r.inc.down.ap (⟨#[91]⟩:U0))).2]
   else r.inc.put 4 r.ci 0 r.tok.text [])
  else if r.is (⟨#[116,114,117,101]⟩:U0)=true then r.inc.put 2 r.ci 1 ⟨#[]⟩ []
  else if r.is (⟨#[102,97,108,115,101]⟩:U0)=true then r.inc.put 2 r.ci 0 ⟨#[]⟩ []
  else if r.is (⟨#[108,101,110]⟩:U0)=true then
   (if r.inc.is (⟨#[40]⟩:U0)=true then
    (((dZ n 0 (r.inc.down.ap (⟨#[40]⟩:U0))).1.ap (⟨#[41]⟩:U0)).up).put 6 r.ci 0 ⟨#[]⟩ [(dZ n 0 (r.inc.down.ap (⟨#[40]⟩:U0))).2]
   else(r.inc.aG 20,0))
  else if r.is (⟨#[40]⟩:U0)=true then
   (((dZ n 0 (r.down.ap (⟨#[40]⟩:U0))).1.ap (⟨#[41]⟩:U0)).up,(dZ n 0 (r.down.ap (⟨#[40]⟩:U0))).2)
  else(r.aG 20,0)
def iS:Nat->Rd->Rd×Int
 |0,r=>(r,0)
 |n+1,r=>
  if r.is (⟨#[45]⟩:U0)=true then((iS n r.down.inc).1.up).put 7 r.ci 0 ⟨#[]⟩ [(iS n r.down.inc).2]
  else if r.is (⟨#[33]⟩:U0)=true then((iS n r.down.inc).1.up).put 8 r.ci 0 ⟨#[]⟩ [(iS n r.down.inc).2]
  else qV n r
def dZ:Nat->Nat->Rd->Rd×Int
 |0,_,r=>(r,0)
 |n+1,lv,r=>if lv=5 then iS n r else oB n lv r.ci (dZ n (lv+1) r)
def oB:Nat->Nat->Int->Rd×Int->Rd×Int
 |0,_,_,p=>p
 |n+1,lv,ln,p=>
  if p.1.next lv=⟨#[]⟩then p
  else if lv=2 then((dZ n (lv+1) p.1.inc).1).put 9 ln 0 (p.1.next lv) [p.2,(dZ n (lv+1) p.1.inc).2]
  else oB n lv ln (((dZ n (lv+1) p.1.inc).1).put 9 ln 0 (p.1.next lv) [p.2,(dZ n (lv+1) p.1.inc).2])
end
-- what is kept
def Rd.rem(r:Rd):Nat:=if r.e=0 then(r.l.length-r.i).toNat else 0
def Rd.dS(r:Rd):Int:=r.nodes.length+3*(r.l.length-r.i)+if r.e=0 then 1 else 0
def rj(s:U0):Prop:=0<s.size/\xc s=true/\∀j,j<s.size->km (eZ s j)=true
structure Rd.Inv(r:Rd):Prop where
 src:r.src.size<=1000
 pos:0<=r.i
 lt:r.i<r.l.length
 len:r.l.length<=2000
 num:∀k,k<r.l.length->(nth r.l k).kind=1->rj (nth r.l k).text
 tk:∀k,k<r.l.length->(nth r.l k).kind≠0->k+1<r.l.length
 px:0<=r.deep
 qm:r.deep<=17
 QY:r.e=0->r.deep<=16
 dS:r.dS<=8000
structure Rd.St(r r':Rd):Prop where
 src:r'.src=r.src
 l:r'.l=r.l
 deep:r'.deep=r.deep
 i:r.i<=r'.i
 lt:r'.i<r.l.length
 dS:r'.dS<=r.dS
 err:r.e≠0->r'.e≠0
variable{r r':Rd}
def Rd.St.inv(s:Rd.St r r')(h:r.Inv):r'.Inv:=by
 obtain⟨s1,s2,s3,s4,s5,s6,s7⟩:=s;obtain⟨h1,h2,h3,h4,hn,h5,h6,h7,h8,h9⟩:=h;exact⟨by rw[s1];exact h1,jB,by rw[s2];exact s5,by rw[s2];exact h4,by rw[s2];exact hn,by rw[s2];exact h5,jB,jB,fun h=>by rw[s3];exact h8 (Classical.byContradiction fun e=>s7 e h),jB⟩
def Rd.St.refl(h:r.Inv):Rd.St r r:=⟨rfl,rfl,rfl,Int.le_refl _,h.lt,Int.le_refl _,id⟩
theorem Rd.St.trans{a b c:Rd}(h:Rd.St a b)(k:Rd.St b c):Rd.St a c:=
 ⟨k.src.trans h.src,k.l.trans h.l,k.deep.trans h.deep,Int.le_trans h.i k.i,by have:=k.lt;rw[h.l]at this;exact this,Int.le_trans k.dS h.dS,fun e=>k.err (h.err e)⟩
theorem Rd.St.rem{r r':Rd}(s:Rd.St r r'):r'.rem<=r.rem:=by
 unfold Rd.rem;have h1:=s.i;have h2:=s.l;by_cases e:r.e=0
 ·rw[if_pos e,h2];split<;>omega
 ·rw[if_neg e,if_neg (s.err e)];exact Nat.le_refl _
def Rd.behind(h:r.Inv)(hk:r.tok.kind≠0):r.i+1<r.l.length:=by have:=h.tk r.i.toNat (by have:=h.lt;have:=h.pos;omega) hk;have:=h.pos;omega
def Rd.bc(h:r.is t=true):r.e=0/\r.tok.kind≠0:=by simp only[Rd.is,Bool.and_eq_true,Bool.or_eq_true,decide_eq_true_eq]at h;exact⟨h.1.1,by rcases h.1.2 with h|h<;>omega⟩
def Rd.dR{k:Int}(h:r.kind k=true)(h0:k≠0):r.e=0/\r.tok.kind≠0:=by simp only[Rd.kind,Bool.and_eq_true,decide_eq_true_eq]at h;exact⟨h.1,jB⟩
def Rd.fU(h:r.Inv)(e:Int)(he:e≠0):Rd.St r (r.aG e):=by
 refine⟨HL _ _,gZ _ _,Lu _ _,by rw[wz];exact Int.le_refl _,by rw[wz];exact h.lt,?_,fun h1=>by unfold aG;rw[if_neg h1];exact h1⟩;unfold Rd.dS;rw[dN,gZ,wz];by_cases e0:r.e=0
 ·have:(r.aG e).e=e:=by unfold aG;rw[if_pos e0]
  rw[this,if_pos e0,if_neg he];omega
 ·have:(r.aG e).e=r.e:=by unfold aG;rw[if_neg e0]
  rw[this];omega
def Rd.bt(h:r.Inv)(hk:r.tok.kind≠0):Rd.St r r.inc/\r.inc.dS=r.dS-3:=by
 have:=Rd.behind h hk;have e:r.inc.dS=r.dS-3:=by simp only[Rd.dS,Rd.inc];omega
 exact⟨⟨rfl,rfl,rfl,by simp only[Rd.inc];omega,by simp only[Rd.inc];omega,jB,id⟩,e⟩
def Rd.aO(h:r.Inv)(t:U0):Rd.St r (r.ap t):=by
 unfold Rd.ap;split
 ·rename_i hs;exact(Rd.bt h (Rd.bc hs).2).1
 ·exact Rd.fU h 20 jC
def Rd.dz(h:r.Inv):Rd.St r r.name.1:=by
 unfold Rd.name;split
 ·rename_i hs;exact(Rd.bt h (Rd.dR hs jC).2).1
 ·exact Rd.fU h 20 jC
def Rd.mo(r:Rd)(n:bw):(r.node n).dS=r.dS+1:=by simp only[Rd.dS,Rd.node,List.length_append,List.length_cons,List.length_nil];omega
def Rd.dj(s:Rd.St r r')(hp:r'.dS+1<=r.dS)(k ln n:Int)(nm:U0)(L:UY):Rd.St r (r'.put k ln n nm L).1:=
 ⟨s.src,s.l,s.deep,s.i,s.lt,by show(r'.node _).dS<=_;rw[Rd.mo];exact hp,s.err⟩
def Rd.uS:r.down.e=(if 16<=r.deep then r.aG 21 else r).e:=rfl
def Rd.bK(h:r.Inv)(he:r.e=0):r.down.Inv/\r.down.dS<=r.dS/\r.down.i=r.i/\r.down.l=r.l/\r.down.src=r.src/\r.down.deep=r.deep+1:=by
 have hd:=h.QY he;have hi:r.down.i=r.i:=by unfold Rd.down;split<;>simp[wz]
 have hl:r.down.l=r.l:=by unfold Rd.down;split<;>simp[gZ]
 have hs:r.down.src=r.src:=by unfold Rd.down;split<;>simp[HL]
 have hn:r.down.nodes=r.nodes:=by unfold Rd.down;split<;>simp[dN]
 have hdd:r.down.deep=r.deep+1:=rfl;have hee:r.down.e=0->r.deep<16:=fun e=>by
  rw[Rd.uS]at e;split at e
  ·unfold aG at e;rw[if_pos he]at e;cases e
  ·omega
 have hp:r.down.dS<=r.dS:=by unfold Rd.dS;rw[hn,hl,hi,if_pos he];split<;>omega
 refine⟨⟨by rw[hs];exact h.src,by rw[hi];exact h.pos,by rw[hi,hl];exact h.lt,by rw[hl];exact h.len,by rw[hl];exact h.num,by rw[hl];exact h.tk,by have:=h.px;omega,jB,fun e=>by have:=hee e;omega,by have:=h.dS;omega⟩,hp,hi,hl,hs,hdd⟩
def Rd.fD(h:r.Inv)(he:r.e=0)(s:Rd.St r.down r'):Rd.St r r'.up:=by obtain⟨_,h1,h2,h3,h4,h5⟩:=Rd.bK h he;exact⟨s.src.trans h4,s.l.trans h3,by show r'.deep-1=_;rw[s.deep,h5];omega,by show r.i<=r'.i;rw[<-h2];exact s.i,by show r'.i<_;rw[<-h3];exact s.lt,by show r'.dS<=_;have:=s.dS;omega,fun e=>(e he).elim⟩
def Rd.lI{lv:Int}(h:r.next lv≠⟨#[]⟩):r.is (r.next lv)=true:=by
 unfold Rd.next at h ⊢;cases e:(nL lv).find? (fun s=>r.is s)with
 |none=>rw[e]at h;exact(h rfl).elim
 |some s=>exact List.find?_some e
def Rd.dr(h:r.Inv)(hk:r.e=0/\r.tok.kind≠0):r.inc.rem+1<=r.rem:=by have:=Rd.behind h hk.2;unfold Rd.rem;rw[if_pos hk.1,if_pos (show r.inc.e=0 from hk.1)];have:r.inc.i=r.i+1:=rfl;have:r.inc.l=r.l:=rfl;simp only[*];omega
theorem sG:∀n,(∀r:Rd,r.Inv->Rd.St r (qV n r).1)/\(∀r:Rd,r.Inv->Rd.St r (iS n r).1)/\(∀lv (r:Rd),r.Inv->Rd.St r (dZ n lv r).1)/\(∀lv ln (p:Rd×Int),p.1.Inv->Rd.St p.1 (oB n lv ln p).1)
 |0=>⟨fun r h=>by unfold qV;exact .refl h,fun r h=>by unfold iS;exact .refl h,fun lv r h=>by unfold dZ;exact .refl h,fun lv ln p h=>by unfold oB;exact .refl h⟩
 |n+1=>by
  obtain⟨ia,lg,ic,il⟩:=sG n
  -- a token, and what is behind it, deeper
  have deeper:∀(r:Rd) (t u:U0),r.Inv->r.e=0->Rd.St r ((dZ n 0 (r.down.ap t)).1.ap u).up:=fun r t u h he=>by have h1:=(Rd.bK h he).1;have s1:=Rd.aO h1 t;have s2:=ic 0 _ (s1.inv h1);have s12:=s1.trans s2;have s3:=Rd.aO (s12.inv h1) u;exact Rd.fD h he (s12.trans s3)
  refine⟨fun r h=>?_,fun r h=>?_,fun lv r h=>?_,fun lv ln p h=>?_⟩
  ·unfold qV;split
   ·exact .refl h
   rename_i he;have he:r.e=0:=jB;split
   ·rename_i hk;obtain⟨s1,e1⟩:=Rd.bt h jB;exact Rd.dj s1 jB _ _ _ _ _
   split
   ·rename_i hk;obtain⟨s1,e1⟩:=Rd.bt h jB;exact Rd.dj s1 jB _ _ _ _ _
   split
   ·rename_i hk;obtain⟨s1,e1⟩:=Rd.bt h jB;split
    ·have s2:=deeper r.inc (⟨#[91]⟩:U0) (⟨#[93]⟩:U0) (s1.inv h) he;exact Rd.dj (s1.trans s2) (by have:=s2.dS;omega) _ _ _ _ _
    ·exact Rd.dj s1 jB _ _ _ _ _
   split
   ·rename_i hs;obtain⟨s1,e1⟩:=Rd.bt h (Rd.bc hs).2;exact Rd.dj s1 jB _ _ _ _ _
   split
   ·rename_i hs;obtain⟨s1,e1⟩:=Rd.bt h (Rd.bc hs).2;exact Rd.dj s1 jB _ _ _ _ _
   split
   ·rename_i hs;obtain⟨s1,e1⟩:=Rd.bt h (Rd.bc hs).2;split
    ·have s2:=deeper r.inc (⟨#[40]⟩:U0) (⟨#[41]⟩:U0) (s1.inv h) he;exact Rd.dj (s1.trans s2) (by have:=s2.dS;omega) _ _ _ _ _
    ·exact s1.trans (Rd.fU (s1.inv h) 20 jC)
   split
   ·exact deeper r (⟨#[40]⟩:U0) (⟨#[41]⟩:U0) h he
   ·exact Rd.fU h 20 jC
  ·unfold iS;have sg:∀t,r.is t=true->∀k ln nm,Rd.St r (((iS n r.down.inc).1.up).put k ln 0 nm [(iS n r.down.inc).2]).1:=fun t ht k ln nm=>by
    obtain⟨he,hk⟩:=Rd.bc ht;obtain⟨h1,h2,h3,h4,_⟩:=Rd.bK h he;have WS:r.down.tok=r.tok:=by unfold Rd.tok;rw[h3,h4]
    obtain⟨s1,e1⟩:=Rd.bt h1 (by rw[WS];exact hk);have s2:=lg _ (s1.inv h1);exact Rd.dj (Rd.fD h he (s1.trans s2)) (by have:=s2.dS;show(iS n r.down.inc).1.dS+1<=_;omega) _ _ _ _ _
   split
   ·rename_i ht;exact sg _ ht _ _ _
   split
   ·rename_i ht;exact sg _ ht _ _ _
   ·exact ia r h
  ·unfold dZ;split
   ·exact lg r h
   ·have s1:=ic (lv+1) r h;exact s1.trans (il _ _ _ (s1.inv h))
  ·unfold oB;split
   ·exact .refl h
   rename_i hn;obtain⟨s1,e1⟩:=Rd.bt h (Rd.bc (Rd.lI hn)).2;have s2:=ic (lv+1) _ (s1.inv h);have s3:=fun L=>Rd.dj (s1.trans s2) (by have:=s2.dS;omega) 9 ln 0 (p.1.next lv) L
   split
   ·exact s3 _
   ·exact(s3 _).trans (il _ _ _ ((s3 _).inv h))
def dq(r:Rd):Rd×Int:=dZ (8*r.rem+8) 0 r
def nQ:Nat->Bool->Rd->UY->Rd×UY
 |0,_,r,L=>(r,L)
 |_+1,false,r,L=>(r,L)
 |n+1,true,r,L=>if(dq r).1.is (⟨#[44]⟩:U0)=true then nQ n true (dq r).1.inc (L++[(dq r).2])else((dq r).1,L++[(dq r).2])
def more(r:Rd):Bool:=!(r.is (⟨#[41]⟩:U0)) && decide (r.e=0)
def pG(r:Rd):Rd:=r.name.1.ap (⟨#[40]⟩:U0)
def ob(r:Rd):Rd×UY:=nQ ((pG r).rem+2) (more (pG r)) (pG r) []
def nn(r:Rd):Rd×Int:=((ob r).1.ap (⟨#[41]⟩:U0)).put 21 r.ci 0 r.name.2 (ob r).2
def lN(r:Rd):Rd×Int:=
 if r.is (⟨#[105,110,112,117,116]⟩:U0)=true then r.inc.put 19 r.ci 0 ⟨#[]⟩ []
 else if r.is (⟨#[110,101,119]⟩:U0)=true then((dq (r.inc.ap (⟨#[40]⟩:U0))).1.ap (⟨#[41]⟩:U0)).put 20 r.ci 0 ⟨#[]⟩ [(dq (r.inc.ap (⟨#[40]⟩:U0))).2]
 else if r.calls=true then nn r else dq r
def pC(r:Rd):Rd×Int:=dq (r.down.ap (⟨#[91]⟩:U0))
def vf(r:Rd):Rd×Int:=dq (((pC r).1.ap (⟨#[93]⟩:U0)).up.ap (⟨#[61]⟩:U0))
def pO(r:Rd)(ln:Int):Rd×Int:=
 if r.calls=true then((nn r).1.ap (⟨#[59]⟩:U0)).put 13 ln 0 ⟨#[]⟩ [(nn r).2]
 else if r.name.1.is (⟨#[91]⟩:U0)=true then((vf r.name.1).1.ap (⟨#[59]⟩:U0)).put 12 ln 0 r.name.2 [(pC r.name.1).2,(vf r.name.1).2]
 else((lN (r.name.1.ap (⟨#[61]⟩:U0))).1.ap (⟨#[59]⟩:U0)).put 11 ln 0 r.name.2 [(lN (r.name.1.ap (⟨#[61]⟩:U0))).2]
mutual
def gm:Nat->Rd->Rd×Int
 |0,r=>(r,0)
 |n+1,r=>
  if r.is (⟨#[123]⟩:U0)=true then((ng n (r.down.ap (⟨#[123]⟩:U0)) []).1.ap (⟨#[125]⟩:U0)).up.put 18 r.ci 0 ⟨#[]⟩ (ng n (r.down.ap (⟨#[123]⟩:U0)) []).2
  else(r.aG 20,0)
def ng:Nat->Rd->UY->Rd×UY
 |0,r,L=>(r,L)
 |n+1,r,L=>if r.e=0/\r.is (⟨#[125]⟩:U0)=false then ng n (oq n r).1 (L++[(oq n r).2])else(r,L)
def oq:Nat->Rd->Rd×Int
 |0,r=>(r,0)
 |n+1,r=>
  if r.word=(⟨#[108,101,116]⟩:U0)then((lN (r.inc.name.1.ap (⟨#[61]⟩:U0))).1.ap (⟨#[59]⟩:U0)).put 10 r.ci 0 r.inc.name.2 [(lN (r.inc.name.1.ap (⟨#[61]⟩:U0))).2]
  else if r.word=(⟨#[112,114,105,110,116]⟩:U0)then((dq r.inc).1.ap (⟨#[59]⟩:U0)).put 14 r.ci 0 ⟨#[]⟩ [(dq r.inc).2]
  else if r.word=(⟨#[119,104,105,108,101]⟩:U0)then(gm n (dq r.inc).1).1.put 16 r.ci 0 ⟨#[]⟩ [(dq r.inc).2,(gm n (dq r.inc).1).2]
  else if r.word=(⟨#[105,102]⟩:U0)then
   (if(gm n (dq r.inc).1).1.is (⟨#[101,108,115,101]⟩:U0)=true then(gm n (gm n (dq r.inc).1).1.inc).1.put 15 r.ci 0 ⟨#[]⟩ [(dq r.inc).2,(gm n (dq r.inc).1).2,(gm n (gm n (dq r.inc).1).1.inc).2]
   else(gm n (dq r.inc).1).1.put 15 r.ci 0 ⟨#[]⟩ [(dq r.inc).2,(gm n (dq r.inc).1).2])
  else if r.word=(⟨#[114,101,116,117,114,110]⟩:U0)then
   (if r.inc.is (⟨#[59]⟩:U0)=true then(r.inc.ap (⟨#[59]⟩:U0)).put 17 r.ci 0 ⟨#[]⟩ []
   else((dq r.inc).1.ap (⟨#[59]⟩:U0)).put 17 r.ci 0 ⟨#[]⟩ [(dq r.inc).2])
  else pO r r.ci
end
def oO(r:Rd):Rd×Int:=gm (4*r.rem+4) r
def tA(w:U0):Int:=if w=(⟨#[105,110,116]⟩:U0)then 1 else if w=(⟨#[98,111,111,108]⟩:U0)then 2 else if w=(⟨#[116,101,120,116]⟩:U0)then 3 else if w=(⟨#[108,105,115,116]⟩:U0)then 4 else 0
def jc(r:Rd):Rd×Int:=if tA r.word=0 then(r.aG 20,0)else(r.inc,tA r.word)
def p9(r:Rd):Rd:=(jc r.name.1).1
def mU:Nat->Bool->Rd->List bI->Rd×List bI
 |0,_,r,L=>(r,L)
 |_+1,false,r,L=>(r,L)
 |n+1,true,r,L=>if(p9 r).is (⟨#[44]⟩:U0)=true then mU n true (p9 r).inc (L++[⟨r.name.2,(jc r.name.1).2⟩])else(p9 r,L++[⟨r.name.2,(jc r.name.1).2⟩])
def nK(r:Rd):Rd:=(r.ap (⟨#[102,110]⟩:U0)).name.1.ap (⟨#[40]⟩:U0)
def tp(r:Rd):Rd×List bI:=mU ((nK r).rem+2) (more (nK r)) (nK r) []
def lK(r:Rd):Rd:=(tp r).1.ap (⟨#[41]⟩:U0)
def mN(r:Rd):Rd×Int:=if(lK r).is (⟨#[123]⟩:U0)=true then(lK r,0)else jc (lK r)
def mW(r:Rd):Rd×bk:=((oO (mN r).1).1,⟨(r.ap (⟨#[102,110]⟩:U0)).name.2,r.ci,(tp r).2,(mN r).2,(oO (mN r).1).2⟩)
def qu:Nat->Rd->List bk->Rd×List bk
 |0,r,L=>(r,L)
 |n+1,r,L=>if r.e=0/\r.kind 0=false then qu n (mW r).1 (L++[(mW r).2])else(r,L)
def oz(s:U0):Rd:=⟨s,(kY s).1,0,[],0,0,0⟩
def nZ(s:U0):Rd×List bk:=qu ((oz s).rem+1) (oz s) []
def ut(t:List bw)(L:List bk):Bool:=decide (300<t.length) || decide (6<L.length) || L.any fun f=>decide (3<f.params.length)
def ik(s:U0):aK×Int×Int:=
 if(kY s).2.2≠0 then(⟨[],[]⟩,(kY s).2.1,(kY s).2.2)
 else if(nZ s).1.e≠0 then(⟨[],[]⟩,(nZ s).1.at_,(nZ s).1.e)
 else if ut (nZ s).1.nodes (nZ s).2=true then(⟨[],[]⟩,0,4)
 else(⟨(nZ s).1.nodes,(nZ s).2⟩,0,0)
-- what is kept
def Rd.St.uZ(s:Rd.St r r')(h:r.Inv)(he:r.e=0)(hi:r.i+1<=r'.i):r'.rem+1<=r.rem:=by have h1:=s.l;have h2:=s.lt;have h3:=h.pos;unfold Rd.rem;rw[if_pos he,h1];split<;>omega
def Rd.St.lJ(h:r.Inv)(he:r.e=0)(hi:r'.e≠0):r'.rem+1<=r.rem:=by have h2:=h.lt;have h3:=h.pos;unfold Rd.rem;rw[if_pos he,if_neg hi];omega
def Rd.gU{e:Int}(he:e≠0):(r.aG e).e≠0:=by
 unfold Rd.aG;split
 ·exact he
 ·assumption
def Rd.ow(h:r.Inv)(he:r.e=0)(t:U0):(r.ap t).rem+1<=r.rem/\(r.ap t).dS+1<=r.dS:=by
 unfold Rd.ap;split
 ·rename_i hs;have hk:=Rd.bc hs;exact⟨Rd.dr h hk,by rw[(Rd.bt h hk.2).2];omega⟩
 ·have ZY:=Rd.gU (r:=r) (e:=20) jC;refine⟨Rd.St.lJ h he ZY,?_⟩;unfold Rd.dS;rw[dN,gZ,wz,if_pos he,if_neg ZY];omega
def Rd.su(h:r.Inv)(he:r.e=0):r.name.1.rem+1<=r.rem/\r.name.1.dS+1<=r.dS:=by
 unfold Rd.name;split
 ·rename_i hs;have hk:=Rd.dR hs jC;exact⟨Rd.dr h hk,by show r.inc.dS+1<=_;rw[(Rd.bt h hk.2).2];omega⟩
 ·have ZY:=Rd.gU (r:=r) (e:=20) jC;refine⟨Rd.St.lJ h he ZY,?_⟩;show(r.aG 20).dS+1<=_;unfold Rd.dS;rw[dN,gZ,wz,if_pos he,if_neg ZY];omega
def Rd.gW(h:r.Inv)(ht:r.is t=true):(r.down.ap t).rem+1<=r.rem/\(r.down.ap t).dS+1<=r.dS:=by
 obtain⟨he,hk⟩:=Rd.bc ht;obtain⟨h1,h2,h3,h4,h5,h6⟩:=Rd.bK h he;by_cases e:r.down.e=0
 ·obtain⟨a,b⟩:=Rd.ow h1 e t;have:r.down.rem<=r.rem:=by
   unfold Rd.rem;rw[if_pos he,if_pos e,h3,h4];exact Nat.le_refl _
  omega
 ·have hs:=Rd.aO h1 t;have e2:(r.down.ap t).e≠0:=hs.err e;refine⟨Rd.St.lJ h he e2,?_⟩;have:r.down.dS+1<=r.dS:=by
   have hn:r.down.nodes=r.nodes:=by unfold Rd.down;split<;>simp[dN]
   unfold Rd.dS;rw[hn,h4,h3,if_pos he,if_neg e];omega
  have:=hs.dS;omega
def kv(h:r.Inv):Rd.St r (dq r).1:=(sG _).2.2.1 0 r h
theorem Dl:∀(n:Nat) (b:Bool) (r:Rd) (L:UY),r.Inv->Rd.St r (nQ n b r L).1
 |0,_,r,L,h=>by unfold nQ;exact .refl h
 |n+1,false,r,L,h=>by unfold nQ;exact .refl h
 |n+1,true,r,L,h=>by
  have s1:=kv h;have h1:=s1.inv h;unfold nQ;split
  ·rename_i hs;have s2:=(Rd.bt h1 (Rd.bc hs).2).1;exact(s1.trans s2).trans (Dl n _ _ _ (s2.inv h1))
  ·exact s1
def Ak(h:r.Inv):Rd.St r (pG r):=(Rd.dz h).trans (Rd.aO ((Rd.dz h).inv h) _)
def CS(h:r.Inv):Rd.St r (ob r).1:=(Ak h).trans (Dl _ _ _ _ ((Ak h).inv h))
def PW(h:r.Inv):Rd.St r ((ob r).1.ap (⟨#[41]⟩:U0)):=(CS h).trans (Rd.aO ((CS h).inv h) _)
def Rd.ky(h:r.calls=true):r.kind 3=true:=by unfold Rd.calls at h;simp only[Bool.and_eq_true]at h;exact h.1.1
def B8(h:r.Inv)(hc:r.calls=true):Rd.St r (nn r).1/\(nn r).1.dS+2<=r.dS/\(nn r).1.rem+1<=r.rem:=by
 have hk:=Rd.dR (Rd.ky hc) jC;have hn:r.name.1=r.inc:=by unfold Rd.name;rw[if_pos (Rd.ky hc)]
 obtain⟨s1,e1⟩:=Rd.bt h hk.2;have h1:=s1.inv h;have s2:Rd.St r.inc ((ob r).1.ap (⟨#[41]⟩:U0)):=by
  have a1:Rd.St r.inc (pG r):=by unfold pG;rw[hn];exact Rd.aO h1 _
  have a2:Rd.St r.inc (ob r).1:=a1.trans (Dl _ _ _ _ (a1.inv h1));exact a2.trans (Rd.aO (a2.inv h1) _)
 have hp:=s2.dS;have s3:=Rd.dj (s1.trans s2) jB 21 r.ci 0 r.name.2 (ob r).2;refine⟨s3,?_,?_⟩
 ·show(((ob r).1.ap (⟨#[41]⟩:U0)).node _).dS+2<=_;rw[Rd.mo];omega
 ·refine s3.uZ h hk.1 ?_;have:=s2.i;exact this
def AE(h:r.Inv):Rd.St r (lN r).1:=by
 unfold lN;split
 ·rename_i hs;obtain⟨s1,e1⟩:=Rd.bt h (Rd.bc hs).2;exact Rd.dj s1 jB _ _ _ _ _
 split
 ·rename_i hs;obtain⟨s1,e1⟩:=Rd.bt h (Rd.bc hs).2;have h1:=s1.inv h;have s2:=Rd.aO h1 (⟨#[40]⟩:U0);have s3:=kv (s2.inv h1);have s23:=s2.trans s3;have s4:=s23.trans (Rd.aO (s23.inv h1) (⟨#[41]⟩:U0));exact Rd.dj (s1.trans s4) (by have:=s4.dS;omega) _ _ _ _ _
 split
 ·rename_i hc;exact(B8 h hc).1
 ·exact kv h
def DX(h:r.Inv)(hs:r.is (⟨#[91]⟩:U0)=true):Rd.St r.down (pC r).1/\Rd.St r ((pC r).1.ap (⟨#[93]⟩:U0)).up:=by have he:=(Rd.bc hs).1;have h1:=(Rd.bK h he).1;have s1:=Rd.aO h1 (⟨#[91]⟩:U0);have s2:=s1.trans (kv (s1.inv h1));exact⟨s2,Rd.fD h he (s2.trans (Rd.aO (s2.inv h1) _))⟩
def yG(h:r.Inv)(hs:r.is (⟨#[91]⟩:U0)=true):Rd.St r (((pC r).1.ap (⟨#[93]⟩:U0)).up.ap (⟨#[61]⟩:U0))/\Rd.St r (vf r).1:=by have s1:=(DX h hs).2;have s2:=s1.trans (Rd.aO (s1.inv h) (⟨#[61]⟩:U0));exact⟨s2,s2.trans (kv (s2.inv h))⟩
def SP(h:r.Inv)(he:r.e=0)(ln:Int):Rd.St r (pO r ln).1/\(pO r ln).1.rem+1<=r.rem:=by
 unfold pO;have s0:=Rd.dz h;have h0:=s0.inv h;obtain⟨n1,n2⟩:=Rd.su h he
 -- a name, and what is behind it
 have fin:∀(q:Rd) k L,Rd.St r.name.1 q->Rd.St r (q.put k ln 0 r.name.2 L).1/\(q.put k ln 0 r.name.2 L).1.rem+1<=r.rem:=fun q k L s=>by refine⟨Rd.dj (s0.trans s) (by have:=s.dS;omega) _ _ _ _ _,?_⟩;have:=s.rem;show q.rem+1<=_;omega
 split
 ·rename_i hc;obtain⟨s1,p1,r1⟩:=B8 h hc;have s2:=Rd.aO (s1.inv h) (⟨#[59]⟩:U0);refine⟨Rd.dj (s1.trans s2) (by have:=s2.dS;omega) _ _ _ _ _,?_⟩;have:=s2.rem;show((nn r).1.ap (⟨#[59]⟩:U0)).rem+1<=_;omega
 split
 ·rename_i hs;have s1:=(yG h0 hs).2;exact fin _ _ _ (s1.trans (Rd.aO (s1.inv h0) _))
 ·have s1:=Rd.aO h0 (⟨#[61]⟩:U0);have s2:=s1.trans (AE (s1.inv h0));exact fin _ _ _ (s2.trans (Rd.aO (s2.inv h0) _))
def Rd.gV{w:U0}(h:r.word=w)(h0:w≠⟨#[]⟩):r.kind 4=true:=by
 unfold Rd.word at h;split at h
 ·assumption
 ·exact absurd h.symm h0
theorem tx:∀n,(∀r:Rd,r.Inv->Rd.St r (gm n r).1)/\(∀(r:Rd) L,r.Inv->Rd.St r (ng n r L).1)/\(∀r:Rd,r.Inv->r.e=0->0<n->Rd.St r (oq n r).1/\(oq n r).1.rem+1<=r.rem)
 |0=>⟨fun r h=>by unfold gm;exact .refl h,fun r L h=>by unfold ng;exact .refl h,fun r h he hn=>by omega⟩
 |n+1=>by
  obtain⟨ib,is,it⟩:=tx n;refine⟨fun r h=>?_,fun r L h=>?_,fun r h he _=>?_⟩
  ·unfold gm;split
   ·rename_i hs;have he:=(Rd.bc hs).1;have h1:=(Rd.bK h he).1;have s1:=Rd.aO h1 (⟨#[123]⟩:U0);have s2:=is _ [] (s1.inv h1);have s12:=s1.trans s2;have s3:=Rd.aO (s12.inv h1) (⟨#[125]⟩:U0);have hp:=(Rd.gW h hs).2;refine Rd.dj (Rd.fD h he (s12.trans s3)) ?_ _ _ _ _ _;have:=s2.dS;have:=s3.dS;show((ng n (r.down.ap (⟨#[123]⟩:U0)) []).1.ap (⟨#[125]⟩:U0)).dS+1<=_;omega
   ·exact Rd.fU h 20 jC
  ·unfold ng;split
   ·rename_i hc;cases n with
    |zero=>unfold ng oq;exact .refl h
    |succ n=> have s1:=(it r h hc.1 jB).1;exact s1.trans (is _ _ (s1.inv h))
   ·exact .refl h
  ·-- a word, and what is behind it
   have fin:∀(w:U0) (q:Rd) k ln nm L,w≠⟨#[]⟩->r.word=w->(r.inc.Inv->Rd.St r.inc q)->Rd.St r (q.put k ln 0 nm L).1/\(q.put k ln 0 nm L).1.rem+1<=r.rem:=fun w q k ln nm L h0 hw s=>by have hk:=Rd.dR (Rd.gV hw h0) jC;obtain⟨s1,e1⟩:=Rd.bt h hk.2;have s2:=s (s1.inv h);refine⟨Rd.dj (s1.trans s2) (by have:=s2.dS;omega) _ _ _ _ _,?_⟩;have:=s2.rem;have:=Rd.dr h hk;show q.rem+1<=_;omega
   unfold oq;split
   ·rename_i hw;refine fin _ _ _ _ _ _ jC hw fun h1=>?_
    have s1:=Rd.dz h1;have s2:=s1.trans (Rd.aO (s1.inv h1) (⟨#[61]⟩:U0));have s3:=s2.trans (AE (s2.inv h1));exact s3.trans (Rd.aO (s3.inv h1) _)
   split
   ·rename_i hw;refine fin _ _ _ _ _ _ jC hw fun h1=>?_
    have s1:=kv h1;exact s1.trans (Rd.aO (s1.inv h1) _)
   split
   ·rename_i hw;refine fin _ _ _ _ _ _ jC hw fun h1=>?_
    have s1:=kv h1;exact s1.trans (ib _ (s1.inv h1))
   split
   ·rename_i hw;split
    ·rename_i hs;refine fin _ _ _ _ _ _ jC hw fun h1=>?_
     have s1:=kv h1;have s2:=s1.trans (ib _ (s1.inv h1));have h2:=s2.inv h1;have s3:=(Rd.bt h2 (Rd.bc hs).2).1;exact(s2.trans s3).trans (ib _ (s3.inv h2))
    ·refine fin _ _ _ _ _ _ jC hw fun h1=>?_
     have s1:=kv h1;exact s1.trans (ib _ (s1.inv h1))
   split
   ·rename_i hw;split
    ·exact fin _ _ _ _ _ _ jC hw fun h1=>Rd.aO h1 _
    ·refine fin _ _ _ _ _ _ jC hw fun h1=>?_
     have s1:=kv h1;exact s1.trans (Rd.aO (s1.inv h1) _)
   ·exact SP h he _
def Ct(h:r.Inv):Rd.St r (oO r).1:=(tx _).1 r h
def Nb(h:tA r.word≠0):r.e=0/\r.tok.kind≠0:=by refine Rd.dR (k:=4) (Rd.gV (r:=r) rfl fun e=>?_) jC;rw[e]at h;exact h jC
def Hf(h:r.Inv):Rd.St r (jc r).1:=by
 unfold jc;split
 ·exact Rd.fU h 20 jC
 ·rename_i ht;exact(Rd.bt h (Nb ht).2).1
def Ho(h:r.Inv):Rd.St r (p9 r):=(Rd.dz h).trans (Hf ((Rd.dz h).inv h))
theorem JS:∀(n:Nat) (b:Bool) (r:Rd) (L:List bI),r.Inv->Rd.St r (mU n b r L).1
 |0,_,r,L,h=>by unfold mU;exact .refl h
 |n+1,false,r,L,h=>by unfold mU;exact .refl h
 |n+1,true,r,L,h=>by
  have s1:=Ho h;have h1:=s1.inv h;unfold mU;split
  ·rename_i hs;have s2:=(Rd.bt h1 (Rd.bc hs).2).1;exact(s1.trans s2).trans (JS n _ _ _ (s2.inv h1))
  ·exact s1
def qH(h:r.Inv):Rd.St r (r.ap (⟨#[102,110]⟩:U0))/\Rd.St r (r.ap (⟨#[102,110]⟩:U0)).name.1/\Rd.St r (nK r)/\Rd.St (r.ap (⟨#[102,110]⟩:U0)) (nK r):=by have s1:=Rd.aO h (⟨#[102,110]⟩:U0);have h1:=s1.inv h;have s2:=Rd.dz h1;have s3:=s2.trans (Rd.aO (s2.inv h1) (⟨#[40]⟩:U0));exact⟨s1,s1.trans s2,s1.trans s3,s3⟩
def Bh(h:r.Inv):Rd.St (r.ap (⟨#[102,110]⟩:U0)) (tp r).1:=(qH h).2.2.2.trans (JS _ _ _ _ ((qH h).2.2.1.inv h))
def yT(h:r.Inv):Rd.St (r.ap (⟨#[102,110]⟩:U0)) (lK r):=(Bh h).trans (Rd.aO ((Bh h).inv ((qH h).1.inv h)) _)
def Af(h:r.Inv):Rd.St (r.ap (⟨#[102,110]⟩:U0)) (mN r).1:=by
 unfold mN;split
 ·exact yT h
 ·exact(yT h).trans (Hf ((yT h).inv ((qH h).1.inv h)))
def Ej(h:r.Inv):Rd.St r (mW r).1/\(r.e=0->(mW r).1.rem+1<=r.rem):=by have h1:=(qH h).1.inv h;have s:=(Af h).trans (Ct ((Af h).inv h1));refine⟨(qH h).1.trans s,fun he=>?_⟩;have:=(Rd.ow h he (⟨#[102,110]⟩:U0)).1;have:(oO (mN r).1).1.rem<=_:=s.rem;show(oO (mN r).1).1.rem+1<=_;omega
def OL{e:Nat}(he:e<=s.size)(hj:a+j<e):eZ (s.extract a e) (j:Nat)=eZ s ((a+j:Nat):Int):=by unfold eZ;have h1:(s.extract a e).data=s.data.extract a e:=jE;rw[h1];simp only[Int.toNat_natCast];have hs:e<=s.data.size:=he;rw[Array.getElem?_extract];rw[jP]
def Td(ha:a<s.size)(h:(iA s a).2.2=0):(iA s a).1.kind≠0/\((iA s a).1.kind=1->rj (iA s a).1.text):=by
 unfold iA at h ⊢;split at h<;>rename_i h1
 ·rw[if_pos h1];split at h<;>rename_i h2
  ·rw[if_pos h2];refine⟨fun e=>(by cases e),fun _=>?_⟩;have hb:=(wH (p:=km) (s:=s) (i:=a) jB).2;have hp:=xe ha h1;have Vi:(s.extract a (iY km s a)).size=iY km s a-a:=by rw[ByteArray.size_extract];omega
   refine⟨by show 0<(s.extract a (iY km s a)).size;omega,h2,fun j hj=>?_⟩;have hj:j<(s.extract a (iY km s a)).size:=hj;show km (eZ (s.extract a (iY km s a)) j)=true;rw[OL hb jB];exact J6 (n:=s.size+1) (i:=a) jB (by show _<iY km s a;omega)
  ·cases h
 ·rw[if_neg h1];split at h<;>rename_i h2
  ·rw[if_pos h2];split at h<;>rename_i h3
   ·rw[if_pos h3];exact⟨fun e=>(by cases e),fun e=>(by cases e)⟩
   ·rw[if_neg h3];split at h<;>rename_i h4
    ·cases h
    ·rw[if_neg h4];exact⟨fun e=>(by cases e),fun e=>(by cases e)⟩
  ·rw[if_neg h2];split at h<;>rename_i h3
   ·rw[if_pos h3];exact⟨fun e=>(by cases e),fun e=>(by cases e)⟩
   ·rw[if_neg h3];split at h<;>rename_i h4
    ·cases h
    ·rw[if_neg h4];exact⟨fun e=>(by cases e),fun e=>(by cases e)⟩
def Bk(t:cF):Prop:=t.kind≠0/\(t.kind=1->rj t.text)
theorem FB(s:U0):∀(n i:Nat) (out:List cF),s.size<n+i->i<=s.size->(lM s n i out).2.2=0->out.length<=i->(∀t∈out,Bk t)->∃ts,(lM s n i out).1=ts++[⟨0,⟨#[]⟩,s.size⟩]/\ts.length<=s.size/\∀t∈ts,Bk t
 |0,i,out,h1,h2,_,_,_=>by omega
 |n+1,i,out,h1,h2,he,hl,ho=>by
  unfold lM at he ⊢;split at he<;>rename_i hi
  ·rw[if_pos hi];split at he<;>rename_i h3
   ·rw[if_pos h3];obtain⟨e,h4,h5,h6⟩:=zU hi h3;rw[h4,Int.toNat_natCast]at he ⊢;have:=wK (s:=s) (i:=e) h6;refine FB s n _ _ jB this.2 he (by rw[List.length_append];simp;omega) fun t ht=>?_
    rcases List.mem_append.1 ht with ht|ht
    ·exact ho t ht
    ·rw[List.mem_singleton.1 ht];exact Td hi h3
   ·exact(h3 he).elim
  ·rw[if_neg hi];exact⟨out,rfl,jB,ho⟩
def TJ(he:(kY s).2.2=0):s.size<=600/\∃ts,(kY s).1=ts++[⟨0,⟨#[]⟩,s.size⟩]/\ts.length<=s.size/\∀t∈ts,Bk t:=by
 unfold kY at he ⊢;split at he<;>rename_i h
 ·cases he
 ·rw[if_neg h];have h0:=wK (s:=s) (i:=0) (Nat.zero_le _);exact⟨jB,FB s (s.size+1) _ _ jB h0.2 he jE fun t ht=>by simp at ht⟩
def S1[Inhabited α]{l m:List α}(h:k<l.length):nth (l++m) k=nth l k:=by simp only[nth,List.getD_eq_getElem?_getD,List.getElem?_append_left h]
def fc[Inhabited α]{l:List α}(h:k<l.length):nth l k∈l:=by rw[fA h];exact List.getElem_mem h
def GP(he:(kY s).2.2=0):(oz s).Inv:=by
 obtain⟨h0,ts,h1,h2,h3⟩:=TJ he;have hl:(oz s).l=ts++[⟨0,⟨#[]⟩,s.size⟩]:=h1;have hn:(oz s).l.length=ts.length+1:=by rw[hl];simp
 have Vl:nth (ts++[⟨0,⟨#[]⟩,s.size⟩]:List cF) ts.length=⟨0,⟨#[]⟩,s.size⟩:=by simp[nth]
 refine⟨by show s.size<=1000;omega,Int.le_refl _,by show(0:Int)<_;omega,jB,fun k hk VA=>?_,fun k hk VA=>?_,Int.le_refl _,by show(0:Int)<=17;decide,fun _=>by show(0:Int)<=16;decide,?_⟩
 ·rw[hl]at VA ⊢;by_cases e:k<ts.length
  ·rw[S1 e]at VA ⊢;exact(h3 _ (fc e)).2 VA
  ·have:k=ts.length:=jB;subst this;rw[Vl]at VA;cases VA
 ·by_cases e:k<ts.length
  ·omega
  ·have:k=ts.length:=jB;subst this;rw[hl,Vl]at VA;exact(VA rfl).elim
 ·show((0:Nat):Int)+3*((oz s).l.length-0)+1<=8000;omega
end Go.Gd
namespace Go.Proofs.YtjpcgmjaipfgdaaGreatDoor
open Go Go.Gd Tryz
@[go_sem] def qhp:dc prog 3=some 1/\dD prog 3=some false/\dM prog 3=some [.int .i64 0]/\ij prog 3=false/\te prog 3=false/\x9 prog 3=false/\jr prog 3=8/\dD prog 4=some false/\ij prog 4=false/\te prog 4=false/\x9 prog 4=true/\dc prog 9=some 1/\dD prog 9=some false/\dM prog 9=some [.string ⟨#[]⟩]/\tW prog 9=true/\jr prog 9=16/\dc prog 22=some 1/\dD prog 22=some false/\dM prog 22=some [.slice none 0 0]/\io prog 22=some 3/\iB prog 22=some 1/\ij prog 22=true/\jr prog 22=24/\dc prog 27=some 1:=by and_intros<;>kernel_rfl
@[go_sem] def qe0:dD prog 27=some false/\io prog 27=some 116/\iB prog 27=some 5/\ij prog 27=true/\dc prog 28=some 1/\dD prog 28=some false/\io prog 28=some 181/\iB prog 28=some 5/\ij prog 28=true/\dc prog 30=some 2/\dD prog 30=some true/\dM prog 30=some [.slice none 0 0,.slice none 0 0]/\cv prog 30 0=some 0/\cv prog 30 1=some 1/\iH prog 30=some [(0,1),(1,1)]/\dc prog 32=some 6/\dD prog 32=some true/\dM prog 32=some [.slice none 0 0,.slice none 0 0,.slice none 0 0,.slice none 0 0,.slice none 0 0,.slice none 0 0]/\cv prog 32 0=some 0/\cv prog 32 1=some 2/\cv prog 32 2=some 3/\cv prog 32 3=some 4/\cv prog 32 4=some 5/\iH prog 32=some [(0,2),(2,1),(3,1),(4,1),(5,1)]:=by and_intros<;>kernel_rfl
@[go_sem] def qgT:dc prog 33=some 1/\dD prog 33=some false/\dc prog 41=some 1/\dD prog 41=some false/\io prog 41=some 137/\iB prog 41=some 3/\ij prog 41=true/\dc prog 42=some 1/\dD prog 42=some false/\io prog 42=some 22/\iB prog 42=some 1/\ij prog 42=true/\dc prog 43=some 1/\dD prog 43=some false/\io prog 43=some 9/\iB prog 43=some 1/\ij prog 43=true/\dc prog 45=some 7/\dD prog 45=some true/\dM prog 45=some [.slice none 0 0,.slice none 0 0,.int .i64 0,.slice none 0 0,.int .i64 0,.int .i64 0,.int .i64 0]/\cv prog 45 0=some 0/\cv prog 45 1=some 1/\cv prog 45 2=some 2/\cv prog 45 3=some 3:=by and_intros<;>kernel_rfl
@[go_sem] def j89:cv prog 45 4=some 4/\cv prog 45 5=some 5/\cv prog 45 6=some 6/\wo prog 45 6=some (3,6)/\iH prog 45=some [(0,1),(1,1),(2,1),(3,1),(4,1),(5,1),(6,1)]/\dc prog 50=some 1/\dD prog 50=some false/\io prog 50=some 56/\iB prog 50=some 5/\ij prog 50=true/\dc prog 52=some 4/\dD prog 52=some true/\dM prog 52=some [.string ⟨#[]⟩,.slice none 0 0,.slice none 0 0,.slice none 0 0]/\cv prog 52 0=some 0/\cv prog 52 1=some 1/\cv prog 52 2=some 2/\cv prog 52 3=some 3/\iH prog 52=some [(0,1),(1,1),(2,1),(3,1)]/\dc prog 54=some 3/\dD prog 54=some true/\dM prog 54=some [.int .i64 0,.int .i64 0,.string ⟨#[]⟩]/\cv prog 54 0=some 0/\cv prog 54 1=some 1/\wo prog 54 1=some (3,1):=by and_intros<;>kernel_rfl
@[go_sem] def j9i:cv prog 54 2=some 2/\iH prog 54=some [(0,1),(1,1),(2,1)]/\jr prog 54=32/\dc prog 56=some 5/\dD prog 56=some true/\dM prog 56=some [.int .i64 0,.string ⟨#[]⟩,.int .i64 0,.int .i64 0,.string ⟨#[]⟩]/\cv prog 56 0=some 0/\cv prog 56 1=some 1/\cv prog 56 2=some 2/\iH prog 56=some [(0,1),(1,1),(2,3)]/\wT prog 56=some [.int .i64,.str,.int .i64,.int .i64,.str]/\jr prog 56=56/\dc prog 58=some 8/\dD prog 58=some true/\dM prog 58=some [.string ⟨#[]⟩,.int .i64 0,.string ⟨#[]⟩,.int .i64 0,.int .i64 0,.string ⟨#[]⟩,.int .i64 0,.int .i64 0]/\cv prog 58 0=some 0/\cv prog 58 1=some 1/\cv prog 58 2=some 6/\cv prog 58 3=some 7/\dc prog 65=some 1/\dD prog 65=some false/\io prog 65=some 78/\iB prog 65=some 3/\ij prog 65=true:=by and_intros<;>kernel_rfl
@[go_sem] def qg4:dc prog 67=some 5/\dD prog 67=some true/\dM prog 67=some [.slice none 0 0,.slice none 0 0,.int .i64 0,.int .i64 0,.int .i64 0]/\cv prog 67 0=some 0/\cv prog 67 1=some 1/\cv prog 67 2=some 2/\cv prog 67 3=some 3/\cv prog 67 4=some 4/\iH prog 67=some [(0,1),(1,1),(2,1),(3,1),(4,1)]/\dc prog 76=some 1/\dD prog 76=some false/\io prog 76=some 80/\iB prog 76=some 2/\ij prog 76=true/\dc prog 78=some 3/\dD prog 78=some true/\dM prog 78=some [.string ⟨#[]⟩,.int .i64 0,.slice none 0 0]/\cv prog 78 0=some 0/\cv prog 78 1=some 1/\cv prog 78 2=some 2/\iH prog 78=some [(0,1),(1,1),(2,1)]/\jr prog 78=48/\dc prog 80=some 2/\dD prog 80=some true:=by and_intros<;>kernel_rfl
@[go_sem] def qhj:dM prog 80=some [.string ⟨#[]⟩,.string ⟨#[]⟩]/\iH prog 80=some [(0,1),(1,1)]/\wT prog 80=some [.str,.str]/\jr prog 80=32/\dc prog 116=some 5/\dD prog 116=some true/\dM prog 116=some [.int .i64 0,.int .i64 0,.int .i64 0,.string ⟨#[]⟩,.slice none 0 0]/\cv prog 116 0=some 0/\cv prog 116 1=some 1/\cv prog 116 2=some 2/\cv prog 116 3=some 3/\cv prog 116 4=some 4/\wo prog 116 4=some (22,4)/\iH prog 116=some [(0,1),(1,1),(2,1),(3,1),(4,1)]/\jr prog 116=64/\dc prog 119=some 1/\dD prog 119=some false/\dc prog 135=some 1/\dD prog 135=some false/\io prog 135=some 54/\iB prog 135=some 3/\ij prog 135=true/\tW prog 135=false/\dc prog 137=some 3:=by and_intros<;>kernel_rfl
@[go_sem] def qaq:dD prog 137=some true/\dM prog 137=some [.int .i64 0,.int .i64 0,.slice none 0 0]/\cv prog 137 0=some 0/\cv prog 137 1=some 1/\cv prog 137 2=some 2/\iH prog 137=some [(0,1),(1,1),(2,1)]/\jr prog 137=40/\dc prog 172=some 1/\dD prog 172=some false/\io prog 172=some 248/\iB prog 172=some 3/\dM prog 177=some [.string ⟨#[]⟩,.slice none 0 0,.int .i64 0,.slice none 0 0,.int .i64 0,.int .i64 0,.int .i64 0]/\cv prog 177 0=some 0/\cv prog 177 1=some 1/\cv prog 177 2=some 2/\cv prog 177 3=some 3/\cv prog 177 4=some 4/\cv prog 177 5=some 5/\cv prog 177 6=some 6/\iH prog 177=some [(0,1),(1,1),(2,1),(3,1),(4,1),(5,1),(6,1)]/\dc prog 178=some 1/\dD prog 178=some false/\dM prog 178=some [.nilFunc]/\dc prog 179=some 1:=by and_intros<;>kernel_rfl
@[go_sem] def qat:dD prog 179=some false/\io prog 179=some 254/\iB prog 179=some 2/\ij prog 179=true/\dc prog 181=some 5/\dD prog 181=some true/\dM prog 181=some [.string ⟨#[]⟩,.int .i64 0,.slice none 0 0,.int .i64 0,.int .i64 0]/\cv prog 181 0=some 0/\cv prog 181 2=some 2/\cv prog 181 3=some 3/\cv prog 181 4=some 4/\iH prog 181=some [(0,1),(1,1),(2,1),(3,1),(4,1)]/\jr prog 181=64/\dc prog 184=some 1/\dD prog 184=some false/\dM prog 184=some [.slice none 0 0]/\io prog 184=some 258/\iB prog 184=some 3/\ij prog 184=true/\dM prog 186=some [.slice none 0 0,.slice none 0 0,.slice none 0 0,.slice none 0 0,.slice none 0 0,.slice none 0 0,.int .i64 0,.slice none 0 0,.int .i64 0,.int .i64 0,.int .i64 0]/\cv prog 186 0=some 0/\cv prog 186 1=some 6/\cv prog 186 2=some 7/\cv prog 186 3=some 8:=by and_intros<;>kernel_rfl
@[go_sem] def j7m:cv prog 186 4=some 9/\cv prog 186 5=some 10/\iH prog 186=some [(0,6),(6,1),(7,1),(8,1),(9,1),(10,1)]/\dc prog 197=some 1/\dD prog 197=some false/\io prog 197=some 219/\iB prog 197=some 4/\ij prog 197=true/\dc prog 199=some 2/\dD prog 199=some true/\dM prog 199=some [.slice none 0 0,.slice none 0 0]/\cv prog 199 0=some 0/\cv prog 199 1=some 1/\iH prog 199=some [(0,1),(1,1)]/\dc prog 201=some 1/\dD prog 201=some false/\dc prog 203=some 1/\dD prog 203=some false/\io prog 203=some 213/\iB prog 203=some 1/\ij prog 203=true/\dM prog 205=some [.slice none 0 0,.slice none 0 0,.slice none 0 0,.slice none 0 0,.slice none 0 0,.slice none 0 0,.slice none 0 0,.slice none 0 0,.slice none 0 0,.pointer none,.slice none 0 0,.int .i64 0,.int .i64 0,.int .i64 0,.int .i64 0]/\cv prog 205 0=some 0/\cv prog 205 1=some 6:=by and_intros<;>kernel_rfl
@[go_sem] def j7s:cv prog 205 2=some 8/\cv prog 205 3=some 9/\cv prog 205 4=some 10/\cv prog 205 5=some 11/\cv prog 205 6=some 12/\cv prog 205 7=some 13/\cv prog 205 8=some 14/\iH prog 205=some [(0,6),(6,2),(8,1),(9,1),(10,1),(11,1),(12,1),(13,1),(14,1)]/\dc prog 213=some 1/\dD prog 213=some false/\dM prog 213=some [.pointer none]/\jr prog 213=8/\cv prog 215 0=some 0/\dM prog 217=some [.slice none 0 0,.int .i64 0,.int .i64 0,.int .i64 0,.slice none 0 0]/\cv prog 217 0=some 0/\cv prog 217 1=some 1/\cv prog 217 2=some 2/\cv prog 217 3=some 3/\cv prog 217 4=some 4/\iH prog 217=some [(0,1),(1,1),(2,1),(3,1),(4,1)]/\dc prog 219=some 4/\dD prog 219=some true/\dM prog 219=some [.int .i64 0,.int .i64 0,.int .i64 0,.string ⟨#[]⟩]/\cv prog 219 0=some 0:=by and_intros<;>kernel_rfl
@[go_sem] def j7G:cv prog 219 1=some 1/\cv prog 219 2=some 2/\cv prog 219 3=some 3/\iH prog 219=some [(0,1),(1,1),(2,1),(3,1)]/\jr prog 219=40/\dc prog 229=some 1/\dD prog 229=some false/\dM prog 231=some [.slice none 0 0,.map none]/\cv prog 231 0=some 0/\cv prog 231 1=some 1/\iH prog 231=some [(0,1),(1,1)]/\dc prog 248=some 3/\dD prog 248=some true/\dM prog 248=some [.int .i64 0,.string ⟨#[]⟩,.int .i64 0]/\cv prog 248 0=some 0/\cv prog 248 1=some 1/\cv prog 248 2=some 2/\iH prog 248=some [(0,1),(1,1),(2,1)]/\jr prog 248=32/\dc prog 254=some 2/\dD prog 254=some true/\dM prog 254=some [.string ⟨#[]⟩,.int .i64 0]/\cv prog 254 0=some 0/\cv prog 254 1=some 1:=by and_intros<;>kernel_rfl
@[go_sem] def qdK:iH prog 254=some [(0,1),(1,1)]/\jr prog 254=24/\dc prog 258=some 3/\dD prog 258=some true/\dM prog 258=some [.string ⟨#[]⟩,.int .i64 0,.int .i64 0]/\cv prog 258 0=some 0/\cv prog 258 1=some 1/\cv prog 258 2=some 2/\iH prog 258=some [(0,1),(1,1),(2,1)]/\jr prog 258=32/\dc prog 267=some 7/\dM prog 267=some [.slice none 0 0,.slice none 0 0,.slice none 0 0,.slice none 0 0,.slice none 0 0,.slice none 0 0,.slice none 0 0]/\cv prog 267 0=some 0/\cv prog 267 1=some 6/\iH prog 267=some [(0,6),(6,1)]/\dM prog 269=some [.slice none 0 0,.slice none 0 0]/\cv prog 269 0=some 0/\cv prog 269 1=some 1/\iH prog 269=some [(0,1),(1,1)]/\yA prog 281=false/\dM prog 283=some [.slice none 0 0,.slice none 0 0,.slice none 0 0,.slice none 0 0,.slice none 0 0,.slice none 0 0,.pointer none,.slice none 0 0]/\cv prog 283 0=some 0/\cv prog 283 1=some 6/\cv prog 283 2=some 7:=by and_intros<;>kernel_rfl
@[go_sem] def qdO:iH prog 283=some [(0,6),(6,1),(7,1)]/\aX prog 13=true/\aX prog 19=true/\aX prog 20=true/\aX prog 21=true/\aX prog 22=true/\aX prog 23=true/\aX prog 24=true/\aX prog 25=true/\aX prog 26=true/\aX prog 27=true/\aX prog 28=true/\aX prog 29=true/\aX prog 35=true/\aX prog 36=true/\aX prog 37=true/\aX prog 52=true/\aX prog 53=true/\aX prog 55=true/\aX prog 56=true/\aX prog 58=true/\aX prog 63=true/\aX prog 65=true/\aX prog 66=true:=by and_intros<;>kernel_rfl
@[go_sem] def qfS:aX prog 67=true/\aX prog 68=true/\aX prog 69=true/\aX prog 70=true/\aX prog 71=true/\aX prog 72=true/\aX prog 73=true/\aX prog 74=true/\aX prog 75=true/\aX prog 76=true/\aX prog 82=true/\aX prog 84=true/\aX prog 85=true/\aX prog 100=true/\aX prog 101=true/\aX prog 102=true/\aX prog 103=true/\aX prog 104=true/\aX prog 105=true/\aX prog 110=true/\aX prog 111=true/\aX prog 112=true/\aX prog 113=true/\aX prog 114=true:=by and_intros<;>kernel_rfl
@[go_sem] def qa1:aX prog 116=true/\aX prog 117=true/\aX prog 118=true/\aX prog 119=true/\aX prog 120=true/\aX prog 123=true/\aX prog 124=true/\aX prog 125=true/\aX prog 126=true/\aX prog 127=true/\aX prog 128=true/\aX prog 129=true/\aX prog 130=true/\aX prog 131=true/\aX prog 142=true/\aX prog 143=true/\aX prog 144=true/\aX prog 145=true/\aX prog 146=true/\aX prog 147=true/\aX prog 148=true/\aX prog 149=true/\aX prog 150=true/\aX prog 151=true:=by and_intros<;>kernel_rfl
@[go_sem] def qbp:aX prog 152=true/\aX prog 159=true/\aX prog 160=true/\aX prog 161=true/\aX prog 162=true/\aX prog 163=true/\aX prog 164=true/\aX prog 165=true/\aX prog 166=true/\aX prog 167=true/\aX prog 168=true/\aX prog 169=true/\aX prog 171=true/\aX prog 172=true/\aX prog 173=true/\aX prog 174=true/\aX prog 175=true/\aX prog 177=true/\aX prog 178=true/\aX prog 184=true/\aX prog 185=true/\aX prog 186=true/\aX prog 187=true/\aX prog 188=true:=by and_intros<;>kernel_rfl
@[go_sem] def qbN:aX prog 189=true/\aX prog 190=true/\aX prog 191=true/\aX prog 192=true/\aX prog 193=true/\aX prog 194=true/\aX prog 195=true/\aX prog 196=true/\aX prog 197=true/\aX prog 200=true/\aX prog 201=true/\aX prog 202=true/\aX prog 203=true/\aX prog 204=true/\aX prog 205=true/\aX prog 206=true/\aX prog 207=true/\aX prog 208=true/\aX prog 209=true/\aX prog 210=true/\aX prog 211=true/\aX prog 212=true/\aX prog 213=true/\aX prog 214=true:=by and_intros<;>kernel_rfl
@[go_sem] def qcb:aX prog 215=true/\aX prog 216=true/\aX prog 217=true/\aX prog 218=true/\aX prog 219=true/\aX prog 220=true/\aX prog 221=true/\aX prog 222=true/\aX prog 224=true/\aX prog 225=true/\aX prog 231=true/\aX prog 232=true/\aX prog 233=true/\aX prog 234=true/\aX prog 235=true/\aX prog 236=true/\aX prog 237=true/\aX prog 238=true/\aX prog 240=true/\aX prog 241=true/\aX prog 242=true/\aX prog 243=true/\aX prog 244=true/\aX prog 245=true:=by and_intros<;>kernel_rfl
@[go_sem] def qcz:aX prog 246=true/\aX prog 247=true/\aX prog 254=true/\aX prog 255=true/\aX prog 256=true/\aX prog 257=true/\aX prog 258=true/\aX prog 259=true/\aX prog 260=true/\aX prog 261=true/\aX prog 262=true/\aX prog 269=true/\aX prog 270=true/\aX prog 271=true/\aX prog 272=true/\aX prog 273=true/\aX prog 276=true/\aX prog 277=true/\aX prog 280=true/\aX prog 309=true/\aX prog 310=true/\aX prog 311=true:=by and_intros<;>kernel_rfl
def mixed:prog.follows .mixedOrders=true:=jG
def iG:qx prog 229=some (false,3):=jG
@[go_sem] def qdu:yU prog 229=true:=jG
def rm:qx prog 354=some (true,3):=jG
end Go.Proofs.YtjpcgmjaipfgdaaGreatDoor