/- Lemmas. No conditions. -/
import Derived.Test.YtjpcgmjaipfgdaaGreatDoorGdY
import Derived.ProofKit
import Derived.Deep.Slices
import Derived.Carry
import Derived.Laws.MakeOwn
import Derived.OpenShut
import Derived.MapKept
import Derived.Lib.Overlaps
import Derived.Test.YtjpcgmjaipfgdaaGreatDoorProg
import Derived.KernelRfl
set_option linter.all false
namespace Go.Gd
open Go Go.ChangeShapes Go.WideShapes Go.ChangeAt Go.RowKit Go.Deep
@[reducible] def n0(w:World):NW:={ toWorld:=w,O:=fun _=>False,nm:=fun _ _=>none }
def nX(P:TL)(t:TG)(S:TB->Prop):Prop:=
 ∀(T:Type) (enc:TG×Value->T) (w:World) (fuel:Nat) (cs:TJ) (x:DataW T×List MemPlace),
  DataW.trod enc P w 0 (fun _=>true) true fuel t cs=some x->∃us,S us/\cd (n0 w) us cs
section
variable {P:TL}{t:TG}
def nX.mono{S S':TB->Prop}(h:nX P t S)(hs:∀us,S us->S' us):nX P t S':=fun T enc w fuel cs x hx=>by obtain⟨us,h1,h2⟩:=h T enc w fuel cs x hx;exact⟨us,hs us h1,h2⟩
def vX{w:NW}{a:AV}{v:Value}(h:aw w a v):cd w [a] [v]:=⟨rfl,fun i b u hb hu=>by
 cases i with
 |zero=>simp at hb hu;subst hb hu;exact h
 |succ i=>simp at hb⟩
def HZ{w:NW}{a:AV}{v:Value}{us:TB}{vs:TJ}(h:aw w a v)(hs:cd w us vs):cd w (a::us) (v::vs):=⟨by simp[hs.1],fun i b u hb hu=>by
 cases i with
 |zero=>simp at hb hu;subst hb hu;exact h
 |succ i=>exact hs.2 i b u (by simpa using hb) (by simpa using hu)⟩
def yy{k:IntKind}(ht:P.underlying t=some (.int k)):nX P t (fun us=>∃n:Int,(Lit.int k n).wf=true/\us=[.raw (.int k n)]):=fun T enc w fuel cs x hx=>by obtain⟨n,rfl,_,hwf⟩:=DataW.trod_int ht hx;exact⟨_,⟨n,hwf,rfl⟩,vX (.raw _)⟩
def B6(ht:P.underlying t=some .string):nX P t (fun us=>∃s:TF,us=[.raw (.string s)]):=fun T enc w fuel cs x hx=>by obtain⟨n,rfl,_,hwf⟩:=DataW.trod_string ht hx;exact⟨_,⟨n,rfl⟩,vX (.raw _)⟩
def A3:List (TB->Prop)->TB->Prop
 |[],us=>us=[]
 |S::Ss,us=>∃a b,S a/\A3 Ss b/\us=a++b
def z6(P:TL):List Field->List (TB->Prop)->Prop
 |[],[]=>True
 |f::l,S::Ss=>nX P f.type S/\z6 P l Ss
 |_,_=>False
def wj(P:TL):List Field->Nat->TK
 |[],o,n=>o == n
 |f::l,o,n=>f.offset == o && wj P l (o+P.cellsOf f.type) n
def O1{w:NW}{us vs:TB}{cs:TJ}{o n:Nat}(h1:cd w us ((cs.drop o).take n))(h2:cd w vs (cs.drop (o+n)))(hn:o+n<=cs.length):cd w (us++vs) (cs.drop o):=by
 have l1:us.length=n:=by rw[h1.1,List.length_take,List.length_drop];omega
 refine⟨by rw[List.length_append,l1,h2.1,List.length_drop,List.length_drop];omega,fun i a v ha hv=>?_⟩;by_cases hi:i<n
 ·rw[List.getElem?_append_left jB]at ha;exact h1.2 i a v ha (by rw[List.getElem?_take,if_pos hi];exact hv)
 ·rw[List.getElem?_append_right jB,l1]at ha;refine h2.2 (i-n) a v ha ?_;rw[List.getElem?_drop]at hv ⊢;rw[show o+n+(i-n)=o+i from jB];exact hv
theorem II{T:Type}{enc:TG×Value->T}{w:World}{m:Nat}{cs:TJ}:∀(l:List Field) (Ss:List (TB->Prop)) (o:Nat),z6 P l Ss->wj P l o cs.length=true->
  (∀f∈l,∃y,DataW.trod enc P w 0 (fun _=>true) true m f.type ((cs.drop f.offset).take (P.cellsOf f.type))=some y)->∃us,A3 Ss us/\cd (n0 w) us (cs.drop o)/\o<=cs.length
 |[],[],o,_,ho,_=>by simp only[wj,beq_iff_eq]at ho;subst ho;exact⟨[],rfl,by rw[List.drop_length];exact⟨rfl,fun i a v ha=>by simp at ha⟩,Nat.le_refl _⟩
 |f::l,S::Ss,o,hd,ho,hf=>by
  simp only[wj,Bool.and_eq_true,beq_iff_eq]at ho;obtain⟨y,hy⟩:=hf f jE;rw[ho.1]at hy;obtain⟨a,ha,Vo⟩:=hd.1 T enc w m _ y hy;obtain⟨b,hb,hrb,Ts⟩:=II l Ss _ hd.2 ho.2 fun g hg=>hf g (by simp[hg])
  exact⟨a++b,⟨a,b,ha,hb,rfl⟩,O1 Vo hrb Ts,jB⟩
 |[],_::_,_,hd,_,_=>hd.elim
 |_::_,[],_,hd,_,_=>hd.elim
def Ff{fs:Array Field}{Ss:List (TB->Prop)}(ht:P.underlying t=some (.struct fs))(ho:wj P fs.toList 0 (P.cellsOf t)=true)(hd:z6 P fs.toList Ss):nX P t (A3 Ss):=fun T enc w fuel cs x hx=>by
 obtain⟨xs,n,rfl,rfl,hl,hn,hf⟩:=DataW.trod_struct ht hx;obtain⟨us,h1,h2,_⟩:=II (T:=T) (enc:=enc) (w:=w) (m:=n) (cs:=cs) fs.toList Ss 0 hd (by rw[hl];exact ho) fun f Yh=>by obtain⟨i,hi,e⟩:=List.getElem_of_mem Yh;have:=hf i f (by rw[<-Array.getElem?_toList,List.getElem?_eq_getElem hi,e]);rw[List.getElem?_eq_getElem (by rw[hn];simpa using hi)]at this;exact⟨_,this⟩
 exact⟨us,h1,by simpa using h2⟩
def OX{e:TG}{α:Type}[Inhabited α]{ok:α->Prop}{encA:α->TB}{sz:Nat}(ht:P.underlying t=some (.slice e))(hc:P.cellsOf e=sz)(Ti:0<sz)(he:nX P e (fun us=>∃a,ok a/\us=encA a))(hl:∀a,(encA a).length=sz) :
  nX P t (fun us=>∃l:List α,((∀a∈l,ok a)/\l.length<=9223372036854775807)/\us=[aM encA sz l]):=fun T enc w fuel cs x hx=>by
 rcases open_slice ht hx with⟨rfl,_⟩|⟨a,len,cap,m,n,D,Pl,rfl,_,Z',Tn,hm,_,hr⟩
 ·exact⟨_,⟨[],⟨jE,jE⟩,rfl⟩,vX (.gz _ _ _ _ jE)⟩
 ·simp only[if_true]at hm;obtain rfl:cap=m:=hm.symm;have Ua:∀i,i<len->∃g:α,ok g/\∃cs',w.cells? 0 (a.add (i*sz)) sz=some cs'/\cd (n0 w) (encA g) cs':=fun i hi=>by
   obtain⟨cs',h1,h2⟩:=hr i jB;rw[hc]at h1;obtain⟨us,⟨g,hok,rfl⟩,Tz⟩:=he T enc w n cs' _ h2;exact⟨g,hok,cs',h1,Tz⟩
  obtain⟨g,hg⟩:∃g:Nat->α,∀i,i<len->ok (g i)/\∃cs',w.cells? 0 (a.add (i*sz)) sz=some cs'/\cd (n0 w) (encA (g i)) cs':=by
   classical
   exact⟨fun i=>if h:i<len then(Ua i h).choose else default,fun i hi=>by simp only[dif_pos hi];exact(Ua i hi).choose_spec⟩
  have Uk:((List.range len).map g).length=len:=jE;refine⟨_,⟨(List.range len).map g,⟨fun y hy=>?_,by rw[Uk];have:cap<=9223372036854775807:=Tn;omega⟩,rfl⟩,vX ?_⟩
  ·obtain⟨i,hi,rfl⟩:=List.mem_map.1 hy;exact(hg i (by simpa using hi)).1
  ·have Tc:(((List.range len).map g).map encA).length=len:=jE;have hn:∀i,i<len->(((List.range len).map g).map encA).getD i []=encA (g i):=fun i hi=>by simp[List.getD_eq_getElem?_getD,hi]
   by_cases h0:len=0
   ·subst h0;exact .gz _ _ _ _ jE
   ·have D':∀i j,i<len->j<sz->∃v,w.cell? (a.add (i*sz+j))=some v/\∀u,(encA (g i))[j]?=some u->aw (n0 w) u v:=fun i j hi hj=>by
     obtain⟨_,cs',h1,h2⟩:=hg i hi;obtain⟨_,I',T8⟩:=World.cells?_some h1;have hv:cs'[j]?=some cs'[j]:=List.getElem?_eq_getElem jB;refine⟨cs'[j],?_,fun u hu=>h2.2 j u _ hu hv⟩;rw[<-wB,T8 j hj,hv]
    have:=aw.sl (w:=n0 w) (d:=encA default) false sz (((List.range len).map g).map encA) a cap (fun k=>(w.cell? (a.add k)).getD undef) jB jB jE (fun cs Ug=>by
     obtain⟨y,_,rfl⟩:=List.mem_map.1 Ug;exact hl y) (by
     obtain⟨_,cs',h1,_⟩:=hg 0 jB;have:=World.cells?_block h1 Ti;rwa [po]at this) (fun h=>h) (fun i j hi hj=>by
     obtain⟨v,hv,_⟩:=D' i j jB hj;rw[hv];rfl) (fun i j u hi hu=>by
     rw[hn i jB]at hu;have hj:j<sz:=by rw[<-hl (g i)];exact(List.getElem?_eq_some_iff.1 hu).1
     obtain⟨v,hv,Tz⟩:=D' i j jB hj;rw[hv];exact Tz u hu)
    rw[Tc]at this;exact this
-- arguments
variable {T:Type}{enc:TG×Value->T}{w:World}{v:Value}{d:DataW T}{ps:List MemPlace}{base:Nat}
def LZ{S:AV->Prop}(hd:nX P t (fun us=>∃a,S a/\us=[a]))(hv:v.cells.toList=[v])(h:DataW.Trod enc P w 0 (fun _=>true) true t v d ps):∃a,S a/\aw (n0 w) a v:=by obtain⟨fuel,hf⟩:=h;rw[hv]at hf;obtain⟨us,⟨a,hs,rfl⟩,hr⟩:=hd T enc w fuel _ _ hf;exact⟨a,hs,hr.2 0 a v rfl rfl⟩
end
section
variable {P:TL}{T:Type}{enc:TG×Value->T}
theorem Eh(hl:laidOutB P=true){W W':World}(hb:Below W.heap.size W W'):∀(ts:List TG) (vs:TJ) (ds:List (DataW T)) (ps:List MemPlace),(∀t∈ts,P.readableRec t=true/\t<P.types.size)->
  DataW.TrodAll enc P W 0 (fun _=>true) true ts vs ds ps->(∀x∈ps,x.block<W.heap.size)->DataW.TrodAll enc P W' 0 (fun b=>decide (b<W.heap.size)) true ts vs ds ps
 |[],[],[],ps,_,h,_=>h
 |t::ts,v::vs,d::ds,ps,hr,h,O'=>by obtain⟨p,q,h1,h2,rfl⟩:=h;exact⟨p,q,Below.trod hl (hr t jE).1 (hr t jE).2 h1 hb fun x hx=>O' x (by simp[hx]),Eh hl hb ts vs ds q (fun t ht=>hr t (by simp[ht])) h2 fun x hx=>O' x (by simp[hx]),rfl⟩
 |[],_::_,_,_,_,h,_=>h.elim
 |[],[],_::_,_,_,h,_=>h.elim
 |_::_,[],_,_,_,h,_=>h.elim
 |_::_,_::_,[],_,_,h,_=>h.elim
def MY{fn:Func}{s:ChangeSpec}{apart ot handsOn:Bool}{W W':World}{args:TI}{ds:List (DataW T)}{before:List MemPlace}{tb:TG}(hW:DataW.Whole enc P fn.params.toList s.vars apart W args.toList ds [] before)
  (hx:Below W.heap.size W W') (hl:laidOutB P=true) (hr:∀t∈fn.params.toList,P.readableRec t=true/\t<P.types.size) (hrt:fn.resultTypes=#[tb]) (hb:P.underlying tb=some .bool) (hv:s.vars=[])
  (e1:(s.fn T (ds++[])).results=[.lit (.bool true)]) (e2:(s.fn T (ds++[])).args=ds) (e3:(s.fn T (ds++[])).vars=[]):s.post enc P fn apart ot handsOn false W args (.bool true) W':=by
 have hW':=hW;obtain⟨p,q,hA,hV,rfl,hfz,YI⟩:=hW;rw[hv]at hV;have hq:q=[]:=hV;subst hq;refine⟨ds,[],_,[],p,[],hW',?_,?_,?_,hx.frame _,fun h=>by cases h⟩
 ·rw[hrt,e1];exact trodAll_mk1 (shut_bool hb true)
 ·rw[e2];exact Eh hl hx _ _ _ _ hr hA fun x TW=>by simpa using hW'.lt x (by simpa using TW)
 ·rw[hv,e3];exact rfl
def C5(W:World)(hg:j5 (n0 W)):aI (n0 W) (entry []):={
 bO:=hg
 rows:=fun i r h=>(by cases h)
 cU:=fun i m z h=>(by cases h)
 inj:=fun i m j n b t s t' s' h _=>(by cases h)
 own:=fun i m b t s h=>(by cases h)
 fin:=fun b h=>h.elim }
def MO{f:FuncId}{avs:TB}{args:TI}{W:World}(hg:j5 (n0 W))(h:aB P f avs (.raw (.bool true)))(ha:cd (n0 W) avs args.toList):Calls P f args W fun e W'=>e=.returned (.bool true)/\Below W.heap.size W W':=by refine(h (n0 W) args (C5 W hg) ⟨by rw[ha.1];simp,fun i a v h1 h2=>ha.2 i a v h1 (by rw[Array.getElem?_toList];exact h2)⟩).mono ?_;rintro e w' ⟨v,r,H',w2,rfl,rfl,⟨rfl,_⟩,_,g2,g3⟩;have:=db g2;subst this;exact⟨rfl,⟨g3.os,g3.tape,g3.output,g3.size,fun k hk=>(g3.free k hk (fun h=>h)).1⟩⟩
end
section
variable {P:TL}{f:FuncId}{args cs:TB}{H:Hp}{K:S8}{q:Prop}
def cl{l l0:TA}{r0:AV}(hc:ab P f (args++cs) l fun r l'=>r=r0/\l'=l0)(k:q)(h1:qx l H:=by exact du)(h0:aT P f=true:=by exact du)(h2:aW (fun i=>(ids l).contains i) (args++cs)=true:=by exact du)(h3:qX (fun i=>(ids l).contains i) l:=by exact du)
 (h4:ot (ids l) H l0:=by exact du) (h5:(ids l0).Nodup:=by exact du) (e:K r0 ⟨H.B,gu H.l l0⟩=q:=by exact fj):ff P (.dP f cs) args H K:=R7 h0 (v7 hc h1 h2 h3 h4 h5 (e ▸ k))
def cq{R:AV->Prop}{r0:AV}(hc:aB P f args r0)(k:q)(h0:aT P f=true:=by exact du)(h2:aW dU args=true:=by exact du)(e:R r0=q:=by exact fj) :
  ∃r,(ff P (.raw (.func (.func f) #[] #[])) args H fun r' H'=>r'=r/\H'=H)/\R r:=⟨r0,nG h0 (zG hc h2 ⟨rfl,rfl⟩),e ▸ k⟩
end
def Sub(a' a:AV):Prop:=∀(w:NW) v,aw w a' v->aw w a v
def nj:TB->TB->Prop
 |[],[]=>True
 |a::l,b::m=>Sub a b/\nj l m
 |_,_=>False
def Sub.refl(a:AV):Sub a a:=fun _ _ h=>h
def Sub.nil(sz:Nat)(d:TB):Sub (.raw (.slice none 0 0)) (.sl false sz [] d):=fun w v h=>by have:=db h;subst this;exact .gz _ _ _ _ jE
def Sub.lit(sz:Nat)(css:S9)(d d':TB):Sub (.sl true sz css d) (.sl false sz css d'):=fun w v h=>by
 cases h with
 |gz _ _ A c _=>exact .gz _ _ _ _ jE
 |sl _ _ _ a c vs hn hc hx Ti hb hH D' h=>exact .sl false sz css a c vs hn hc jE Ti hb hH D' h
theorem nj.get:∀{l m:TB},nj l m->l.length=m.length/\∀(i:Nat) a b,l[i]?=some a->m[i]?=some b->Sub a b
 |[],[],_=>⟨rfl,fun i a b h=>by simp at h⟩
 |x::l,y::m,h=>by
  have ih:=nj.get h.2;refine⟨by simp[ih.1],fun i a b ha hb=>?_⟩;cases i with
  |zero=>simp at ha hb;subst ha hb;exact h.1
  |succ i=>exact ih.2 i a b (by simpa using ha) (by simpa using hb)
 |[],_::_,h=>h.elim
 |_::_,[],h=>h.elim
def Il{P:TL}{f:FuncId}{args args':TB}{r:AV}(hc:aB P f args r)(h:nj args' args):aB P f args' r:=fun w vs h1 h2=>hc w vs h1 ⟨h.get.1.symm.trans h2.1,fun i a v ha hv=>by
 have hi:i<args'.length:=by rw[h.get.1];exact(List.getElem?_eq_some_iff.1 ha).1
 exact h.get.2 i args'[i] a (List.getElem?_eq_getElem hi) ha w v (h2.2 i _ v (List.getElem?_eq_getElem hi) hv)⟩
end Go.Gd
namespace Go.Gd
open Go
variable{zs:TJ}{n sz:Nat}
def O9{w:NW}{z:TI}(hz:z.toList=zs)(hl:zs.length=sz)(h0:0<sz)(k:Nat)(a:AV)(v:Value)(ha:(List.replicate n (zs.map AV.raw)).flatten[k]?=some a)(hv:(madeCells z (n*sz))[k]?=some v):aw w a v:=by
 have W4:z.size=sz:=by rw[<-hl,<-hz];simp
 have hk:k<n*sz:=by have:=(Array.getElem?_eq_some_iff.1 hv).1;rwa [size_madeCells]at this
 obtain⟨i,j,hi,hj,rfl⟩:=uA hk;have Ug:∀cs∈List.replicate n (zs.map AV.raw),cs.length=sz:=fun cs Ug=>by rw[(List.mem_replicate.1 Ug).2];simpa using hl
 have hg:=pW Ug (i:=i) (j:=j) (by simpa using hi) hj;rw[hg]at ha;have:(List.replicate n (zs.map AV.raw)).getD i []=zs.map AV.raw:=by simp[List.getD_eq_getElem?_getD,hi]
 rw[this]at ha;simp only[List.getElem?_map,Option.map_eq_some_iff]at ha;obtain⟨x,hx,rfl⟩:=ha;have e:(i*sz+j) % sz=j:=by rw[Nat.add_comm,Nat.add_mul_mod_self_right];exact Nat.mod_eq_of_lt hj
 have:v=x:=by
  have Xk:(madeCells z (n*sz))[i*sz+j]?=some (z[(i*sz+j) % z.size]!):=by simp[madeCells,hk]
  rw[Xk]at hv;have hv:=Option.some.inj hv;rw[<-hv,W4,e];have hjz:j<z.size:=jB;rw[getElem!_pos z j hjz];have TW:z.toList[j]?=some x:=by rw[hz];exact hx
  rw[Array.getElem?_toList]at TW;exact Option.some.inj ((Array.getElem?_eq_getElem hjz).symm.trans TW)
 subst this;exact .raw _
variable{K:S8}{q:Prop}{t:TG}
def KH{P:TL}{ev:TH}{H:Hp}{ty:TG}(i:Nat){et:TG}{l c:Operand}(k:q)(hl:ev l=.raw (.int .i64 (n:Int)):=by rfl)(hc:ev c=.raw (.int .i64 (n:Int)):=by rfl)(ht:ij P t=some et:=by(simp only[go_sem];rfl))(hs:de P et=some sz:=by(simp only[go_sem];rfl))(hz:dM P et=some zs:=by(simp only[go_sem];rfl))(VC:zs.length=sz:=by rfl)(h0:0<sz:=by decide)(hr:room (ki P et) n:=by(simp only[go_sem];omega))(hi:H.get i=none:=by rfl)
  (e:K (.rs i n sz n) (H.put i (.aF et sz (List.replicate n (zs.map .raw))))=q:=by exact fj):jy P (.makeSlice t l c) ty ev H K:=fun w ρ dst pos after guard hw hρ=>by
 have h1:=hρ l (by simp[Op.operands]);have h2:=hρ c (by simp[Op.operands]);rw[hl]at h1;rw[hc]at h2;have e1:=db h1;have e2:=db h2;have hu:P.underlying t=some (.slice et):=sF ht;unfold de at hs;cases hf:P.info? et with
 |none=>rw[hf]at hs;cases hs
 |some inf=>
  rw[hf]at hs;have Ti:inf.size=sz:=by simpa using hs
  have T2:=hz;unfold dM at T2;rw[hf]at T2;simp only[Option.bind_some,Option.map_eq_some_iff]at T2;obtain⟨z,hzz,hae⟩:=T2;have Xg:ki P et=inf.bytes:=by unfold ki;rw[hf];rfl
  obtain⟨r1,r2⟩:=hr;rw[Xg]at r1;have B':=run_make (P:=P) w.toWorld t et inf z hu hf hzz .i64 .i64 (n:Int) (n:Int) jB jB (by have h:((n*inf.bytes:Nat):Int)<=140737488355328:=jB;rw[Int.natCast_mul,Int.mul_comm]at h;omega) jB
  simp only[Int.toNat_natCast]at B';rw[Ti]at B';have Ug:∀cs∈List.replicate n (zs.map AV.raw),cs.length=sz:=fun cs Ug=>by rw[(List.mem_replicate.1 Ug).2];simpa using VC
  have Ux:=gh Ug;simp only[List.length_replicate]at Ux;obtain⟨q1,q2⟩:=vf (row:=.aF et sz (List.replicate n (zs.map AV.raw))) hw (hw.none hi _) (fun r' hr=>by rw[hi]at hr;cases hr) ⟨h0,Ug⟩ (madeCells z.cells (n*sz)) ⟨rfl,by show(List.replicate n (zs.map AV.raw)).flatten.length<=_;rw[Ux,size_madeCells];exact Nat.le_refl _⟩ (fun k a v ha hv=>O9 hae VC h0 k a v ha hv);refine⟨_,_,.rs i n sz n,e ▸ k,q1,q2,.inl ⟨.slice (some ⟨w.heap.size,0,none⟩) n n,?_,?_⟩⟩
  ·simp only[execOp,e1,e2];simp[B'];rfl
  ·have Th:(((w.to (w.alloc (.cells (madeCells z.cells (n*sz)) et))).ga w.heap.size).name i n (.at w.heap.size (n*sz) sz)).nm i n=some (.at w.heap.size (n*sz) sz):=NW.cw _ _ _ _;have:=aw.rs (w:=((w.to (w.alloc (.cells (madeCells z.cells (n*sz)) et))).ga w.heap.size).name i n (.at w.heap.size (n*sz) sz)) i n sz n w.heap.size (n*sz) n Th rfl jl h0;have e3:(Row.aF et sz (List.replicate n (zs.map AV.raw))).fB=n:=by show(List.replicate n (zs.map AV.raw)).length=n;simp
   have e4:(madeCells z.cells (n*sz)).size=n*sz:=size_madeCells _ _;rw[e3,e4];exact this
open Go.ChangeShapes Go.WideShapes Go.ChangeAt Go.RowKit
def gB(a k:Nat):Nat:=1000+(8*k+a)
def yQ(a k:Nat):1000<=gB a k:=by unfold gB;omega
def xW{a b k j:Nat}(ha:a<8)(hb:b<8)(h:gB a k=gB b j):a=b/\k=j:=by unfold gB at h;omega
def oB(a:Nat)(f:TM):Nat->Nat->List TN->TA
 |_,0,l=>l
 |k,n+1,l=>(gB a k,f k)::oB a f (k+1) n l
def iN(a n:Nat)(f:TM)(l:TA):TA:=oB a f 0 n l
theorem As(a:Nat)(ha:a<8)(f:TM)(l:TA):∀(n k j:Nat),aA (oB a f k n l) (gB a j)=if k<=j/\j<k+n then some (f j)else aA l (gB a j)
 |0,k,j=>by unfold oB;rw[jN]
 |n+1,k,j=>by
  show(if gB a j=gB a k then some (f k)else aA (oB a f (k+1) n l) (gB a j))=_;by_cases e:j=k
  ·subst e;rw[if_pos rfl,jP]
  ·rw[if_neg (fun h=>e (xW ha ha h).2),As a ha f l n (k+1) j];by_cases h:k+1<=j/\j<k+1+n
   ·rw[if_pos h,jP]
   ·rw[if_neg h,jN]
theorem yp(a:Nat)(f:TM)(l:TA)(i:Nat)(hi:∀k,i≠gB a k):∀(n k:Nat),aA (oB a f k n l) i=aA l i
 |0,k=>rfl
 |n+1,k=>by show(if i=gB a k then some (f k)else aA (oB a f (k+1) n l) i)=_;rw[if_neg (hi k)];exact yp a f l i hi n (k+1)
@[go_sem] def vk(a n:Nat)(f:TM)(l:TA)(i:Nat)(h:i<1000):aA (iN a n f l) i=aA l i:=yp a f l i (fun k e=>by have:=yQ a k;omega) n 0
@[go_sem] def qW(a n:Nat)(f:TM)(l:TA)(b k:Nat)(ha:a<8)(hb:b<8)(h:a≠b):aA (iN a n f l) (gB b k)=aA l (gB b k):=yp a f l _ (fun j e=>h (xW hb ha e).1.symm) n 0
@[go_sem] def tP(a n:Nat)(f:TM)(l:TA)(k:Nat)(ha:a<8)(h:k<n):aA (iN a n f l) (gB a k)=some (f k):=by unfold iN;rw[As a ha,jP]
@[go_sem] def O4(a n:Nat)(f:TM)(l:TA)(k:Nat)(ha:a<8)(h:n<=k):aA (iN a n f l) (gB a k)=aA l (gB a k):=by unfold iN;rw[As a ha,jN]
def uV(a n:Nat)(ha:a<8)(f:TM)(l:TA)(i:Nat):(∃k,k<n/\i=gB a k/\aA (iN a n f l) i=some (f k))\/((∀k,k<n->i≠gB a k)/\aA (iN a n f l) i=aA l i):=by
 by_cases h:∃k,i=gB a k
 ·obtain⟨k,rfl⟩:=h;by_cases hk:k<n
  ·exact .inl ⟨k,hk,rfl,tP a n f l k ha hk⟩
  ·exact .inr ⟨fun j hj e=>hk ((xW ha ha e).2 ▸ hj),O4 a n f l k ha jB⟩
 ·exact .inr ⟨fun k _ e=>h ⟨k,e⟩,yp a f l i (fun k e=>h ⟨k,e⟩) n 0⟩
def xu{α:Type}(n:Nat)(f:Nat->α):List α:=(List.range n).map f
def G5{q:TK}{f:Nat->TB}(h:∀k,k<n->aW q (f k)=true):QL q (xu n f):=fun c hc=>by obtain⟨k,hk,rfl⟩:=List.mem_map.1 hc;exact h k (by simpa using hk)
variable{B:TE}{l:TA}
def GY{r:AV}(l':TA)(h:∀i,aA l i=aA l' i):iw r ⟨B,l⟩ r ⟨B,l'⟩:=fun w v h1 h2=>by
 have hg:∀i,(Hp.mk B l').get i=(Hp.mk B l).get i:=fun i=>(h i).symm
 exact⟨w,rfl,{ rows:=fun i r hi=>h1.rows i r ((hg i) ▸ hi),cU:=fun i m z hz=>by rw[hg];exact h1.cU i m z hz,inj:=h1.inj,own:=h1.own,fin:=h1.fin,bO:=h1.bO },h2,{ ExtQ.refl _ w with base:=rfl }⟩
def zV{w:NW}{l':TA}(h:∀i,aA l i=aA l' i)(h1:aI w ⟨B,l⟩):aI w ⟨B,l'⟩:=by
 have hg:∀i,(Hp.mk B l').get i=(Hp.mk B l).get i:=fun i=>(h i).symm
 exact{ rows:=fun i r hi=>h1.rows i r ((hg i) ▸ hi),cU:=fun i m z hz=>by rw[hg];exact h1.cU i m z hz,inj:=h1.inj,own:=h1.own,fin:=h1.fin,bO:=h1.bO }
structure Lays(E:List (Nat×Row)->List (Nat×Row))(tl:List (Nat×Row)):Prop where
 get:∀i,aA (E tl) i=(aA (E []) i).or (aA tl i)
 apart:∀i r,aA tl i=some r->aA (E []) i=none
def Bg{P:TL}{f:FuncId}{args:TB}{tl:TA}{E E':List TN->TA}{r0:AV}(hc:ab P f args (E []) fun r l'=>r=r0/\l'=E' [])(h1:Lays E tl)(h2:Lays E' tl)(h3:(ids (E' [])).Nodup)
  (ha:aW (fun i=>(ids (E [])).contains i) args=true) (hr:∀i r,aA (E []) i=some r->aW (fun i=>(ids (E [])).contains i) r.cells=true) (hk:K r0 ⟨B,E' tl⟩) (h4:∀i,aA (E []) i≠none->aA (E' []) i≠none):di P f args ⟨B,E tl⟩ K:=fun w vs hw hv=>by
 refine(yu (H:=⟨B,E tl⟩) (K:=fun r H'=>r=r0/\∃l',H'=⟨B,l'⟩/\∀i,aA l' i=aA (E' tl) i) hc (fun i r hi=>?_) ha hr (fun r l' ⟨e1,e2⟩=>⟨fun i s hs=>?_,by rw[e2];exact h3,e1,_,rfl,fun i=>?_⟩) hw hv).mono ?_
 ·show aA (E tl) i=some r;rw[h1.get,hi];rfl
 ·cases e:aA (E []) i with
  |some x=>exact .inl (qY e)
  |none=>
   right
   show aA (E tl) i=none;rw[h1.get,e,Option.none_or];cases e':aA tl i with
   |none=>rfl
   |some y=>rw[e2]at hs;have:=h2.apart i y e';rw[this]at hs;cases hs
 ·rw[e2,ut _ _ _ (fun _ _ _=>trivial) h3,h2.get,h1.get];cases e:aA (E' []) i with
  |some x=>rfl
  |none=>
   have:aA (E []) i=none:=Classical.byContradiction fun h=>h4 i h e
   rw[this];rfl
 ·rintro e W ⟨v,r,H',w',rfl,rfl,⟨rfl,l',rfl,hl⟩,g1,g2,g3⟩;exact⟨v,_,⟨B,E' tl⟩,w',rfl,rfl,hk,zV hl g1,g2,{ g3 with base:=rfl }⟩
def bY{P:TL}(i:Nat){H:Hp}(k:q)(hi:H.get i=none:=by first|rfl|exact du)(hz:dM P t=some zs:=by(simp only[go_sem];rfl))(e:K (.pt i 0 0 0) (H.put i (.var t (zs.map .raw)))=q:=by exact fj):nH P H t K:=yH i hz hi (e ▸ k)
def aV(i:Nat){x:AV}{H:Hp}(k:q)(hi:H.get i=none:=by first|rfl|exact du)(ho:cI x.cells=true:=by simp only[go_sem])(e:K (.pt i 0 0 0) (H.put i (.var t x.cells))=q:=by exact fj):qE H t x K:=zE i ho hi (e ▸ k)
section
variable {α:Type}[DecidableEq α]
def pG(n:α):List α->TB->Option AV
 |k::ks,v::vs=>if n=k then some v else pG n ks vs
 |_,_=>none
def mY(n:α)(x:AV):List α->TB->TB
 |k::ks,v::vs=>if n=k then x::vs else v::mY n x ks vs
 |_,_=>[x]
def nr(n:α):List α->List α
 |k::ks=>if n=k then k::ks else k::nr n ks
 |[]=>[n]
theorem Gh(n:α)(x:AV):∀(ks:List α) (vs:TB),ks.length=vs.length->(nr n ks).length=(mY n x ks vs).length
 |[],[],_=>rfl
 |[],_::_,h=>by simp at h
 |_::_,[],h=>by simp at h
 |k::ks,v::vs,h=>by
  have h:ks.length=vs.length:=by simpa using h
  unfold nr mY;split
  ·simp[h]
  ·simp[Gh n x ks vs h]
structure j3(P:Program)(kt:TypeId)(enc:α->Value):Prop where
 Ld:∃d,P.underlying kt=some d/\∀a b,Instr.sameNow d (enc a) (enc b)=some (decide (a=b))
 xP:∀(w:World) a e,(Instr.checkKey e 10000 kt (enc a)).run P w=.ok () w
 bits:∀a,Instr.sameBits 10000 (enc a) (enc a)=true
variable{P:TL}{kt:TG}
def O8(h:P.underlying kt=some (.int .i64)):j3 P kt (Value.int .i64):=⟨⟨_,h,fun a b=>by simp[Instr.sameNow];rfl⟩,fun w a e=>MapKept.run_checkKey h (by simp[MapKept.IsKey]) e 9999,fun a=>by unfold Instr.sameBits;simp⟩
def N0(h:P.underlying kt=some .string):j3 P kt Value.string:=⟨⟨_,h,fun a b=>by
 have:(a == b)=decide (a=b):=by rw[Bool.eq_iff_iff,MapKept.bytes_beq];simp
 simp only[Instr.sameNow,this]⟩,fun w a e=>MapKept.run_checkKey h (by simp[MapKept.IsKey]) e 9999,fun a=>by unfold Instr.sameBits;exact(MapKept.bytes_beq a a).2 rfl⟩
def nQ(n:α):List α->TJ->Nat->Option (Nat×Value)
 |k::ks,v::vs,i=>if n=k then some (i,v)else nQ n ks vs (i+1)
 |_,_,_=>none
theorem Fj{d:TypeDesc}{enc:α->Value}(h:∀a b,Instr.sameNow d (enc a) (enc b)=some (decide (a=b)))(n:α):∀(ks:List α) (vs:TJ) (b i:Nat),Instr.findNow d (enc n) (iL b (ks.map enc) vs) i=some (nQ n ks vs i)
 |[],vs,b,i=>by simp[iL,nQ,Instr.findNow]
 |k::ks,[],b,i=>by simp[iL,nQ,Instr.findNow]
 |k::ks,v::vs,b,i=>by
  simp only[List.map_cons,iL,nQ,Instr.findNow,h];by_cases e:n=k
  ·simp[e]
  ·simp[e,Fj h n ks vs (b+1) (i+1)]
theorem Bo{n:α}:∀{ks:List α} {vs:TJ} {i j:Nat} {v:Value},nQ n ks vs i=some (j,v)->∃k,j=i+k/\vs[k]?=some v/\ks[k]?=some n/\k<ks.length/\
  (∀zl:TB,zl.length=ks.length->pG n ks zl=zl[k]?/\(∀x,mY n x ks zl=zl.set k x))/\nr n ks=ks
 |[],_,_,_,_,h=>by simp[nQ]at h
 |_::_,[],_,_,_,h=>by simp[nQ]at h
 |k::ks,v'::vs,i,j,v,h=>by
  unfold nQ at h;split at h
  ·rename_i e;cases h;refine⟨0,rfl,rfl,by simp[e],jE,fun zl hl=>?_,by simp[nr,e]⟩;cases zl with
   |nil=>simp at hl
   |cons a zl=>exact⟨by simp[pG,e],fun x=>by simp[mY,e]⟩
  ·rename_i e;obtain⟨q,h1,h2,h3,h5,h4,h6⟩:=Bo h;refine⟨q+1,jB,by simpa using h2,by simpa using h3,by simpa using h5,fun zl hl=>?_,by unfold nr;rw[if_neg e,h6]⟩;cases zl with
   |nil=>simp at hl
   |cons a zl=> obtain⟨g1,g2⟩:=h4 zl (by simpa using hl);exact⟨by unfold pG;rw[if_neg e,g1];rfl,fun x=>by unfold mY;rw[if_neg e,g2];rfl⟩
theorem A2{n:α}:∀{ks:List α} {vs:TJ} {i:Nat},ks.length=vs.length->nQ n ks vs i=none->(∀zl:TB,zl.length=ks.length->pG n ks zl=none/\∀x,mY n x ks zl=zl++[x])/\nr n ks=ks++[n]
 |[],_,_,_,_=>⟨fun zl hl=>by
   have:zl=[]:=by simpa using hl
   subst this;exact⟨rfl,fun x=>rfl⟩,rfl⟩
 |_::_,[],_,h,_=>by simp at h
 |k::ks,v'::vs,i,hl,h=>by
  unfold nQ at h;split at h
  ·cases h
  ·rename_i e;obtain⟨g1,g2⟩:=A2 (by simpa using hl) h;refine⟨fun zl VV=>?_,by unfold nr;rw[if_neg e,g2];rfl⟩;cases zl with
   |nil=>simp at VV
   |cons a zl=> obtain⟨q1,q2⟩:=g1 zl (by simpa using VV);exact⟨by unfold pG;rw[if_neg e,q1],fun x=>by unfold mY;rw[if_neg e,q2];rfl⟩
theorem DK:∀(b:Nat) (ks vs:TJ) (k v:Value),ks.length=vs.length->iL b (ks++[k]) (vs++[v])=iL b ks vs++[⟨k,v,b+ks.length⟩]
 |b,[],[],k,v,_=>by simp[iL]
 |b,[],_::_,k,v,h=>by simp at h
 |b,_::_,[],k,v,h=>by simp at h
 |b,k'::ks,v'::vs,k,v,h=>by have:=DK (b+1) ks vs k v (by simpa using h);simp only[List.cons_append,iL,this,List.length_cons];rw[show b+1+ks.length=b+(ks.length+1) from jB]
theorem FE:∀(b:Nat) (ks vs:TJ) (j:Nat) (k v:Value),ks[j]?=some k->vs[j]?=some v->(iL b ks vs)[j]?=some ⟨k,v,b+j⟩
 |b,[],_,j,k,v,h,_=>by simp at h
 |b,_::_,[],j,k,v,_,h=>by simp at h
 |b,k'::ks,v'::vs,0,k,v,h1,h2=>by simp at h1 h2;subst h1 h2;rfl
 |b,k'::ks,v'::vs,j+1,k,v,h1,h2=>by have:=FE (b+1) ks vs j k v (by simpa using h1) (by simpa using h2);simp only[iL,List.getElem?_cons_succ,this];rw[show b+1+j=b+(j+1) from jB]
theorem En:∀(b:Nat) (ks vs:TJ) (j:Nat) (k v:Value),ks[j]?=some k->j<vs.length->iL b ks (vs.set j v)=(iL b ks vs).modify j fun e=>{ e with key:=k,val:=v }
 |b,[],_,j,k,v,h,_=>by simp at h
 |b,_::_,[],j,k,v,_,h=>by simp at h
 |b,k'::ks,v'::vs,0,k,v,h1,_=>by simp at h1;subst h1;simp[iL]
 |b,k'::ks,v'::vs,j+1,k,v,h1,h2=>by have:=En (b+1) ks vs j k v (by simpa using h1) (by simpa using h2);simp[iL,this]
def EQ{enc:α->Value}(K:j3 P kt enc)(w:World)(n:α)(ks:List α)(vs:TJ)(b:Nat):(Instr.findKey kt (enc n) (iL b (ks.map enc) vs)).run P w=.ok (nQ n ks vs 0) w:=by obtain⟨d,h1,h2⟩:=K.Ld;simp[Instr.findKey,run_underlying h1,Fj h2,Result.andThen]
end
section
variable {P:TL}{H:Hp}{α:Type}[DecidableEq α]
variable{i:Nat}{vs:TB}
def Dg{w:NW}(hw:aI w H){ks:TJ}{b t s:Nat}(hi:H.get i=some (.mp ks vs))(hn:w.nm i 0=some (.at b t s)) :
  s=0/\ks.length=vs.length/\∃cur:TI,w.heap[b]?=some (.map (iL 0 ks cur.toList).toArray ks.length)/\cur.size=vs.length/\∀(k:Nat) a v,vs[k]?=some a->cur[k]?=some v->aw w a v:=by
 obtain⟨hok,z,hz,Tp⟩:=hw.rows _ _ hi;have:z=.at b t s:=by have hz:w.nm i 0=some z:=hz;rw[hn]at hz;cases hz;rfl
 subst this;obtain⟨h1,cur,hh,T1,hr⟩:=Tp;exact⟨h1,hok,cur,hh,T1,hr⟩
variable{ty t:TG}{K:S8}{q:Prop}
def tC(i:Nat){ev:TH}(k:q)(hi:H.get i=none:=by first|rfl|exact du)(e:K (.mr i) (H.put i (.mp [] []))=q:=by exact fj):jy P (.makeMap t none) ty ev H K:=fun w ρ dst pos after guard hw hρ=>by
 obtain⟨q1,q2⟩:=vf (row:=.mp [] []) hw (hw.none hi _) (fun r' hr=>by rw[hi]at hr;cases hr) rfl #[] rfl (fun k a v ha hv=>by have ha:([]:TB)[k]?=some a:=ha;simp at ha)
 refine⟨_,_,.mr i,e ▸ k,q1,q2,.inl ⟨.map (some w.heap.size),?_,.mr _ _ _ _ (NW.cw _ _ _ _)⟩⟩;simp[execOp,Instr.makeMap,newObj,Result.andThen];rfl
variable{et:TG}{om ox:Operand}{op:Op}{enc:α->Value}
def Ji{ev:TH}{kt:TG}{ok:Operand}{ks:List α}{n:α}{x:AV}(Vr:op=.insert t om ok ox\/op=.mapUpdate t om ok ox)(hK:j3 P kt enc)(ht:P.underlying t=some (.map kt et))
  (hm:ev om=.mr i) (hk:ev ok=.raw (enc n)) (hx:ev ox=x) (hi:H.get i=some (.mp (ks.map enc) vs)) (k:q) (e:K .any (H.put i (.mp ((nr n ks).map enc) (mY n x ks vs)))=q):jy P op ty ev H K:=fun w ρ dst pos after guard hw hρ=>by
 have ho:om∈op.operands.toList/\ok∈op.operands.toList/\ox∈op.operands.toList:=by rcases Vr with rfl|rfl<;>simp[Op.operands]
 have h1:=hρ om ho.1;have h2:=hρ ok ho.2.1;have h3:=hρ ox ho.2.2;rw[hm]at h1;rw[hk]at h2;rw[hx]at h3;have e2:=db h2;cases e1:ρ om with
 |map r=>
  rw[e1]at h1;cases h1 with
  |mr _ b u s hn=>
  obtain⟨rfl,hl,cur,hh,Ti,hr⟩:=Dg hw hi hn;have hl:ks.length=vs.length:=by simpa using hl
  have Tc:ks.length=cur.toList.length:=by simp;omega
  have hb:b<w.heap.size:=hw.lt hn;have run:∀(vs':TJ) (ks':List α),ks'.length=vs'.length->(mY n x ks vs).length=vs'.length->nr n ks=ks'->
    (Instr.mapUpdate t (ρ om) (ρ ok) (ρ ox)).run P w.toWorld=.ok () { w.toWorld with heap:=w.heap.setIfInBounds b (.map (iL 0 (ks'.map enc) vs').toArray ks'.length) }->
    (∀(k:Nat) a v,(mY n x ks vs)[k]?=some a->vs'[k]?=some v->aw w a v)->∃(w':NW) (H':Hp) (r:AV),K r H'/\aI w' H'/\Ext w H w' H'/\((∃v,(execOp ρ ⟨dst,op,ty,pos,after,guard⟩).run P w.toWorld=.ok (.value v) w'.toWorld/\aw w' r v)\/((execOp ρ ⟨dst,op,ty,pos,after,guard⟩).run P w.toWorld=.ok .skip w'.toWorld/\r=.any)):=fun vs' ks' UL Tm WN B' Tz=>by
   obtain⟨g1,g2⟩:=Ij (W:={ w.toWorld with heap:=w.heap.setIfInBounds b (.map (iL 0 (ks'.map enc) vs').toArray ks'.length) }) (row:=.mp (ks.map enc) vs) (row':=.mp ((nr n ks).map enc) (mY n x ks vs)) hw hi hn rfl jl (by show((nr n ks).map enc).length=_;rw[List.length_map];exact Gh n x ks vs hl) rfl rfl rfl jE (fun c hc=>by
    show(w.heap.setIfInBounds b _)[c]?=_;rw[Array.getElem?_setIfInBounds,if_neg (fun h=>hc h.symm)]) vs'.toArray (by
    show(w.heap.setIfInBounds b _)[b]?=_;rw[Array.getElem?_setIfInBounds,if_pos rfl,if_pos hb,WN];simp[Row.obj]) (by show vs'.toArray.size=_;simp;omega) (fun k a v ha hv=>Tz k a v ha (by simpa using hv))
   refine⟨_,_,.any,e ▸ k,g1,g2,.inr ⟨?_,rfl⟩⟩;rcases Vr with rfl|rfl
   ·simp only[execOp,B'];simp[B',Result.andThen];rfl
   ·simp only[execOp,B'];simp[B',Result.andThen];rfl
  have Um:=EQ hK w.toWorld n ks cur.toList 0;cases hf:nQ n ks cur.toList 0 with
  |none=>
   obtain⟨f1,f2⟩:=A2 Tc hf;obtain⟨f3,f4⟩:=f1 vs jB;refine run (cur.toList++[ρ ox]) (ks++[n]) jF (by rw[f4];simp;omega) f2 ?_ ?_
   ·rw[e1,e2];have es:=DK 0 (ks.map enc) cur.toList (enc n) (ρ ox) (by simpa using Tc);rw[Nat.zero_add,List.length_map]at es;rw[List.map_append,List.map_singleton,es];simp[Instr.mapUpdate,run_underlying ht,MapKept.run_getObj_map hh,hK.xP,Um,hf,MapKept.run_setObj_map _ hh,Result.andThen]
   ·intro k a v ha hv;rw[f4]at ha;rcases Nat.lt_or_ge k vs.length with h|h
    ·rw[List.getElem?_append_left h]at ha;rw[List.getElem?_append_left jF]at hv;exact hr k a v ha (by simpa using hv)
    ·rw[List.getElem?_append_right h]at ha;rw[List.getElem?_append_right jF]at hv;have Tt:k-vs.length=0:=by
      have:=(List.getElem?_eq_some_iff.1 ha).1;simp at this;omega
     rw[Tt]at ha;rw[show k-cur.toList.length=0 by simp;omega]at hv;simp at ha hv;subst ha hv;exact h3
  |some jv=>
   obtain⟨j,v0⟩:=jv;obtain⟨k0,rfl,f2,f3,f5,f4,f6⟩:=Bo hf;rw[Nat.zero_add]at hf;obtain⟨f7,f8⟩:=f4 vs jB;refine run (cur.toList.set k0 (ρ ox)) ks jF (by rw[f8];simp;omega) f6 ?_ ?_
   ·rw[e1,e2];have XJ:(ks.map enc)[k0]?=some (enc n):=by simp[f3]
    have es:=En 0 (ks.map enc) cur.toList k0 (enc n) (ρ ox) XJ jB;have eg:=FE 0 (ks.map enc) cur.toList k0 (enc n) v0 XJ f2;rw[es];have Uo:∀g,(iL 0 (ks.map enc) cur.toList).toArray.modify k0 g=((iL 0 (ks.map enc) cur.toList).modify k0 g).toArray:=fun g=>jE
    simp[Instr.mapUpdate,run_underlying ht,MapKept.run_getObj_map hh,hK.xP,Um,hf,MapKept.run_setObj_map _ hh,Result.andThen,eg,Instr.keyThatStays,hK.bits]
   ·intro k a v ha hv;rw[f8,List.getElem?_set]at ha;rw[List.getElem?_set]at hv;by_cases Tv:k0=k
    ·rw[if_pos Tv]at ha hv;split at ha
     ·split at hv
      ·cases ha;cases hv;exact h3
      ·cases hv
     ·cases ha
    ·rw[if_neg Tv]at ha hv;exact hr k a v ha (by simpa using hv)
 |_=>rw[e1]at h1;cases h1
def ov(n:α)(ks:List α)(vs:TB)(z:AV)(ok:Bool):AV:=if ok=true then(match pG n ks vs with|some v=>.aP [v,.raw (.bool true)]|none=>.aP [z,.raw (.bool false)])else(pG n ks vs).getD z
def Hu{ev:TH}{kt:TG}{c:Bool}{ks:List α}{n:α}{z:Value}(hK:j3 P kt enc)(ht:P.underlying t=some (.map kt et))(hz:(P.info? et).bind (·.zero)=some z)
  (hm:ev om=.mr i) (hk:ev ox=.raw (enc n)) (hi:H.get i=some (.mp (ks.map enc) vs)) (k:q) (e:K (ov n ks vs (.raw z) c) H=q):jy P (.lookup t om ox c) ty ev H K:=fun w ρ dst pos after guard hw hρ=>by
 have h1:=hρ om (by simp[Op.operands]);have h2:=hρ ox (by simp[Op.operands]);rw[hm]at h1;rw[hk]at h2;have e2:=db h2;cases e1:ρ om with
 |map r=>
  rw[e1]at h1;cases h1 with
  |mr _ b u s hn=>
  obtain⟨rfl,hl,cur,hh,Ti,hr⟩:=Dg hw hi hn;have hl:ks.length=vs.length:=by simpa using hl
  have Tc:ks.length=cur.toList.length:=by simp;omega
  have Um:=EQ hK w.toWorld n ks cur.toList 0;have hzr:(zeroValue et).run P w.toWorld=.ok z w.toWorld:=by
   cases Wt:P.info? et with
   |none=>rw[Wt]at hz;cases hz
   |some ti=>rw[Wt]at hz;simp only[Option.bind_some]at hz;simp[zeroValue,typeInfo,Wt,hz]
  cases hf:nQ n ks cur.toList 0 with
  |none=>
   obtain⟨f1,f2⟩:=A2 Tc hf;obtain⟨f3,_⟩:=f1 vs jB;refine⟨w,H,_,e ▸ k,hw,Ext.refl w H,.inl ⟨if c=true then .tuple #[z,.bool false]else z,?_,?_⟩⟩
   ·simp only[execOp,e1,e2];cases c<;>simp[Instr.lookup,run_underlying ht,MapKept.run_getObj_map hh,hK.xP,Um,hf,hzr,Result.andThen]
   ·unfold ov;rw[f3];cases c
    ·exact .raw _
    ·exact .aP _ _ rfl fun i a v ha hv=>by
      match i with
      |0=>simp at ha hv;subst ha hv;exact .raw _
      |1=>simp at ha hv;subst ha hv;exact .raw _
      |i+2=>simp at ha
  |some jv=>
   obtain⟨j,v0⟩:=jv;obtain⟨k0,rfl,f2,f3,f5,f4,f6⟩:=Bo hf;obtain⟨f7,_⟩:=f4 vs jB;have Tt:k0<vs.length:=jB;have hv0:aw w vs[k0] v0:=hr k0 _ v0 (List.getElem?_eq_getElem Tt) (by simpa using f2);refine⟨w,H,_,e ▸ k,hw,Ext.refl w H,.inl ⟨if c=true then .tuple #[v0,.bool true]else v0,?_,?_⟩⟩
   ·simp only[execOp,e1,e2];cases c<;>simp[Instr.lookup,run_underlying ht,MapKept.run_getObj_map hh,hK.xP,Um,hf,Result.andThen]
   ·unfold ov;rw[f7,List.getElem?_eq_getElem Tt];cases c
    ·exact hv0
    ·exact .aP _ _ rfl fun i a v ha hv=>by
      match i with
      |0=>simp at ha hv;subst ha hv;exact hv0
      |1=>simp at ha hv;subst ha hv;exact .raw _
      |i+2=>simp at ha
 |_=>rw[e1]at h1;cases h1
def qc(P:TL)(t:TG):Option (Bool×TG):=match P.underlying t with
 |some (.map k e)=>match P.underlying k with
  |some .string=>some (true,e)
  |some (.int .i64)=>some (false,e)
  |_=>none
 |_=>none
def DQ{e:TG}(h:qc P t=some (true,e)):∃k,P.underlying t=some (.map k e)/\j3 P k Value.string:=by
 unfold qc at h;split at h
 ·rename_i k e' h1;split at h
  ·rename_i h2;cases h;exact⟨k,h1,N0 h2⟩
  ·cases h
  ·cases h
 ·cases h
def FI{e:TG}(h:qc P t=some (false,e)):∃k,P.underlying t=some (.map k e)/\j3 P k (Value.int .i64):=by
 unfold qc at h;split at h
 ·rename_i k e' h1;split at h
  ·cases h
  ·rename_i h2;cases h;exact⟨k,h1,O8 h2⟩
  ·cases h
 ·cases h
def lc{ev:TH}{ok:Operand}{n:Int}(ks:TD)(YJ:qc P t=some (false,et))(k:q)(Vr:op=.insert t om ok ox\/op=.mapUpdate t om ok ox:=by first|exact Or.inl rfl|exact Or.inr rfl)
  (hm:ev om=.mr i:=by rfl) (hk:ev ok=.raw (.int .i64 n):=by rfl) (hi:H.get i=some (.mp (ks.map (Value.int .i64)) vs):=by first|rfl|exact du) (e:K .any (H.put i (.mp ((nr n ks).map (Value.int .i64)) (mY n (ev ox) ks vs)))=q:=by exact fj):jy P op ty ev H K:=by
 obtain⟨kt,h1,h2⟩:=FI YJ;exact Ji Vr h2 h1 hm hk rfl hi k e
def vv{ev:TH}{ok:Operand}{n:TF}(ks:List TF)(YJ:qc P t=some (true,et))(k:q)(Vr:op=.insert t om ok ox\/op=.mapUpdate t om ok ox:=by first|exact Or.inl rfl|exact Or.inr rfl)
  (hm:ev om=.mr i:=by rfl) (hk:ev ok=.raw (.string n):=by rfl) (hi:H.get i=some (.mp (ks.map Value.string) vs):=by first|rfl|exact du) (e:K .any (H.put i (.mp ((nr n ks).map Value.string) (mY n (ev ox) ks vs)))=q:=by exact fj):jy P op ty ev H K:=by
 obtain⟨kt,h1,h2⟩:=DQ YJ;exact Ji Vr h2 h1 hm hk rfl hi k e
def xQ{ev:TH}{c:Bool}{n:Int}(ks:TD)(z:Value)(r:AV)(YJ:qc P t=some (false,et))(hz:(P.info? et).bind (·.zero)=some z)(hr:ov n ks vs (.raw z) c=r)(k:q)
  (hm:ev om=.mr i:=by rfl) (hk:ev ox=.raw (.int .i64 n):=by rfl) (hi:H.get i=some (.mp (ks.map (Value.int .i64)) vs):=by first|rfl|exact du) (e:K r H=q:=by exact fj):jy P (.lookup t om ox c) ty ev H K:=by
 obtain⟨kt,h1,h2⟩:=FI YJ;exact Hu h2 h1 hz hm hk hi k (hr ▸ e)
def pQ{ev:TH}{c:Bool}{n:TF}(ks:List TF)(z:Value)(r:AV)(YJ:qc P t=some (true,et))(hz:(P.info? et).bind (·.zero)=some z)(hr:ov n ks vs (.raw z) c=r)(k:q)
  (hm:ev om=.mr i:=by rfl) (hk:ev ox=.raw (.string n):=by rfl) (hi:H.get i=some (.mp (ks.map Value.string) vs):=by first|rfl|exact du) (e:K r H=q:=by exact fj):jy P (.lookup t om ox c) ty ev H K:=by
 obtain⟨kt,h1,h2⟩:=DQ YJ;exact Hu h2 h1 hz hm hk hi k (hr ▸ e)
@[go_sem] def j1z{ev:TH}(t:TG)(r:Option Operand):vc P ev H ty K (.makeMap t r)=jy P (.makeMap t r) ty ev H K:=by simp[vc,dn]
@[go_sem] def j4l{ev:TH}(t:TG)(m k x:Operand):vc P ev H ty K (.insert t m k x)=jy P (.insert t m k x) ty ev H K:=by simp[vc,dn]
@[go_sem] def j4n{ev:TH}(t:TG)(m k:Operand)(c:Bool):vc P ev H ty K (.lookup t m k c)=jy P (.lookup t m k c) ty ev H K:=by simp[vc,dn]
end
attribute [go_sem] mY nr
-- what is new, in regions that leave their order open
section
variable {P:TL}{A:AS}{ev:TH}{H:Hp}
variable{K:S8}
@[go_sem] def j6b(t:TG)(l c:Operand):tA P A ev H K (.makeSlice t l c)=jy P (.makeSlice t l c) 0 ev H (AP (fun r H'=>eo A H H'/\K r H') .mk):=(rfl)
variable{q:Prop}
def ve(i:Nat){t:TG}{sz:Nat}{css:S9}(k:q)(h0:0<sz:=by decide)(hi:H.get i=none:=by first|rfl|exact du)(e:K (.rs i css.length sz css.length) (H.put i (.aF t sz css))=q:=by exact fj):rT t sz css H K:=F4 i h0 hi (e ▸ k)
def S6(i:Nat){t et:TG}{sz n:Nat}{zs:TJ}{l c:Operand}{f:S8}{d:im fun r H'=>eo A H H'/\f r H'}(k:q)(hl:ev l=.raw (.int .i64 (n:Int)):=by rfl)(hc:ev c=.raw (.int .i64 (n:Int)):=by rfl)(ht:ij P t=some et:=by(simp only[go_sem];rfl))(hs:de P et=some sz:=by(simp only[go_sem];rfl))(hz:dM P et=some zs:=by(simp only[go_sem];rfl))(VC:zs.length=sz:=by rfl)(h0:0<sz:=by decide)(hr:room (ki P et) n:=by(simp only[go_sem];omega))(hi:H.get i=none:=by first|rfl|exact du)
  (e:f (.rs i n sz n) (H.put i (.aF et sz (List.replicate n (zs.map .raw))))=q:=by exact fj):jy P (.makeSlice t l c) 0 ev H (AP (fun r H'=>eo A H H'/\f r H') d):=
 KH (K:=AP (fun r H'=>eo A H H'/\f r H') d) (q:=eo A H (H.put i (.aF et sz (List.replicate n (zs.map .raw))))/\q) i ⟨eo.put hi,k⟩ hl hc ht hs hz VC h0 hr hi (by show(eo A H _/\f _ _)=_;rw[e])
variable{l0:TA}
def L0(h4:ot [] H l0)(h5:(ids l0).Nodup):eo A H ⟨H.B,gu H.l l0⟩:=fun i r _ hi=>by
 left
 show aA (gu H.l l0) i=some r;rw[ut _ _ _ (fun _ _ _=>trivial) h5];cases e:aA l0 i with
 |none=>exact hi
 |some x=>
  rcases yf h4 i x e with h|h
  ·simp at h
  ·rw[hi]at h;cases h
def cN{f:FuncId}{args:TB}{g:S8}{d:im fun r H'=>eo A H H'/\g r H'}{r0:AV}(hc:ab P f args [] fun r l'=>r=r0/\l'=l0)(k:q)(h0:aT P f=true:=by exact du)(h2:aW dU args=true:=by exact du)
 (h4:ot [] H l0:=by exact du) (h5:(ids l0).Nodup:=by exact du) (e:g r0 ⟨H.B,gu H.l l0⟩=q:=by exact fj):ff P (.raw (.func (.func f) #[] #[])) args H (AP (fun r H'=>eo A H H'/\g r H') d):=
 nG h0 (v7 (K:=AP (fun r H'=>eo A H H'/\g r H') d) hc trivial (by simpa[ids]using h2) trivial h4 h5 ⟨L0 h4 h5,e ▸ k⟩)
end
attribute [go_sem] pN
variable{cs:TB}
def NY{w:NW}{H:Hp}(r:aI w H){D:TK}{j:Nat}{ds:TB}(hj:H.get j=some (.var t cs))(hD:D j=false)(hv:bt D H cs ds)(hB:H.B.all (gU D)=true)(hl:iH D (pN H.l j)) :
  aI (w.cR D) ⟨H.B,bg (fz D H.l) j (.var t ds)⟩/\fM w H (w.cR D) ⟨H.B,bg (fz D H.l) j (.var t ds)⟩:=by
 have T9:∀k n,(w.cR D).nm k n=if D k=true then none else w.nm k n:=fun _ _=>rfl
 have gE:∀k,(Hp.mk H.B (bg (fz D H.l) j (.var t ds))).get k=if k=j then some (.var t ds)else if D k=true then none else H.get k:=fun k=>by show aA _ _=_;rw[bF,BR];rfl
 obtain⟨I',Ua⟩:=hv.get;refine⟨{ rows:=fun k s hk=>?_,cU:=fun k n z hz=>?_,inj:=fun k n k' n' b t s t' s' h1 h2=>?_,own:=fun k n b t s h=>?_,fin:=fun b hb=>r.fin b hb.1,bO:=r.bO.aU (pr w D) },{ pr w D with names:=fun k n z hq h=>?_,os:=rfl,tape:=rfl,output:=rfl,rest:=fun b hb hO hn=>⟨rfl,⟨hO,fun k n t s _=>hn k n t s⟩,fun k n t s h=>?_⟩,base:=rfl }⟩
 ·rw[gE]at hk;by_cases e:k=j
  ·subst e;rw[if_pos rfl]at hk;cases hk;obtain⟨h1,z,h2,h3⟩:=r.rows k _ hj;refine⟨trivial,z,by rw[T9,if_neg (by rw[hD];decide)];exact h2,?_⟩;cases z with
   |nil=>obtain⟨e,sz,h⟩:=h3;cases h
   |«at» b T st=>
    obtain⟨g1,cur,g2,g3,g5⟩:=h3;refine⟨g1,cur,g2,⟨g3.1,by show ds.length<=T;rw[<-I'];exact g3.2⟩,fun i d v hd TO=>?_⟩;have hi:i<cs.length:=by rw[I'];exact(List.getElem?_eq_some_iff.1 hd).1
    have hc:cs[i]?=some cs[i]:=List.getElem?_eq_getElem hi;exact(Ua i _ d hc hd).sound r (g5 i _ v hc TO)
  ·rw[if_neg e]at hk;split at hk
   ·cases hk
   ·rename_i e2;obtain⟨h1,z,h2,h3⟩:=r.rows k s hk;refine⟨h1,z,by rw[T9,if_neg e2];exact h2,?_⟩;cases z with
    |nil=>exact h3
    |«at» b T st=>
     obtain⟨g1,cur,g2,g3,g5⟩:=h3;have Tv:aA (pN H.l j) k=some s:=by rw[AQ,if_neg e];exact hk
     exact⟨g1,cur,g2,g3,fun i a v ha hv=>(g5 i a v ha hv).aU (pr w D) (k8 (AA hl Tv (by simpa using e2)) ha)⟩
 ·rw[T9]at hz;split at hz
  ·cases hz
  ·rename_i e;obtain⟨s,h1,h2⟩:=r.cU k n z hz;by_cases e2:k=j
   ·subst e2;rw[hj]at h1;cases h1;exact⟨.var t ds,by rw[gE,if_pos rfl],h2⟩
   ·exact⟨s,by rw[gE,if_neg e2,if_neg e];exact h1,h2⟩
 ·rw[T9]at h1 h2;split at h1
  ·cases h1
  split at h2
  ·cases h2
  exact r.inj _ _ _ _ _ _ _ _ _ h1 h2
 ·rw[T9]at h;split at h
  ·cases h
  rename_i e;refine⟨r.own _ _ _ _ _ h,fun i m t' s' hd h'=>?_⟩;have:=r.inj _ _ _ _ _ _ _ _ _ h h';subst this;exact e hd
 ·rw[T9];have:=List.all_eq_true.1 hB k (List.contains_iff_mem.1 hq);unfold gU at this;rw[if_neg (by intro e;rw[e]at this;cases this)];exact h
 ·rw[T9]at h;split at h
  ·cases h
  ·exact hn k n t s h
variable{F:TB}
def dO.wC{F':TB}{H:Hp}(D:TK)(j:Nat)(ds:TB)(hj:H.get j=some (.var t cs))(hD:D j=false)(hc:bt D H cs ds)(hB:H.B.all (gU D)=true)(hl:iH D (pN H.l j))(hv:bt D H F F'):dO F H F' ⟨H.B,bg (fz D H.l) j (.var t ds)⟩:=fun w tm h1 h2=>by
 obtain⟨a,b⟩:=NY h1 hj hD hc hB hl;obtain⟨UL,hg⟩:=hv.get;refine⟨w.cR D,rfl,a,⟨by rw[<-UL];exact h2.1,fun i c v hc hv=>?_⟩,b⟩;have hi:i<F.length:=by rw[UL];exact(List.getElem?_eq_some_iff.1 hc).1
 exact(hg i F[i] c (List.getElem?_eq_getElem hi) hc).sound h1 (h2.2 i _ v (List.getElem?_eq_getElem hi) hv)
variable{Q:Exit->S7}
def Qs{P:TL}{id:Nat}{l:List Oper}{b:Bool}{H:Hp}(L:TE)(j:Nat)(ds:TB)(W:List (Nat×Nat))(J:List (Nat×AV))(h:q)(h0:(L.any fun i=>(H.get i).isSome)=true:=by rfl)(hj:H.get j=some (.var t cs):=by rfl)(hD:(L.contains j)=false:=by rfl)(hc:bt (fun i=>L.contains i) H cs ds:=by exact jh)(hB:H.B.all (gU fun i=>L.contains i)=true:=by exact du)(hl:iH (fun i=>L.contains i) (pN H.l j):=by exact du)
 (hv:bt (fun i=>L.contains i) H F (mB J (ng W F)):=by exact jh) (e:dx P (.region id l.toArray b) Q (mB J (ng W F)) ⟨H.B,bg (fz (fun i=>L.contains i) H.l) j (.var t ds)⟩=q:=by exact fj):dx P (.region id l.toArray b) Q F H:=jq (dO.wC _ j ds hj hD hc hB hl hv) (e ▸ h)
-- calls under guards, that change things
def DA(D:TE):Option Tmp->Bool
 |some t=>D.contains t
 |none=>false
def Hq(P:TL)(ev:TH)(H:Hp)(K:S8):Op->Prop
 |.call { callee:=.value f,args,.. }=>ff P (ev f) (args.toList.map ev) H K
 |_=>False
def jW(D:TE)(P:TL)(ops:Array Oper)(K:S7):List Oper->S7
 |[],F,H=>K F H
 |o::rest,F,H=>match o.guard with
  |none=>vc P (cr F) H o.type (fun r H'=>jW D P ops K rest (cL F o.dst r) H') o.op
  |some (j,want)=>match lT ops F j want with
   |some b=>if(DA D o.dst && iU o.op)=true then(b=true->gl F o.op=true/\Hq P (bL F) H (fun r H'=>jW D P ops K rest (cL F o.dst r) H') o.op)/\(b=false->jW D P ops K rest (cL F o.dst (.gd false (.raw (.bool false)))) H)
    else if iU o.op || iJ o.op then eQ P F H b (fun r=>jW D P ops K rest (cL F o.dst r) H) o.op
    else(b=true->vc P (cr F) H o.type (fun r H'=>jW D P ops K rest (cL F o.dst r) H') o.op)/\(b=false->jW D P ops K rest (cL F o.dst .any) H)
   |none=>False
section
variable {P:TL}{ops:Array Oper}
theorem xy{D:TE}{K:S7}:∀(l:List Oper) (F:TB) (H:Hp),jW D P ops K l F H->vS P ops K l F H
 |[],F,H,h=>Dz h
 |o::rest,F,H,h=>by
  refine Ht ?_;simp only[jW]at h;split at h
  ·rename_i hg;exact(qj (K:=fun F' H'=>jW D P ops K rest F' H') hg h).mono fun F' H' hk=>xy rest F' H' hk
  ·rename_i j want hg;split at h
   ·rename_i b hb;split at h
    ·rename_i hd;refine mJ.mono (K:=fun F' H'=>jW D P ops K rest F' H') ?_ fun F' H' hk=>xy rest F' H' hk
     obtain⟨dst,op,ty,pos,after,guard⟩:=o;have hc:iU op=true:=by simp only[Bool.and_eq_true]at hd;exact hd.2
     cases op<;>first|(cases hc;done)|skip
     rename_i c;obtain⟨callee,args,ts⟩:=c;cases callee<;>first|(cases hc;done)|skip
     rename_i f;refine oX hg hb (fun T0 w tm Q next h1 h2 hn=>?_) (fun T0=>⟨.gd false (.raw (.bool false)),pU rfl,h.2 T0⟩);obtain⟨ok,TY⟩:=h.1 T0;have VT:=qo ok;have e1:kG F f=bL F f:=VT f (by simp[Op.operands,Call.operands]);have e2:args.toList.map (kG F)=args.toList.map (bL F):=List.map_congr_left fun x hx=>VT x (by simp[Op.operands,Call.operands]at hx ⊢;exact .inr hx)
     refine xB (ev:=kG F) e1 e2 TY h1 (rP h2) fun v r' w' H' hR g1 g2 g3=>?_
     rw[Act.put_eq];exact hn _ w' _ H' hR g1 ((h2.ext g3).put dst g2 []) g3
    split at h
    ·refine mJ.mono (K:=fun F' H'=>jW D P ops K rest F' H') ?_ fun F' H' hk=>xy rest F' H' hk
     obtain⟨dst,op,ty,pos,after,guard⟩:=o;unfold eQ at h;split at h
     ·rename_i f args argTypes V';cases V';obtain⟨r,hc,hk⟩:=h;refine oX hg hb (fun T0 w tm Q next h1 h2 hn=>?_) (fun T0=>⟨_,pU T0,hk⟩);obtain⟨ok,TY⟩:=hc T0;have VT:=qo ok;have e1:kG F f=bL F f:=VT f (by simp[Op.operands,Call.operands]);have e2:args.toList.map (kG F)=args.toList.map (bL F):=List.map_congr_left fun x hx=>VT x (by simp[Op.operands,Call.operands]at hx ⊢;exact .inr hx)
      refine xB (ev:=kG F) e1 e2 TY h1 (rP h2) fun v r' w' H' hR g1 g2 g3=>?_
      obtain⟨rfl,rfl⟩:=hR;rw[Act.put_eq];exact hn _ w' _ H' hk g1 ((h2.ext g3).put dst (sP T0 g2) []) g3
     ·rename_i f m args argTypes V';cases V';obtain⟨r,hc,hk⟩:=h;refine oX hg hb (fun T0 w tm Q next h1 h2 hn=>?_) (fun T0=>⟨_,pU T0,hk⟩);obtain⟨ok,TY⟩:=hc T0;have VT:=qo ok;have e1:kG F f=bL F f:=VT f (by simp[Op.operands,Call.operands]);have e2:args.toList.map (kG F)=args.toList.map (bL F):=List.map_congr_left fun x hx=>VT x (by simp[Op.operands,Call.operands]at hx ⊢;exact .inr hx)
      refine Bk (ev:=kG F) e1 e2 TY h1 (rP h2) fun v r' w' H' hR g1 g2 g3=>?_
      obtain⟨rfl,rfl⟩:=hR;rw[Act.put_eq];exact hn _ w' _ H' hk g1 ((h2.ext g3).put dst (sP T0 g2) []) g3
     ·rename_i c x y V';simp only at V';subst V';obtain⟨hs,hk⟩:=h;refine oX hg hb (fun T0 w tm Q next h1 h2 hn=>?_) (fun T0=>⟨_,pU T0,hk⟩);obtain⟨ok,hq⟩:=hs T0;obtain⟨v,B',hv⟩:=Fk (P:=P) (ρ:=(Act.mk tm []).eval) (dst:=dst) (ty:=ty) (pos:=pos) (after:=after) (guard:=guard) (Cn h2 c ok) (h2.eval [] x) (h2.eval [] y) hq;simp only[Oper.wp,B',Oper.upon];rw[Act.put_eq];exact hn _ w _ H hk h1 (h2.put dst (sP T0 hv) []) (Ext.refl w H)
     ·split at h
      ·obtain⟨hs,hk⟩:=h;refine oX hg hb (fun T0 w tm Q next h1 h2 hn=>?_) (fun T0=>⟨_,pU T0,hk⟩);obtain⟨ok,hq⟩:=hs T0;rw[<-uv _ (qo ok)]at hq;obtain⟨v,B',hv⟩:=zv (ρ:=(Act.mk tm []).eval) ⟨dst,op,ty,pos,after,guard⟩ h1 (rP h2) hq;simp only[Oper.wp,B',Oper.upon];rw[Act.put_eq];rw[uv _ (qo ok)]at hv;exact hn _ w _ H hk h1 (h2.put dst (sP T0 hv) []) (Ext.refl w H)
      ·exact h.elim
    ·refine mJ.mono (K:=fun F' H'=>jW D P ops K rest F' H') ?_ fun F' H' hk=>xy rest F' H' hk
     refine oX hg hb (fun T0 w tm Q next h1 h2 hn=>?_) (fun T0=>⟨_,fun w=>.any _,h.2 T0⟩);exact BX (h.1 T0) h1 h2 (fun x=>h2.eval [] x) hn
   ·exact h.elim
end
section
variable {D:TE}{P:TL}{ops:Array Oper}{K:S7}
@[go_sem] def j6l(F:TB)(H:Hp):jW D P ops K [] F H=K F H:=(rfl)
@[go_sem] def j4p(dst:Option Tmp)(op:Op)(ty:TG)(pos:String)(after:Array Edge)(rest:List Oper)(F:TB)(H:Hp) :
  jW D P ops K (⟨dst,op,ty,pos,after,none⟩::rest) F H=vc P (cr F) H ty (AP (fun r H'=>jW D P ops K rest (cL F dst r) H') .mk) op:=(rfl)
def CQ(P:TL)(F:TB)(H:Hp)(K:S8):Op->Prop
 |.call { callee:=.value f,args,.. }=>((jo (cr F f)).1=true/\qe F args.toList)/\ff P (bL F f) (args.toList.map (bL F)) H K
 |_=>False
@[go_sem] def j4i{F:TB}{H:Hp}{K:S8}(f:Operand)(zl:Array Operand)(ts:Array TG):CQ P F H K (.call ⟨.value f,zl,ts⟩)=(((jo (cr F f)).1=true/\qe F zl.toList)/\ff P (bL F f) (zl.toList.map (bL F)) H K):=(rfl)
def LD{F:TB}{H:Hp}{K:S8}{op:Op}(h:iU op=true):(gl F op=true/\Hq P (bL F) H K op)=CQ P F H K op:=by
 cases op<;>first|(cases h;done)|skip
 rename_i c;obtain⟨callee,args,ts⟩:=c;cases callee<;>first|(cases h;done)|skip
 rename_i f;rw[ET];rfl
@[go_sem] def j1E(t:Nat)(op:Op)(ty:TG)(pos:String)(after:Array Edge)(j:Nat)(want:Bool)(rest:List Oper)(F:TB)(H:Hp) :
  jW D P ops K (⟨some t,op,ty,pos,after,some (j,want)⟩::rest) F H=qO (lT ops F j want) (fun b=>o9 (D.contains t && iU op)
   (rq b (CQ P F H (AP (fun r H'=>jW D P ops K rest (cL F (some t) r) H') .mk) op) (jW D P ops K rest (cL F (some t) (.gd false (.raw (.bool false)))) H) .mk .mk)
   (o9 (iU op || iJ op) (eQ P F H b (vj (fun r=>jW D P ops K rest (cL F (some t) r) H) .mk) op)
    ((b=true->vc P (cr F) H ty (AP (fun r H'=>jW D P ops K rest (cL F (some t) r) H') .mk) op)/\(b=false->jW D P ops K rest (cL F (some t) .any) H)) .mk .mk) .mk .mk) .mk:=by
 conv=>lhs;unfold jW
 simp only;unfold qO o9 rq DA;cases lT ops F j want with
 |none=>rfl
 |some b=>
  simp only;by_cases hc:(D.contains t && iU op)=true
  ·rw[if_pos hc,if_pos hc];have hv:iU op=true:=by simp only[Bool.and_eq_true]at hc;exact hc.2
   rw[<-LD hv];rfl
  ·rw[if_neg hc,if_neg hc];rfl
end
def sS{P:TL}{id:Nat}{l:List Oper}{H:Hp}(D:TE)(h:q)(e:jW D P l.toArray (Q .normal) l F H=q:=by exact fj):dx P (.region id l.toArray false) Q F H:=
 Eg (by simpa using xy l F H (e ▸ h))
def bU{b:Bool}{X Y X' Y' pt pf:Prop}{d:im X}{d':im Y}(ht:pt->X')(hf:pf->Y')
 (et:(b=true)=pt:=by first|(simp only[Int.reduceEq,Int.reduceLE,Int.reduceLT,Int.reduceNe,false_and,and_false,true_and,and_true,or_false,false_or,true_or,or_true,Bool.false_eq_true,Bool.true_eq_false,eq_self,reduceCtorEq,Bool.not_true,Bool.not_false,Bool.and_eq_true,Bool.or_eq_true,Bool.and_eq_false_iff,Bool.or_eq_false_iff,decide_eq_true_eq,decide_eq_false_iff_not,Bool.not_eq_true',Bool.not_eq_false',Int.not_lt,Int.not_le];rfl)|rfl) (ef:(b=false)=pf:=by first|(simp only[Int.reduceEq,Int.reduceLE,Int.reduceLT,Int.reduceNe,false_and,and_false,true_and,and_true,or_false,false_or,true_or,or_true,Bool.false_eq_true,Bool.true_eq_false,eq_self,reduceCtorEq,Bool.not_true,Bool.not_false,Bool.and_eq_true,Bool.or_eq_true,Bool.and_eq_false_iff,Bool.or_eq_false_iff,decide_eq_true_eq,decide_eq_false_iff_not,Bool.not_eq_true',Bool.not_eq_false',Int.not_lt,Int.not_le];rfl)|rfl) (eX:X=X':=by exact fj) (eY:Y=Y':=by exact fj):rq b X Y d d':=⟨fun h=>eX ▸ ht (et ▸ h),fun h=>eY ▸ hf (ef ▸ h)⟩
def Ak(A:AS)(l0:TA):List TN->Prop
 |[]=>True
 |(i,r)::l=>(A.1.contains i=true\/aA l0 i=some r)/\Ak A l0 l
theorem EX{A:AS}{l0:TA}:∀{l:TA},Ak A l0 l->∀{i:Nat},(ids l).contains i=true->A.1.contains i=true\/∃r,aA l i=some r/\aA l0 i=some r
 |[],_,i,h=>by simp[ids]at h
 |(j,r)::l,hk,i,h=>by
  by_cases e:i=j
  ·subst e;rcases hk.1 with g|g
   ·exact .inl g
   ·exact .inr ⟨r,by simp[aA],g⟩
  ·have h:(ids l).contains i=true:=by
    simp only[ids,List.map_cons,List.contains_cons,Bool.or_eq_true,beq_iff_eq]at h;rcases h with h|h
    ·exact(e h).elim
    ·exact h
   rcases EX hk.2 h with g|⟨s,g1,g2⟩
   ·exact .inl g
   ·exact .inr ⟨s,by simp only[aA,if_neg e];exact g1,g2⟩
def Fg{P:TL}{A:AS}{H:Hp}{f:FuncId}{args:TB}{g:S8}{d:im fun r H'=>eo A H H'/\g r H'}{l0:TA}{r0:AV}(hc:ab P f args l fun r l'=>r=r0/\l'=l0)(k:q)(hA:Ak A l0 l:=by(repeat' (first|exact jI|exact Or.inl rfl|exact Or.inr rfl|refine jA ?_ ?_)))(h1:qx l H:=by exact du)(h0:aT P f=true:=by exact du)(h2:aW (fun i=>(ids l).contains i) args=true:=by exact du)(h3:qX (fun i=>(ids l).contains i) l:=by exact du)
 (h4:ot (ids l) H l0:=by exact du) (h5:(ids l0).Nodup:=by exact du) (e:g r0 ⟨H.B,gu H.l l0⟩=q:=by exact fj):ff P (.raw (.func (.func f) #[] #[])) args H (AP (fun r H'=>eo A H H'/\g r H') d):=
 have hx:eo A H ⟨H.B,gu H.l l0⟩:=fun i r hi hr=>by
  left
  show aA (gu H.l l0) i=some r;rw[ut _ _ _ (fun _ _ _=>trivial) h5];cases e':aA l0 i with|none=>exact hr|some x=>
   rcases yf h4 i x e' with h|h
   ·rcases EX hA h with g|⟨s,g1,g2⟩
    ·rw[g]at hi;cases hi
    ·rw[g2]at e';cases e';rw[Cp h1 i _ g1]at hr;cases hr;rfl
   ·rw[hr]at h;cases h
 nG h0 (v7 (K:=AP (fun r H'=>eo A H H'/\g r H') d) hc h1 h2 h3 h4 h5 ⟨hx,e ▸ k⟩)
variable {P:TL}{H:Hp}
def Nj{e:TG}{d:Nat}{x:AV}{c:Prop}{css ys:S9}(k:q)(hd:H.get d=some (.aF e sz css):=by(simp(disch:=first|omega|assumption|fail) only[go_sem,sr,↓reduceIte,Int.reduceEq,Int.reduceLE,Int.reduceLT,Int.reduceNe,Int.reduceToNat,Nat.reduceMul,Nat.reduceAdd,Nat.reduceLeDiff,Nat.reduceSub,Nat.reduceEqDiff,Nat.reduceBEq,List.nodup_cons,List.nodup_nil,List.mem_cons,List.not_mem_nil,List.mem_nil_iff];first|rfl|exact⟨rfl,rfl⟩|exact⟨rfl,rfl,rfl⟩))(ht:ij P t=some e:=by first|(simp only[go_sem];done)|(simp only[go_sem];rfl))(UW:de P e=some sz:=by(simp only[go_sem];done))(WI:dM P e=some zs:=by first|(simp only[go_sem];done)|(simp only[go_sem];rfl))(VC:zs.length=sz:=by rfl)(h0:0<sz:=by decide)(hn:css.length=n:=by first|rfl|exact List.length_replicate|exact du)(VH:tE H x=some (c,ys):=by rfl)(hc:c:=by trivial)(hg:Good sz ys:=by exact du)(Xl:ys.length<=n:=by first|assumption|(simp only[List.length_map];omega)|exact du)
  (he:K (.raw (.int .i64 (ys.length:Nat))) (H.put d (.aF e sz (dr css 0 ys)))=q:=by exact fj):pI P .copy [t,t] [.rs d n sz n,x] H K:=by
 subst hn;have hk:=he ▸ k;intro w vs ty cs hw hr;obtain⟨vd,vx,rfl⟩:∃vd vx,vs=[vd,vx]:=by
  have:=hr.1;match vs,this with
  |[vd,vx],_=>exact⟨vd,vx,rfl⟩
 have hu:=sF ht;obtain⟨i,z,hi,TS,Vv,W4,Xg⟩:=tG UW WI VC;obtain⟨A',cx,news,rfl,TU,Us⟩:=zA hw (hr.2 1 _ vx rfl rfl) VH hc hg;have Vo:aw w (.rs d css.length sz css.length) vd:=hr.2 0 _ vd rfl rfl;have Ux:ys.flatten.length=ys.length*sz:=gh fun y hy=>(hg y hy).1
 have Vb:news.length=ys.length*sz:=by rw[<-TU.1,Ux]
 have UZ:cI ys.flatten=true:=by simp only[cI,List.all_eq_true];intro u WJ;obtain⟨y,hy,XG⟩:=List.mem_flatten.1 WJ;have:=(hg y hy).2;simp only[cI,List.all_eq_true]at this;exact this u XG
 have hf:(Builtin.firstCells i.size ys.length (.slice A' ys.length cx)).run P w.toWorld=.ok news.toArray w.toWorld:=by
  by_cases h0:ys.length=0
  ·have:news=[]:=by have:=Vb;rw[h0,Nat.zero_mul]at this;simpa using this
   subst this;rw[h0];cases A'<;>simp[Builtin.firstCells,loadCells,loadCellsFrom]
  ·obtain⟨ad,rfl,D'⟩:=Us jB;exact run_firstCells_some (P:=P) w.toWorld i.size ys.length ad ys.length cx news (by rw[TS];exact Vb) D'
 rw[TS]at hf;have hok:=(hw.rows d _ hd).1;have Tx:∀cs∈dr css 0 ys,cs.length=sz:=fun cs h=>by
  unfold dr at h;rcases List.mem_append.1 h with h|h
  ·rcases List.mem_append.1 h with h|h
   ·exact hok.2 _ (List.mem_of_mem_take h)
   ·exact(hg cs h).1
  ·exact hok.2 _ (List.mem_of_mem_drop h)
 have Vg:=gh hok.2;have Tm:=ur (css:=css) ys (Nat.zero_le _);have hmn:Nat.min ys.length css.length=ys.length:=Nat.min_eq_left Xl;generalize hN:css.length=N at Vo;cases Vo with
 |iA _ _ _ A Th=>
  have Xm:ys=[]:=List.length_eq_zero_iff.1 jB;subst Xm;refine⟨w,_,_,.int .i64 0,?_,hk,?_,.raw _,?_⟩
  ·have XK:news=[]:=by simpa using Vb
   subst XK;have hN':Nat.min ([]:S9).length 0=0:=rfl;have hf:(Builtin.firstCells sz 0 (.slice A' 0 cx)).run P w.toWorld=.ok #[] w.toWorld:=hf;cases A<;>simp[builtin,Builtin.copy_,run_underlying hu,Builtin.lenOf,sizeOf,typeInfo,hi,TS,hf,storeCells,goInt]
  ·refine{ hw with rows:=fun j r hj=>?_,cU:=fun j q z hz=>?_ }
   ·rw[Hp.bj]at hj;split at hj
    ·rename_i e;subst e;exact hw.rows j r (by rw[hd];exact hj)
    ·exact hw.rows j r hj
   ·rw[Hp.bj];split
    ·rename_i e;subst e;obtain⟨r,g1,g2⟩:=hw.cU j q z hz;rw[hd]at g1;cases g1;exact⟨_,rfl,g2⟩
    ·exact hw.cU j q z hz
  ·exact{ Ext.refl w H with base:=rfl }
 |rs _ _ _ _ b t' cap Th UK Ts Uz=>
  subst hN;obtain⟨_,z',T2,Tp⟩:=hw.rows d _ hd;have:z'=.at b t' sz:=by have T2:w.nm d css.length=some z':=T2;rw[Th]at T2;cases T2;rfl
  subst this;obtain⟨_,cur,hh,⟨Ug,Tc⟩,Vh⟩:=Tp;have Tc:css.flatten.length<=t':=Tc;have Wb:css.length<=cap:=by rw[Vg,<-UK]at Tc;exact Nat.le_of_mul_le_mul_right Tc h0
  have UP:0+ys.flatten.length<=t':=by rw[Ux,Nat.zero_add,<-UK];exact Nat.mul_le_mul_right _ (Nat.le_trans Xl Wb)
  obtain⟨w',B',g1,g2,g3⟩:=tg (P:=P) (off:=0) (r':=.aF e sz (dr css 0 ys)) hw hd Th TU UZ UP rfl rfl rfl rfl (by show css.length<=(dr css 0 ys).length;rw[Tm];omega) ⟨h0,Tx⟩ (by show(dr css 0 ys).flatten.length<=t';rw[gh Tx,Tm,<-UK];exact Nat.mul_le_mul_right _ (Nat.max_le.2 ⟨Wb,jB⟩)) (fun p u hp=>by
   have hp:(dr css 0 ys).flatten[p]?=some u:=hp;unfold dr at hp;rw[List.flatten_append,List.flatten_append]at hp;show if _ then _ else css.flatten[p]?=some u
   simp only[List.take_zero,List.flatten_nil,List.nil_append,Nat.zero_add]at hp;rcases Nat.lt_or_ge p (0+ys.flatten.length)with h'|h'
   ·rw[if_pos ⟨Nat.zero_le _,h'⟩];rw[List.getElem?_append_left jB]at hp;exact hp
   ·rw[jN];rw[List.getElem?_append_right jB]at hp;have e2:css.flatten=(css.take ys.length).flatten++(css.drop ys.length).flatten:=by rw[<-List.flatten_append,List.take_append_drop]
    have e3:(css.take ys.length).flatten.length=ys.flatten.length:=by rw[gh fun c hc=>hok.2 c (List.mem_of_mem_take hc),List.length_take,Nat.min_eq_left Xl,Ux]
    rw[e2,List.getElem?_append_right jB,e3];exact hp)
  refine⟨w',_,_,.int .i64 ys.length,?_,hk,g1,.raw _,g2⟩;simp[builtin,Builtin.copy_,run_underlying hu,Builtin.lenOf,sizeOf,typeInfo,hi,TS,hmn,hf,B',goInt]
mutual
def AV.bT(f:Nat->Nat):AV->AV
 |.raw v=>.raw v
 |.any=>.any
 |.agg cs=>.agg (fc f cs)
 |.aP cs=>.aP (fc f cs)
 |.sl x sz css d=>.sl x sz css d
 |.ip cs=>.ip cs
 |.gd p v=>.gd p (v.bT f)
 |.dP g cs=>.dP g (fc f cs)
 |.pt i m k j=>.pt (f i) m k j
 |.rs i m sz n=>.rs (f i) m sz n
 |.rc i m sz n=>.rc (f i) m sz n
 |.rv i m sz o n=>.rv (f i) m sz o n
 |.mr i=>.mr (f i)
 |.bd g fs=>.bd g (fc f fs)
 |.iG t v=>.iG t (v.bT f)
 |.mv m v=>.mv m (v.bT f)
def fc(f:Nat->Nat):TB->TB
 |[]=>[]
 |a::l=>a.bT f::fc f l
end
theorem o3(f:Nat->Nat):∀(l:TB) (i:Nat),(fc f l)[i]?=(l[i]?).map (AV.bT f)
 |[],i=>by simp[fc]
 |a::l,0=>by simp[fc]
 |a::l,i+1=>by simp only[fc,List.getElem?_cons_succ];exact o3 f l i
theorem mg(f:Nat->Nat):∀l:TB,(fc f l).length=l.length
 |[]=>rfl
 |a::l=>by simp only[fc,List.length_cons,mg f l]
theorem Gl(f:Nat->Nat):∀l m:TB,fc f (l++m)=fc f l++fc f m
 |[],m=>rfl
 |a::l,m=>by simp only[List.cons_append,fc,Gl f l m]
def Row.bT(f:Nat->Nat):Row->Row
 |.var t cs=>.var t (fc f cs)
 |.aF e sz css=>.aF e sz (css.map (fc f))
 |.mp ks vs=>.mp ks (fc f vs)
def Row.ji(f:Nat->Nat)(r:Row):(r.bT f).fB=r.fB:=by cases r<;>simp[Row.bT,Row.fB]
def Row.jR(f:Nat->Nat)(r:Row):(r.bT f).bB=r.bB:=by cases r<;>rfl
def Row.gK(f:Nat->Nat)(r:Row):(r.bT f).cells=fc f r.cells:=by
 cases r with
 |var t cs=>rfl
 |aF e sz css=>
  show(css.map (fc f)).flatten=fc f css.flatten;induction css with
  |nil=>rfl
  |cons c css ih=>simp only[List.map_cons,List.flatten_cons,ih,Gl]
 |mp ks vs=>rfl
def Row.nC(f:Nat->Nat)(r:Row)(cur:TI):(r.bT f).obj cur=r.obj cur:=by cases r<;>rfl
def Row.nR(f:Nat->Nat)(r:Row)(n t:Nat):(r.bT f).fit n t=r.fit n t:=by
 have h:=r.gK f;cases r with
 |var ty cs=> show(n=t/\(Row.var ty (fc f cs)).cells.length<=t)=_;have h:(Row.var ty (fc f cs)).cells=fc f (Row.var ty cs).cells:=h;rw[h,mg];rfl
 |aF e sz css=> show(n=t/\(Row.aF e sz (css.map (fc f))).cells.length<=t)=_;have h:(Row.aF e sz (css.map (fc f))).cells=fc f (Row.aF e sz css).cells:=h;rw[h,mg];rfl
 |mp ks vs=>show(n=(fc f vs).length)=_;rw[mg];rfl
variable{f:Nat->Nat}{r:Row}
def Row.uk(h:r.ok):(r.bT f).ok:=by
 cases r with
 |var t cs=>trivial
 |aF e sz css=> refine⟨h.1,fun cs Ug=>?_⟩;obtain⟨c,hc,rfl⟩:=List.mem_map.1 Ug;rw[mg];exact h.2 c hc
 |mp ks vs=>show ks.length=(fc f vs).length;rw[mg];exact h
def kV(f:Nat->Nat)(l:TA):TA:=l.map fun x=>(f x.1,x.2.bT f)
def zu(f:Nat->Nat)(l:TA):ids (kV f l)=(ids l).map f:=by unfold ids kV;simp[List.map_map,Function.comp_def]
theorem yg{f g:Nat->Nat}(hf:∀i,g (f i)=i):∀(l:TA) (i:Nat),aA (kV f l) (f i)=(aA l i).map (Row.bT f)
 |[],i=>rfl
 |(j,r)::l,i=>by
  show(if f i=f j then some (r.bT f)else aA (kV f l) (f i))=((if i=j then some r else aA l i):Option Row).map _;by_cases h:i=j
  ·subst h;rw[if_pos rfl,if_pos rfl];rfl
  ·rw[if_neg h,if_neg (fun e=>h (by rw[<-hf i,<-hf j,e])),yg hf l i]
variable{l:TA}{j:Nat}
def wW{g:Nat->Nat}(hf:∀i,g (f i)=i)(h:aA (kV f l) j=some r):∃i r0,j=f i/\r=r0.bT f/\aA l i=some r0:=by
 induction l with
 |nil=>cases h
 |cons x l ih=>
  obtain⟨k,s⟩:=x;have h:(if j=f k then some (s.bT f)else aA (kV f l) j)=some r:=h;by_cases e:j=f k
  ·rw[if_pos e]at h;cases h;exact⟨k,s,e,rfl,by simp[aA]⟩
  ·rw[if_neg e]at h;obtain⟨i,r0,h1,h2,h3⟩:=ih h;refine⟨i,r0,h1,h2,?_⟩;show(if i=k then some s else aA l i)=_;rw[if_neg (fun e'=>e (by rw[h1,e']))];exact h3
@[reducible] def NW.pull(f:Nat->Nat)(w:NW):NW:={ w with nm:=fun i m=>w.nm (f i) m }
@[reducible] def NW.push(f g:Nat->Nat)(w:NW):NW:={ w with nm:=fun j m=>if f (g j)=j then w.nm (g j) m else none }
def NW.oD{g:Nat->Nat}(hf:∀i,g (f i)=i)(w:NW):(w.push f g).pull f=w:=by
 obtain⟨W,O,nm⟩:=w;show NW.mk W O _=NW.mk W O nm;congr 1
 funext i m
 show(if f (g (f i))=f i then nm (g (f i)) m else none)=nm i m;rw[hf,if_pos rfl]
def Fz{a:AV}{v:Value}{w0:NW}(h:aw w0 a v):∀w:NW,w0=w.pull f->aw w (a.bT f) v:=by
 induction h with
 |raw v=>intro w e;simp only[AV.bT];exact .raw v
 |any v=>intro w e;simp only[AV.bT];exact .any v
 |agg cs vs hl _ ih=>
  intro w e;simp only[AV.bT];refine .agg _ vs (by rw[mg];exact hl) fun i a v h1 h2=>?_
  rw[o3]at h1;cases hc:cs[i]? with
  |none=>rw[hc]at h1;cases h1
  |some b=>rw[hc]at h1;cases h1;exact ih i b v hc h2 w e
 |aP cs vs hl _ ih=>
  intro w e;simp only[AV.bT];refine .aP _ vs (by rw[mg];exact hl) fun i a v h1 h2=>?_
  rw[o3]at h1;cases hc:cs[i]? with
  |none=>rw[hc]at h1;cases h1
  |some b=>rw[hc]at h1;cases h1;exact ih i b v hc h2 w e
 |gz x sz A c hx=>intro w e;simp only[AV.bT];exact .gz x sz A c hx
 |sl x sz css a c vs hn hc hx Ti hb hH D' Uy _=>intro w e;subst e;simp only[AV.bT];exact .sl x sz css a c vs hn hc hx Ti hb hH D' Uy
 |ip cs a vs hb hH D' Uy _=>intro w e;subst e;simp only[AV.bT];exact .ip cs a vs hb hH D' Uy
 |gd p a v _ hu ih=>intro w e;simp only[AV.bT];exact .gd p _ v (fun hp=>ih hp w e) hu
 |dP g cs vs hl _ ih=>
  intro w e;simp only[AV.bT];refine .dP g _ vs (by rw[mg];exact hl) fun i a v h1 h2=>?_
  rw[o3]at h1;cases hc:cs[i]? with
  |none=>rw[hc]at h1;cases h1
  |some b=>rw[hc]at h1;cases h1;exact ih i b v hc h2 w e
 |pt i m k j b t s h=>intro w e;subst e;simp only[AV.bT];exact .pt (f i) m k j b t s h
 |iA i m sz A h=>intro w e;subst e;simp only[AV.bT];exact .iA (f i) m sz A h
 |rs i m sz n b t c h hc hn hs=>intro w e;subst e;simp only[AV.bT];exact .rs (f i) m sz n b t c h hc hn hs
 |rc i m sz n b t h hc hn hs=>intro w e;subst e;simp only[AV.bT];exact .rc (f i) m sz n b t h hc hn hs
 |jf i m sz o c A=>intro w e;simp only[AV.bT];exact .jf (f i) m sz o c A
 |rv i m sz o n b t c h hn=>intro w e;subst e;simp only[AV.bT];exact .rv (f i) m sz o n b t c h hn
 |mr i b t s h=>intro w e;subst e;simp only[AV.bT];exact .mr (f i) b t s h
 |bd g fs vs hl _ ih=>
  intro w e;simp only[AV.bT];refine .bd g _ vs (by rw[mg];exact hl) fun i a v h1 h2=>?_
  rw[o3]at h1;cases hc:fs[i]? with
  |none=>rw[hc]at h1;cases h1
  |some b=>rw[hc]at h1;cases h1;exact ih i b v hc h2 w e
 |iG t a v _ ih=>intro w e;simp only[AV.bT];exact .iG t _ v (ih w e)
 |mv m a v _ ih=>intro w e;simp only[AV.bT];exact .mv m _ v (ih w e)
mutual
theorem uN{f:Nat->Nat}{w:NW}:∀(a:AV) (v:Value),aw w (a.bT f) v->aw (w.pull f) a v
 |.raw x,v,h=>by simp only[AV.bT]at h;cases h;exact .raw _
 |.any,v,h=>.any v
 |.agg cs,v,h=>by
  simp only[AV.bT]at h;cases h with
  |agg _ vs hl hh=>exact .agg cs vs (by rw[mg]at hl;exact hl) fun i a u h1 h2=>xG cs i a h1 u (hh i _ u (by rw[o3,h1];rfl) h2)
 |.aP cs,v,h=>by
  simp only[AV.bT]at h;cases h with
  |aP _ vs hl hh=>exact .aP cs vs (by rw[mg]at hl;exact hl) fun i a u h1 h2=>xG cs i a h1 u (hh i _ u (by rw[o3,h1];rfl) h2)
 |.sl x sz css d,v,h=>by
  simp only[AV.bT]at h;cases h with
  |gz _ _ A c hx=>exact .gz x sz A c hx
  |sl _ _ _ a c vs hn hc hx Ti hb hH D' Uy=>exact .sl x sz css a c vs hn hc hx Ti hb hH D' Uy
 |.ip cs,v,h=>by
  simp only[AV.bT]at h;cases h with
  |ip _ a vs hb hH D' Uy=>exact .ip cs a vs hb hH D' Uy
 |.gd p x,v,h=>by
  simp only[AV.bT]at h;cases h with
  |gd _ _ _ h1 hu=>exact .gd p x v (fun hp=>uN x v (h1 hp)) hu
 |.dP g cs,v,h=>by
  simp only[AV.bT]at h;cases h with
  |dP _ _ vs hl hh=>exact .dP g cs vs (by rw[mg]at hl;exact hl) fun i a u h1 h2=>xG cs i a h1 u (hh i _ u (by rw[o3,h1];rfl) h2)
 |.pt i m k j,v,h=>by
  simp only[AV.bT]at h;cases h with
  |pt _ _ _ _ b t s hn=>exact .pt i m k j b t s hn
 |.rs i m sz n,v,h=>by
  simp only[AV.bT]at h;cases h with
  |iA _ _ _ A hn=>exact .iA i m sz A hn
  |rs _ _ _ _ b t c hn h1 h2 h3=>exact .rs i m sz n b t c hn h1 h2 h3
 |.rc i m sz n,v,h=>by
  simp only[AV.bT]at h;cases h with
  |rc _ _ _ _ b t hn h1 h2 h3=>exact .rc i m sz n b t hn h1 h2 h3
 |.rv i m sz o n,v,h=>by
  simp only[AV.bT]at h;cases h with
  |jf _ _ _ _ c A=>exact .jf i m sz o c A
  |rv _ _ _ _ _ b t c hn h1=>exact .rv i m sz o n b t c hn h1
 |.mr i,v,h=>by
  simp only[AV.bT]at h;cases h with
  |mr _ b t s hn=>exact .mr i b t s hn
 |.bd g fs,v,h=>by
  simp only[AV.bT]at h;cases h with
  |bd _ _ vs hl hh=>exact .bd g fs vs (by rw[mg]at hl;exact hl) fun i a u h1 h2=>xG fs i a h1 u (hh i _ u (by rw[o3,h1];rfl) h2)
 |.iG t x,v,h=>by
  simp only[AV.bT]at h;cases h with
  |iG _ _ u h1=>exact .iG t x u (uN x u h1)
 |.mv m x,v,h=>by
  simp only[AV.bT]at h;cases h with
  |mv _ _ u h1=>exact .mv m x u (uN x u h1)
theorem xG{f:Nat->Nat}{w:NW}:∀(l:TB) (i:Nat) (a:AV),l[i]?=some a->∀v,aw w (a.bT f) v->aw (w.pull f) a v
 |[],i,a,h,v,hv=>by simp at h
 |x::l,0,a,h,v,hv=>by
  have e:x=a:=by simpa using h
  rw[<-e]at hv ⊢;exact uN x v hv
 |x::l,i+1,a,h,v,hv=>xG l i a (by simpa using h) v hv
end
variable{w:NW}
def OO{z:Rz}(h:gq (w.pull f) r z):gq w (r.bT f) z:=by
 cases z with
 |nil=> obtain⟨e,sz,rfl⟩:=h;exact⟨e,sz,rfl⟩
 |«at» b t s=>
  obtain⟨h1,cur,h2,h3,h4⟩:=h;refine⟨h1.trans (r.jR f).symm,cur,by rw[Row.nC];exact h2,by rw[Row.nR];exact h3,fun i a v h5 h6=>?_⟩;rw[Row.gK,o3]at h5;cases hc:r.cells[i]? with
  |none=>rw[hc]at h5;cases h5
  |some c=>rw[hc]at h5;cases h5;exact Fz (h4 i c v hc h6) w rfl
def Jn{z:Rz}(h:gq w (r.bT f) z):gq (w.pull f) r z:=by
 cases z with
 |nil=>
  obtain⟨e,sz,h⟩:=h;cases r with
  |var t cs=>cases h
  |aF e' sz' css=>
   have h:Row.aF e' sz' (css.map (fc f))=Row.aF e sz []:=h;cases css with
   |nil=>exact⟨e',sz',rfl⟩
   |cons c css=>cases h
  |mp ks vs=>cases h
 |«at» b t s=> obtain⟨h1,cur,h2,h3,h4⟩:=h;rw[Row.nC]at h2;rw[Row.nR]at h3;refine⟨h1.trans (r.jR f),cur,h2,h3,fun i a v h5 h6=>?_⟩;exact uN a v (h4 i (a.bT f) v (by rw[Row.gK,o3,h5];rfl) h6)
theorem ab.bT{P:TL}{fn:FuncId}{args:TB}{l:TA}{R:AV->List TN->Prop}{f g:Nat->Nat}(hf:∀i,g (f i)=i)(hc:ab P fn args l R) :
  ab P fn (fc f args) (kV f l) fun r l'=>∃r0 l0,r=AV.bT f r0/\l'=kV f l0/\R r0 l0:=fun w vs hw hv=>by
 have inj:∀{i j},f i=f j->i=j:=fun{i j} e=>by rw[<-hf i,<-hf j,e]
 have hW:aI (w.pull f) (entry l):={
  bO:=hw.bO
  rows:=fun i r hi=>by
   have hi:aA l i=some r:=hi;obtain⟨h1,z,h2,h3⟩:=hw.rows (f i) (r.bT f) (by show aA (kV f l) (f i)=_;rw[yg hf,hi];rfl);refine⟨?_,z,by rw[Row.ji]at h2;exact h2,Jn h3⟩;cases r with
   |var t cs=>trivial
   |aF e sz css=>exact⟨h1.1,fun cs Ug=>by have:=h1.2 (fc f cs) (List.mem_map_of_mem Ug);rw[mg]at this;exact this⟩
   |mp ks vs=>have h1:ks.length=(fc f vs).length:=h1;rw[mg]at h1;exact h1
  cU:=fun i m z h=>by obtain⟨r,h1,h2⟩:=hw.cU (f i) m z h;obtain⟨i',r0,e1,rfl,e3⟩:=wW hf h1;cases inj e1;exact⟨r0,e3,by rw[Row.ji]at h2;exact h2⟩
  inj:=fun i m j n b t s t' s' h1 h2=>inj (hw.inj _ _ _ _ _ _ _ _ _ h1 h2)
  own:=fun i m b t s h=>hw.own _ _ _ _ _ h
  fin:=hw.fin }
 have hV:bq (w.pull f) args vs:=⟨by have:=hv.1;rw[mg]at this;exact this,fun i a v h1 h2=>uN a v (hv.2 i _ v (by rw[o3,h1];rfl) h2)⟩;refine(hc (w.pull f) vs hW hV).mono ?_;rintro e W ⟨v,r,H',w',rfl,rfl,hR,h1,h2,h3⟩;have hp:=NW.oD hf w';refine⟨v,r.bT f,⟨H'.B.map f,kV f H'.l⟩,w'.push f g,rfl,rfl,⟨r,H'.l,rfl,rfl,hR⟩,?_,?_,?_⟩
 ·exact{
   bO:=h1.bO
   rows:=fun j r hj=>by obtain⟨i,r0,rfl,rfl,e3⟩:=wW hf hj;obtain⟨k1,z,k2,k3⟩:=h1.rows i r0 e3;refine⟨Row.uk k1,z,?_,OO (w:=w'.push f g) (by rw[hp];exact k3)⟩;show(if f (g (f i))=f i then w'.nm (g (f i)) (r0.bT f).fB else none)=some z;rw[hf,if_pos rfl,Row.ji];exact k2
   cU:=fun j m z h=>by
    have h:(if f (g j)=j then w'.nm (g j) m else none)=some z:=h;split at h
    ·rename_i e;obtain⟨r0,k1,k2⟩:=h1.cU _ _ _ h;refine⟨r0.bT f,?_,by rw[Row.ji];exact k2⟩;show aA (kV f H'.l) j=_;rw[<-e,yg hf];have k1:aA H'.l (g j)=some r0:=k1;rw[k1];rfl
    ·cases h
   inj:=fun i m j n b t s t' s' k1 k2=>by
    have k1:(if f (g i)=i then w'.nm (g i) m else none)=some _:=k1;have k2:(if f (g j)=j then w'.nm (g j) n else none)=some _:=k2;split at k1
    ·rename_i e1;split at k2
     ·rename_i e2;have:=h1.inj _ _ _ _ _ _ _ _ _ k1 k2;rw[<-e1,<-e2,this]
     ·cases k2
    ·cases k1
   own:=fun i m b t s k=>by
    have k:(if f (g i)=i then w'.nm (g i) m else none)=some _:=k;split at k
    ·exact h1.own _ _ _ _ _ k
    ·cases k
   fin:=h1.fin }
 ·exact Fz (w0:=w') h2 (w'.push f g) hp.symm
 ·exact{
   size:=h3.size
   free:=h3.free
   names:=fun j m z hj hz=>by have hj:(ids (kV f l)).contains j=true:=hj;rw[zu]at hj;obtain⟨i,hi,rfl⟩:=List.mem_map.1 (List.contains_iff_mem.1 hj);have:=h3.names i m z (List.contains_iff_mem.2 hi) hz;show(if f (g (f i))=f i then w'.nm (g (f i)) m else none)=some z;rw[hf,if_pos rfl];exact this
   os:=h3.os,tape:=h3.tape,output:=h3.output
   rest:=fun b hb hO Te=>by
    obtain⟨k1,k2,k3⟩:=h3.rest b hb hO fun i m t s=>Te (f i) m t s
    refine⟨k1,k2,fun j m t s h=>?_⟩;have h:(if f (g j)=j then w'.nm (g j) m else none)=some _:=h;split at h
    ·exact k3 _ _ _ _ h
    ·cases h
   base:=by show H'.B.map f=ids (kV f l);rw[zu];have:H'.B=ids l:=h3.base;rw[this] }
section
variable {P:TL}{f:FuncId}{args fs:TB}{H:Hp}{K:S8}{q:Prop}
def bm{l l0:TA}{r0:AV}(hc:ab P f (fs++args) l fun r l'=>r=r0/\l'=l0)(k:q)(h1:qx l H:=by exact du)(h0:aT P f=true:=by exact du)(h2:aW (fun i=>(ids l).contains i) (fs++args)=true:=by exact du)(h3:qX (fun i=>(ids l).contains i) l:=by exact du)
 (h4:ot (ids l) H l0:=by exact du) (h5:(ids l0).Nodup:=by exact du) (e:K r0 ⟨H.B,gu H.l l0⟩=q:=by exact fj):ff P (.bd f fs) args H K:=.inl ⟨h0,by have:=v7 hc h1 h2 h3 h4 h5 (e ▸ k:K r0 ⟨H.B,gu H.l l0⟩);simpa using this⟩
end
variable {P:TL}{H:Hp}
def AZ(w:NW)(v:Value)(k:Nat)(ys:S9):Prop:=∃A c news,v=.slice A k c/\ys.length<=k/\cd w ys.flatten news/\(0<ys.length->∃ad,A=some ad/\∀(j:Nat) u,news[j]?=some u->w.cell? (ad.add j)=some u)
variable{ys:S9}{sz:Nat}
def Gj{H:Hp}{x:AV}{c:Prop}(h:tE H x=some (c,ys))(hc:c)(hg:Good sz ys):∀(w:NW) vx,aI w H->aw w x vx->AZ w vx ys.length ys:=fun w vx hw hx=>by obtain⟨A,c',news,e,h1,h2⟩:=zA hw hx h hc hg;exact⟨A,c',news,e,Nat.le_refl _,h1,h2⟩
variable{d m o n:Nat}{css:S9}
def IV{k:Nat}{e:TG}(hd:H.get d=some (.aF e sz css))(hm:m=css.length)(ho:o+k<=m)(hn:n<=k):∀(w:NW) vx,aI w H->aw w (.rv d m sz o k) vx->AZ w vx k ((css.drop o).take n):=fun w vx hw hx=>by
 subst hm;obtain⟨hok,_⟩:=hw.rows d _ hd;have Tu:=hok.2;have I':((css.drop o).take n).length=n:=by simp;omega
 cases hx with
 |jf _ _ _ _ c A=> have e0:n=0:=jB;subst e0;exact⟨A,c,[],rfl,jE,⟨rfl,fun i a v h=>by simp at h⟩,fun h=>by simp at h⟩
 |rv _ _ _ _ _ b t c Th Ts=>
  by_cases h0:n=0
  ·subst h0;exact⟨_,c,[],rfl,jE,⟨rfl,fun i a v h=>by simp at h⟩,fun h=>by simp at h⟩
  have:=zR (w:=w) (sz:=sz) (c:=c) (ys:=(css.drop o).take n) (ad:=⟨b,o*sz,none⟩) (fun y hy=>Tu y (List.mem_of_mem_drop (List.mem_of_mem_take hy))) fun i' j U7 hj=>by obtain⟨_,_,_,v,h1,h2⟩:=rL hw hd Th (k:=o+i') (j:=j) jB hj;refine⟨v,by rw[je,<-Nat.add_assoc,<-Nat.add_mul];exact h1,fun u hu=>h2 u ?_⟩;rw[<-hu];simp[List.getElem?_take,show i'<n from jB]
  obtain⟨A,c',news,e,h1,h2⟩:=this;cases e;exact⟨_,c,news,rfl,jB,h1,h2⟩
def C2(hc:∀c∈css,c.length=sz)(hy:∀c∈ys,c.length=sz)(ho:o+ys.length<=css.length){p:Nat}{u:AV}(hp:(dr css o ys).flatten[p]?=some u):if o*sz<=p/\p<o*sz+ys.flatten.length then ys.flatten[p-o*sz]?=some u else css.flatten[p]?=some u:=by
 have h1:(css.take o).flatten.length=o*sz:=by rw[gh fun c h=>hc c (List.mem_of_mem_take h),List.length_take,Nat.min_eq_left jB]
 have e2:css.flatten=(css.take o).flatten++((css.drop o).take ys.length).flatten++(css.drop (o+ys.length)).flatten:=by
  rw[<-List.flatten_append,<-List.flatten_append];congr 1
  rw[List.append_assoc,<-List.drop_drop,List.take_append_drop,List.take_append_drop]
 have h3:((css.drop o).take ys.length).flatten.length=ys.flatten.length:=by rw[gh fun c h=>hc c (List.mem_of_mem_drop (List.mem_of_mem_take h)),gh hy,List.length_take,List.length_drop,Nat.min_eq_left jB]
 unfold dr at hp;rw[List.flatten_append,List.flatten_append]at hp;generalize (css.take o).flatten=T at*;generalize ((css.drop o).take ys.length).flatten=M at*;generalize (css.drop (o+ys.length)).flatten=D at*;generalize ys.flatten=Y at*;rcases Nat.lt_or_ge p T.length with h|h
 ·rw[jN,e2,List.append_assoc,List.getElem?_append_left h];rw[List.append_assoc,List.getElem?_append_left h]at hp;exact hp
 ·rw[List.append_assoc,List.getElem?_append_right h]at hp;rcases Nat.lt_or_ge (p-T.length) Y.length with h'|h'
  ·rw[List.getElem?_append_left h']at hp;rw[if_pos ⟨jB,jB⟩,<-hp,h1]
  ·rw[List.getElem?_append_right h']at hp;rw[jN,e2,List.append_assoc,List.getElem?_append_right h,List.getElem?_append_right jB,<-hp,h3]
variable{t:TG}{zs:TJ}{K:S8}
def yj{e:TG}{k:Nat}{x:AV}(hd:H.get d=some (.aF e sz css))(hm:m=css.length)(ht:ij P t=some e)(UW:de P e=some sz)(WI:dM P e=some zs)(VC:zs.length=sz)(h0:0<sz)(Yg:o+n<=m)(Wu:0<n)
  (VH:∀(w:NW) vx,aI w H->aw w x vx->AZ w vx k ys) (hg:Good sz ys) (Xn:Nat.min k n=ys.length)
  (hk:K (.raw (.int .i64 (ys.length:Nat))) (H.put d (.aF e sz (dr css o ys)))):pI P .copy [t,t] [.rv d m sz o n,x] H K:=by
 subst hm;intro w vs ty cs hw hr;obtain⟨vd,vx,rfl⟩:∃vd vx,vs=[vd,vx]:=by
  have:=hr.1;match vs,this with
  |[vd,vx],_=>exact⟨vd,vx,rfl⟩
 have hu:=sF ht;obtain⟨i,z,hi,TS,Vv,W4,Xg⟩:=tG UW WI VC;obtain⟨A',cx,news,rfl,hyk,TU,Us⟩:=VH w vx hw (hr.2 1 _ vx rfl rfl);have Vo:aw w (.rv d css.length sz o n) vd:=hr.2 0 _ vd rfl rfl;have hyn:ys.length<=n:=by rw[<-Xn];exact Nat.min_le_right _ _
 have Ux:ys.flatten.length=ys.length*sz:=gh fun y hy=>(hg y hy).1
 have Vb:news.length=ys.length*sz:=by rw[<-TU.1,Ux]
 have UZ:cI ys.flatten=true:=by simp only[cI,List.all_eq_true];intro u WJ;obtain⟨y,hy,XG⟩:=List.mem_flatten.1 WJ;have:=(hg y hy).2;simp only[cI,List.all_eq_true]at this;exact this u XG
 have hf:(Builtin.firstCells i.size ys.length (.slice A' k cx)).run P w.toWorld=.ok news.toArray w.toWorld:=by
  by_cases h0:ys.length=0
  ·have:news=[]:=by have:=Vb;rw[h0,Nat.zero_mul]at this;simpa using this
   subst this;rw[h0];cases A'<;>simp[Builtin.firstCells,loadCells,loadCellsFrom]
  ·obtain⟨ad,rfl,D'⟩:=Us jB;exact run_firstCells_some (P:=P) w.toWorld i.size ys.length ad k cx news (by rw[TS];exact Vb) D'
 rw[TS]at hf;have hok:=(hw.rows d _ hd).1;have Tx:∀cs∈dr css o ys,cs.length=sz:=fun cs h=>by
  unfold dr at h;rcases List.mem_append.1 h with h|h
  ·rcases List.mem_append.1 h with h|h
   ·exact hok.2 _ (List.mem_of_mem_take h)
   ·exact(hg cs h).1
  ·exact hok.2 _ (List.mem_of_mem_drop h)
 have Vg:=gh hok.2;have Tm:(dr css o ys).length=css.length:=by rw[ur ys jB,Nat.max_eq_left jB]
 cases Vo with
 |jf _ _ _ _ _ A=>omega
 |rv _ _ _ _ _ b t' cap Th Ts=>
  obtain⟨_,z',T2,Tp⟩:=hw.rows d _ hd;have:z'=.at b t' sz:=by have T2:w.nm d css.length=some z':=T2;rw[Th]at T2;cases T2;rfl
  subst this;obtain⟨_,cur,hh,⟨Ug,Tc⟩,Vh⟩:=Tp;have Tc:css.flatten.length<=t':=Tc;have hmul:(o+ys.length)*sz<=css.length*sz:=Nat.mul_le_mul_right _ jB;rw[Nat.add_mul]at hmul;have UP:o*sz+ys.flatten.length<=t':=jB;obtain⟨w',B',g1,g2,g3⟩:=tg (P:=P) (off:=o*sz) (r':=.aF e sz (dr css o ys)) hw hd Th TU UZ UP rfl rfl rfl rfl (by show css.length<=(dr css o ys).length;rw[Tm];exact Nat.le_refl _) ⟨h0,Tx⟩ (by show(dr css o ys).flatten.length<=t';rw[gh Tx,Tm];omega) (fun p u hp=>C2 hok.2 (fun c hc=>(hg c hc).1) jB hp);refine⟨w',_,_,.int .i64 ys.length,?_,hk,g1,.raw _,g2⟩;have Zs:Nat.min n k=ys.length:=(Nat.min_comm n k).trans Xn;simp[builtin,Builtin.copy_,run_underlying hu,Builtin.lenOf,sizeOf,typeInfo,hi,TS,Xn,Zs,hf,B',goInt]
variable{f:FuncId}
def SN  {fn : Func} {tR e:TypeId}   {dd : List AV} {K : AV → Hp → Prop} (hf : P.funcs[f]? = some fn) (VR : (fn.name == "runtime.NumGoroutine") = false) (hbn : fn.body.isNone = true) (hn : Extern.findNext fn = none)
  (he:Extern.find fn=some (Extern.SlicesOverlaps.overlaps #[t,t] #[tR])) (ht:ij P t=some e) (Ti:de P e=some sz) (hd:H.get d=some (.aF e sz css)) (hm:m=css.length) (Wu:0<n) (Yg:o+n<=m) (hy:0<ys.length) (hk:K (.raw (.bool false)) H) :
  tv P f [.sl true sz ys dd,.rv d m sz o n] H K:=by
 subst hm;have hu:=sF ht;intro w vs hw hr;obtain⟨vd,vx,rfl⟩:∃vd vx,vs=#[vd,vx]:=by
  have:=hr.1;match vs,this with
  |⟨[vd,vx]⟩,_=>exact⟨vd,vx,rfl⟩
 have h2:=hr.2 1 _ vx rfl rfl;have h1:=hr.2 0 _ vd rfl rfl;cases h2 with
 |jf _ _ _ _ _ A=>omega
 |rv _ _ _ _ _ b t' cap Th Ts=>
  obtain⟨hok,z',T2,Tp⟩:=hw.rows d _ hd;have:z'=.at b t' sz:=by have T2:w.nm d css.length=some z':=T2;rw[Th]at T2;cases T2;rfl
  subst this;obtain⟨_,cur,hh,⟨Ug,Tc⟩,Vh⟩:=Tp;have Tc:css.flatten.length<=t':=Tc;have hh:w.heap[b]?=some (.cells cur e (0,0)):=hh;rw[gh hok.2]at Tc;have UG:0<css.length*sz:=Nat.mul_pos jB hok.1;have hO:w.O b:=hw.own _ _ _ _ _ Th;cases h1 with
  |gz=>simp at hy
  |sl _ _ _ ad c' vs' _ _ hx _ Zt hH _ _=>
   obtain⟨_,cu,el,V8⟩:=hx rfl;have B':=Lib.run_overlaps_apart (P:=P) w.toWorld t tR e hu sz (fun _=>lq Ti) ad ⟨b,o*sz,none⟩ ys.length c' n cap (fun e=>hH (by rw[e];exact hO)) el e cu.size cur.size
    (by simp[World.shape?,V8]) (by simp[World.shape?,hh]) jB (by simp[World.frozen?,V8]) (by simp[World.frozen?,V8])
   refine⟨_,w,_,H,?_,hk,hw,.raw _,Ext.refl w H⟩;rw[run_callFunc_extern hf VR hbn hn he,B'];rfl
def DD(z:TI)(m:Nat):(Builtin.zeroCells z m).toList=(List.replicate m z.toList).flatten:=by
 induction m with
 |zero=>simp[Builtin.zeroCells]
 |succ m ih=>
  rw[List.replicate_succ',List.flatten_append,<-ih];apply List.ext_getElem
  ·simp[Builtin.zeroCells,Nat.add_mul]
  ·intro i h1 h2;simp only[Builtin.zeroCells,Array.toList_map,Array.toList_range,List.getElem_map,List.getElem_range]at h1 ⊢;rcases Nat.lt_or_ge i (m*z.size)with h|h
   ·rw[List.getElem_append_left (by simpa using h)];simp
   ·rw[List.getElem_append_right (by simpa using h)];simp only[List.length_map,List.length_range,Array.size_range]at*;simp only[List.length_map,List.length_range,Nat.add_mul,Nat.one_mul]at h1;have hi:i % z.size=i-m*z.size:=by
     have:i=(i-m*z.size)+m*z.size:=jB;rw[this,Nat.add_mul_mod_self_right,Nat.mod_eq_of_lt jB];omega
    rw[hi];simp[getElem!_pos,show i-m*z.size<z.size from jB]
variable{i:Nat}
def KB{t' e:TG}{k:Nat}{q:Int}(ht:ij P t=some e)(WJ:∃d,P.underlying t'=some (.int d))(Ti:de P e=some sz)(hz:dM P e=some zs)(VC:zs.length=sz)(h0:0<sz)
  (hd:H.get d=some (.aF e sz css)) (hm:m=css.length) (hi:i<=m) (hc:m<i+k) (Ut:room (ki P e) (i+k)) (hq:q=k) (hj:H.get j=none) (hn:n=i+k)
  (hk:K (.rs j n sz n) (H.put j (.aF e sz (css.take i++List.replicate k (zs.map .raw))))):p6 P t t' (.rc d m sz i) (.raw (.int .i64 q)) H K:=by
 subst hm hq hn;have hu:=sF ht;intro w va vx ty hw Vo YB;have:=db YB;subst this;obtain⟨dk,XU⟩:=WJ;obtain⟨inf,z,U7,TS,Vv,W4,Xg⟩:=tG Ti hz VC;obtain⟨Vy,WO⟩:=Ut;rw[Xg]at Vy;have Wn:z.cells.toList=zs:=by unfold dM at hz;rw[U7]at hz;simp only[Option.bind_some,Vv,Option.map_some,Option.some.injEq]at hz;exact hz
 have Vp:i+k<=grownCap w.toWorld (i+k) css.length e:=by unfold grownCap Question.cut;simp
 have hok:=(hw.rows d _ hd).1;have Tx:∀cs∈css.take i++List.replicate k (zs.map AV.raw),cs.length=sz:=fun cs h=>by
  rcases List.mem_append.1 h with h|h
  ·exact hok.2 cs (List.mem_of_mem_take h)
  ·rw[List.eq_of_mem_replicate h];simpa using VC
 have Tm:(css.take i++List.replicate k (zs.map AV.raw)).length=i+k:=by simp;omega
 have Vg:=gh hok.2;have TU:cd w (List.replicate k (zs.map AV.raw)).flatten (List.replicate k zs).flatten:=by
  have:(List.replicate k (zs.map AV.raw)).flatten=((List.replicate k zs).flatten).map .raw:=by simp[List.map_flatten]
  rw[this];exact zM _
 generalize haf:css.length=L at Vo hc Vp Vg hi;cases Vo with
 |rc _ _ _ _ b t' Th UK Ts Uz=>
  obtain⟨_,z',T2,Tp⟩:=hw.rows d _ hd;have:z'=.at b t' sz:=by have T2:w.nm d css.length=some z':=T2;rw[haf,Th]at T2;cases T2;rfl
  subst this;obtain⟨_,cur,hh,⟨Ug,Tc⟩,Vh⟩:=Tp;have hh:w.heap[b]?=some (.cells cur e (0,0)):=hh;have Tc:css.flatten.length<=t':=Tc;have Vh:∀(x:Nat) a v,css.flatten[x]?=some a->cur[x]?=some v->aw w a v:=Vh;have hmul:=Nat.mul_le_mul_right sz hi;have Vq:(css.take i).flatten=css.flatten.take (i*sz):=by
   have e1:css.flatten=(css.take i).flatten++(css.drop i).flatten:=by rw[<-List.flatten_append,List.take_append_drop]
   have e2:(css.take i).flatten.length=i*sz:=by rw[gh fun c h=>hok.2 c (List.mem_of_mem_take h),List.length_take,Nat.min_eq_left jB]
   have e3:=congrArg (List.take (i*sz)) e1;rw[List.take_append_of_le_length jB,List.take_of_length_le (l:=(css.take i).flatten) jB]at e3;exact e3.symm
  have hold:cd w (css.take i).flatten (cur.toList.take (i*sz)):=by
   rw[Vq];refine⟨by simp only[List.length_take,Array.length_toList];omega,fun x a v ha hv=>?_⟩;rw[List.getElem?_take]at ha hv;split at ha
   ·rename_i h;rw[if_pos h]at hv;exact Vh x a v ha (by simpa using hv)
   ·cases ha
  have Tu:=hold.append TU;rw[<-List.flatten_append]at Tu;have Yi:∀q,w.nm j q=none:=fun q=>by
   cases e:w.nm j q with
   |none=>rfl
   |some z=>obtain⟨r,h1,_⟩:=hw.cU j q z e;rw[hj]at h1;cases h1
  obtain⟨w',e1,g1,g2,g3⟩:=sA (i:=j) (e:=e) (cap:=grownCap w.toWorld (i+k) L e) (css:=css.take i++List.replicate k (zs.map AV.raw)) (rest:=Builtin.zeroCells z.cells (grownCap w.toWorld (i+k) L e-(i+k))) hw h0 Tx Tu (by rw[Tm];exact Vp) (by rw[Tm];simp[Builtin.zeroCells,W4]) (Yi _) (fun r hr=>by rw[hj]at hr;cases hr);rw[Tm]at g3;refine⟨w',_,_,_,?_,hk,g1,g3,g2⟩;rw[e1];have Wf:(Builtin.firstCells inf.size i (.slice (some ⟨b,0,none⟩) i L)).run P w.drew=.ok (cur.toList.take (i*sz)).toArray w.drew:=by
   refine run_firstCells_some (P:=P) w.drew inf.size i ⟨b,0,none⟩ i L _ (by rw[TS];simp only[List.length_take,Array.length_toList];omega) (fun x v h=>?_);rw[List.getElem?_take]at h;split at h
   ·rw[je,sD (w:=w.drew) b _ cur e (0,0) hh,Nat.zero_add];simpa using h
   ·cases h
  have W7:IntKind.i64.wrap (k:Int)=k:=sr jB;have UN:¬(281474976710656<(k:Int)*inf.bytes):=by have:k*inf.bytes<=(i+k)*inf.bytes:=Nat.mul_le_mul_right _ jB;have h2:((k*inf.bytes:Nat):Int)<=140737488355328:=jB;rw[Int.natCast_mul]at h2;omega
  have Uf:¬(i+k<=L):=jB;have Vs:¬(9223372036854775807<(i:Int)+(k:Int)):=jB;have Wg:¬((k:Int)<0):=jB;have Zu:=growslice_fits (bytes:=inf.bytes) (old:=L) (show L<i+k from jB) Vy;have Vl:¬(281474976710656<Builtin.nextslicecap (i+k) L*inf.bytes):=jB;have hkz:¬(k*inf.size=0):=by rw[TS];exact Nat.ne_of_gt (Nat.mul_pos jB h0)
  simp[Builtin.append_,run_underlying hu,run_underlying XU,sizeOf,typeInfo,zeroValue,U7,Vv,asInt,asIntOf,W7,UN,Vl,Uf,Vs,Wg,hkz,Question.forced,Wf,newRow,grownCap];have:Builtin.zeroCells z.cells k=(List.replicate k zs).flatten.toArray:=by apply Array.ext';rw[DD,Wn]
  rw[this];congr 2
  apply Array.ext';simp
def D3{e:TG}(hd:H.get d=some (.aF e sz css))(hm:m=css.length)(ht:ij P t=some e)(UW:de P e=some sz)(WI:dM P e=some zs)(VC:zs.length=sz)(h0:0<sz)(Ty:cI (zs.map .raw)=true)(Yg:o+n<=m)
  (hk:K (.raw (.tuple #[])) (H.put d (.aF e sz (dr css o (List.replicate n (zs.map .raw)))))):pI P .clear [t] [.rv d m sz o n] H K:=by
 subst hm;have hu:=sF ht;intro w vs ty cs hw hr;obtain⟨vd,rfl⟩:∃vd,vs=[vd]:=by
  have:=hr.1;match vs,this with
  |[vd],_=>exact⟨vd,rfl⟩
 obtain⟨i,z,hi,TS,Vv,W4,Xg⟩:=tG UW WI VC;have Wn:z.cells.toList=zs:=by unfold dM at WI;rw[hi]at WI;simp only[Option.bind_some,Vv,Option.map_some,Option.some.injEq]at WI;exact WI
 have Vo:aw w (.rv d css.length sz o n) vd:=hr.2 0 _ vd rfl rfl;have hok:=(hw.rows d _ hd).1;by_cases Wu:n=0
 ·subst Wu;have Wo:dr css o (List.replicate 0 (zs.map AV.raw))=css:=by simp[dr]
  rw[Wo]at hk;have Xe:aI w (H.put d (.aF e sz css)):={ hw with rows:=fun j r hj=>?_,cU:=fun j q z hz=>?_ };rotate_left
  ·rw[Hp.bj]at hj;split at hj
   ·rename_i e;subst e;exact hw.rows j r (by rw[hd];exact hj)
   ·exact hw.rows j r hj
  ·rw[Hp.bj];split
   ·rename_i e;subst e;obtain⟨r,g1,g2⟩:=hw.cU j q z hz;rw[hd]at g1;cases g1;exact⟨_,rfl,g2⟩
   ·exact hw.cU j q z hz
  have hv:∃A c,vd=.slice A 0 c:=by
   generalize hq:(0:Nat)=q at Vo;cases Vo with
   |jf _ _ _ _ c A=>exact⟨A,c,rfl⟩
   |rv _ _ _ _ _ b t' cap Th Ts=>subst hq;exact⟨_,_,rfl⟩
  obtain⟨A,c,rfl⟩:=hv;refine⟨w,_,_,.tuple #[],?_,hk,Xe,.raw _,{ Ext.refl w H with base:=rfl }⟩;cases A<;>simp[builtin,Builtin.clear_,run_underlying hu]
 generalize XS:n=n' at Vo;cases Vo with
 |jf _ _ _ _ _ A=>omega
 |rv _ _ _ _ _ b t' cap Th Ts=>
  subst XS;obtain⟨_,z',T2,Tp⟩:=hw.rows d _ hd;have:z'=.at b t' sz:=by have T2:w.nm d css.length=some z':=T2;rw[Th]at T2;cases T2;rfl
  subst this;obtain⟨_,cur,hh,⟨Ug,Tc⟩,Vh⟩:=Tp;have Tc:css.flatten.length<=t':=Tc;have Vg:=gh hok.2;have Tz:cd w (List.replicate n (zs.map AV.raw)).flatten (List.replicate n zs).flatten:=by
   have:(List.replicate n (zs.map AV.raw)).flatten=((List.replicate n zs).flatten).map .raw:=by simp[List.map_flatten]
   rw[this];exact zM _
  have hyl:∀c∈List.replicate n (zs.map AV.raw),c.length=sz:=fun c hc=>by rw[List.eq_of_mem_replicate hc];simpa using VC
  have Y4:(List.replicate n (zs.map AV.raw)).length=n:=List.length_replicate;have Ux:(List.replicate n (zs.map AV.raw)).flatten.length=n*sz:=by rw[gh hyl,Y4]
  have Tx:∀cs∈dr css o (List.replicate n (zs.map AV.raw)),cs.length=sz:=fun cs h=>by
   unfold dr at h;rcases List.mem_append.1 h with h|h
   ·rcases List.mem_append.1 h with h|h
    ·exact hok.2 _ (List.mem_of_mem_take h)
    ·exact hyl cs h
   ·exact hok.2 _ (List.mem_of_mem_drop h)
  have Tm:(dr css o (List.replicate n (zs.map AV.raw))).length=css.length:=by rw[ur _ jB,Y4,Nat.max_eq_left jB]
  have hmul:(o+n)*sz<=css.length*sz:=Nat.mul_le_mul_right _ jB;rw[Nat.add_mul]at hmul;obtain⟨w',B',g1,g2,g3⟩:=tg (P:=P) (off:=o*sz) (r':=.aF e sz (dr css o (List.replicate n (zs.map AV.raw)))) hw hd Th Tz (by simp only[cI,List.all_eq_true]at Ty ⊢;intro u WJ;obtain⟨y,hy,XG⟩:=List.mem_flatten.1 WJ;rw[List.eq_of_mem_replicate hy]at XG;exact Ty u XG) (by rw[Ux];omega) rfl rfl rfl rfl (by show css.length<=(dr css o _).length;rw[Tm];exact Nat.le_refl _) ⟨h0,Tx⟩ (by show(dr css o _).flatten.length<=t';rw[gh Tx,Tm];omega) (fun p u hp=>C2 hok.2 hyl (by rw[Y4];omega) hp)
  refine⟨w',_,_,.tuple #[],?_,hk,g1,.raw _,g2⟩;obtain⟨k,rfl⟩:∃k,n=k+1:=⟨n-1,jB⟩;simp[builtin,Builtin.clear_,run_underlying hu,zeroValue,typeInfo,hi,Vv,DD,Wn,B']
def eW(sz k:Nat):S9:=List.replicate k (List.replicate sz AV.any)
def uB{k:Nat}:(eW sz k).length=k:=List.length_replicate
def zc{w':NW}(e:w'.toWorld=w.toWorld)(hO:∀b,w'.O b=w.O b){q:TK}(hn:∀i m z,q i=true->w.nm i m=some z->w'.nm i m=some z):Keep q w w':=
 ⟨by rw[e];exact Nat.le_refl _,fun b _ h=>⟨by rw[e],by rw[hO];exact h⟩,hn⟩
def gq.nV{w':NW}{z:Rz}{q:TK}(h:gq w r z)(e:w'.toWorld=w.toWorld)(k:Keep q w w')(hq:aW q r.cells=true):gq w' r z:=by
 cases z with
 |nil=>exact h
 |«at» b t s=> obtain⟨h1,cur,h2,h3,h5⟩:=h;exact⟨h1,cur,by rw[e];exact h2,h3,fun i a v ha hv=>(h5 i a v ha hv).aU k (k8 hq ha)⟩
theorem Az{r s:Row}{i:Nat}:∀{l:TA},aA l i=some s->ids (bg l i r)=ids l
 |[],h=>by cases h
 |(j,t)::l,h=>by
  simp only[aA]at h;simp only[bg];split
  ·rename_i e;subst e;rfl
  ·rename_i e;rw[if_neg e]at h;have:=Az (r:=r) h;simp only[ids,List.map_cons]at this ⊢;rw[this]
variable{X:S9}{rest:TB}
def ab.room{e:TG}(hn:0<css.length)(hl:aA l i=some (.aF e sz css))(XK:n=css.length)(hq:∀k r,aA l k=some r->k≠i->aW (fun j=>(ids l).contains j && !(j == i)) r.cells=true)(hX:X.length=n+1)(Zv:aW (fun j=>(ids l).contains j && !(j == i)) X.flatten=true)(Zw:∀x∈X,x.length=sz)
  (h:∀c,n<=c->ab P f (.rc i c sz n::rest) (bg l i (.aF e sz (css++eW sz (c-n)))) fun r l'=>(n+1<=c/\r=.rc i c sz (n+1)/\l'=bg l i (.aF e sz (X++eW sz (c-(n+1)))))\/(c=n/\∃j,aA l j=none/\r=.rs j (n+1) sz (n+1)/\l'=l++[(j,.aF e sz X)])) :
  ab P f (.rs i n sz n::rest) l fun r l'=>r=.rs i (n+1) sz (n+1)/\l'=bg l i (.aF e sz X):=fun w vs hw hv=>by
 obtain⟨v0,vr,rfl⟩:∃v0 vr,vs=(v0::vr).toArray:=by
  have:=hv.1;obtain⟨vl⟩:=vs;match vl,this with
  |v0::vr,_=>exact⟨v0,vr,rfl⟩
 have h0:aw w (.rs i n sz n) v0:=hv.2 0 _ v0 rfl rfl;have Tp:=hw.rows i _ hl;obtain⟨⟨Uz,Tu⟩,z,hz,hrw⟩:=Tp;have hz:w.nm i css.length=some z:=hz;rw[<-XK]at hz;generalize Y5:n=n' at h0;cases h0 with
 |iA _ _ _ A Th=>omega
 |rs _ _ _ _ b t c Th UK Ts _=>
  subst Y5;have:z=.at b t sz:=by rw[Th]at hz;cases hz;rfl
  subst this;obtain⟨_,cur,hh,⟨Ug,Tc⟩,Vh⟩:=hrw;have Tc:css.flatten.length<=t:=Tc;have Vh:∀(x:Nat) a v,css.flatten[x]?=some a->cur[x]?=some v->aw w a v:=Vh
  -- the names, with one more
  let w1:NW:={ w with nm:=fun k m=>if k=i/\m=c then some (.at b t sz)else w.nm k m }
  have TQ:∀k m z,w.nm k m=some z->w1.nm k m=some z:=fun k m z Ty=>by
   show(if k=i/\m=c then _ else _)=_;by_cases hc:k=i/\m=c
   ·rw[if_pos hc];rw[hc.1,hc.2]at Ty;obtain⟨r,g1,g2⟩:=hw.cU _ _ _ Ty;have g1:aA l i=some r:=g1;rw[hl]at g1;cases g1;have g2:c<=css.length:=g2;have e2:c=n:=jB;rw[e2,Th]at Ty;exact Ty
   ·rw[if_neg hc];exact Ty
  have UN:∀{k m b' t' s'},w1.nm k m=some (.at b' t' s')->w.nm k m=some (.at b' t' s')\/(k=i/\m=c/\b'=b/\t'=t/\s'=sz):=fun{k m b' t' s'} h=>by
   have h:(if k=i/\m=c then some (.at b t sz)else w.nm k m)=some (.at b' t' s'):=h;split at h
   ·rename_i hc;cases h;exact .inr ⟨hc.1,hc.2,rfl,rfl,rfl⟩
   ·exact .inl h
  have K1:Keep pT w w1:=zc (w:=w) (w':=w1) rfl (fun _=>rfl) fun k m z _ Ty=>TQ k m z Ty
  have Vm:(css++eW sz (c-n)).length=c:=by rw[List.length_append,uB];omega
  have hah:(css++eW sz (c-n)).flatten.length=c*sz:=by
   rw[gh (sz:=sz),Vm];intro x hx;rcases List.mem_append.1 hx with hx|hx
   ·exact Tu x hx
   ·rw[List.eq_of_mem_replicate hx];simp
  have WQ:ids (bg l i (.aF e sz (css++eW sz (c-n))))=ids l:=Az hl;have W1:aI w1 (entry (bg l i (.aF e sz (css++eW sz (c-n))))):={
   bO:=hw.bO
   rows:=fun k r hk=>by
    have hk:aA (bg l i (.aF e sz (css++eW sz (c-n)))) k=some r:=hk;rw[bF]at hk;by_cases e1:k=i
    ·rw[if_pos e1]at hk;have hk:=Option.some.inj hk;subst hk;subst e1;refine⟨⟨Uz,fun x hx=>?_⟩,.at b t sz,?_,rfl,cur,hh,⟨Ug,by show(css++eW sz (c-n)).flatten.length<=t;omega⟩,fun x a v ha hv=>?_⟩
     ·rcases List.mem_append.1 hx with hx|hx
      ·exact Tu x hx
      ·rw[List.eq_of_mem_replicate hx];simp
     ·show(if _ then _ else _)=_;rw[if_pos ⟨rfl,Vm⟩]
     ·have ha:(css++eW sz (c-n)).flatten[x]?=some a:=ha;rw[List.flatten_append]at ha;rcases Nat.lt_or_ge x css.flatten.length with hx|hx
      ·rw[List.getElem?_append_left hx]at ha;exact(Vh x a v ha hv).aU K1 (l6 a)
      ·rw[List.getElem?_append_right hx]at ha;have:a=.any:=by
        have:=List.mem_of_getElem? ha;obtain⟨y,hy,Zx⟩:=List.mem_flatten.1 this;rw[List.eq_of_mem_replicate hy]at Zx;exact List.eq_of_mem_replicate Zx
       subst this;exact .any v
    ·rw[if_neg e1]at hk;obtain⟨g1,z,g2,g3⟩:=hw.rows k r hk;refine⟨g1,z,TQ _ _ _ g2,?_⟩;exact g3.nV rfl K1 (uh _)
   cU:=fun k m z hk=>by
    have hk:(if k=i/\m=c then some (.at b t sz)else w.nm k m)=some z:=hk;show∃r,aA (bg l i _) k=some r/\m<=r.fB;rw[bF];split at hk
    ·rename_i hc;rw[if_pos hc.1];exact⟨_,rfl,by show m<=(css++eW sz (c-n)).length;rw[Vm,hc.2];exact Nat.le_refl _⟩
    ·obtain⟨r,g1,g2⟩:=hw.cU k m z hk;split
     ·rename_i e1;subst e1;have g1:aA l k=some r:=g1;rw[hl]at g1;cases g1;have g2:m<=css.length:=g2;exact⟨_,rfl,by show m<=(css++eW sz (c-n)).length;omega⟩
     ·exact⟨r,g1,g2⟩
   inj:=fun k m j q b' t1 s1 t2 s2 h1 h2=>by
    rcases UN h1 with h1|⟨a1,_,a2,_,_⟩<;>rcases UN h2 with h2|⟨c1,_,c2,_,_⟩
    ·exact hw.inj _ _ _ _ _ _ _ _ _ h1 h2
    ·rw[c1];exact hw.inj _ _ _ _ _ _ _ _ _ h1 (c2 ▸ Th)
    ·rw[a1];exact hw.inj _ _ _ _ _ _ _ _ _ (a2 ▸ Th) h2
    ·rw[a1,c1]
   own:=fun k m b' t1 s1 h1=>by
    rcases UN h1 with h1|⟨_,_,a2,_,_⟩
    ·exact hw.own _ _ _ _ _ h1
    ·rw[a2];exact hw.own _ _ _ _ _ Th
   fin:=hw.fin }
  have V1:bq w1 (.rc i c sz n::rest) (.slice (some ⟨b,0,none⟩) n c::vr).toArray:=by
   refine⟨hv.1,fun k a v ha TO=>?_⟩;cases k with
   |zero=> cases ha;cases TO;exact .rc i c sz n b t (by show(if _ then _ else _)=_;rw[if_pos ⟨rfl,rfl⟩]) UK Ts Uz
   |succ k=>exact(hv.2 (k+1) a v ha TO).aU K1 (l6 a)
  refine((h c jB) w1 _ W1 V1).mono ?_;rintro ex W ⟨v,r,H2,w2,rfl,rfl,hR,g1,g2,g3⟩;have hB:H2.B=ids l:=g3.base.trans WQ;have Zy:∀k m z,(ids l).contains k=true->w.nm k m=some z->w2.nm k m=some z:=fun k m z hk hz=>g3.names k m z (by show(ids (bg l i _)).contains k=true;rw[WQ];exact hk) (TQ k m z hz)
  have hiL:(ids l).contains i=true:=qY hl;have Tr:∀b',b'<w.heap.size->w.O b'->(∀k m t s,w.nm k m≠some (.at b' t s))->w2.heap[b']?=w.heap[b']?/\w2.O b'/\∀k m t s,w2.nm k m≠some (.at b' t s):=fun b' h1 h2 h3=>g3.rest b' h1 h2 fun k m t1 s1 h4=>by
   rcases UN h4 with h4|⟨_,_,a2,_,_⟩
   ·exact h3 _ _ _ _ h4
   ·exact h3 _ _ _ _ (a2 ▸ Th)
  have Xo:∀m z,w.nm i m=some z->m<=n:=fun m z hz=>by obtain⟨r,q1,q2⟩:=hw.cU _ _ _ hz;have q1:aA l i=some r:=q1;rw[hl]at q1;cases q1;have q2:m<=css.length:=q2;omega
  have fin:∀(jj cc b3 t3 c3:Nat) (sp:S9),(jj=i\/aA l jj=none)->aA H2.l jj=some (.aF e sz (X++sp))->w2.nm jj (X++sp).length=some (.at b3 t3 sz)->c3*sz=t3->n+1<=c3->v=.slice (some ⟨b3,0,none⟩) (n+1) c3->(∀k,k≠i->k≠jj->aA H2.l k=aA l k)->
    ∃v' r' H' w',w2.toWorld=NW.toWorld w'/\Ending.returned v=.returned v'/\(r'=.rs i (n+1) sz (n+1)/\Hp.l H'=bg l i (.aF e sz X))/\aI w' H'/\aw w' r' v'/\fM w (entry l) w' H':=fun jj _ b3 t3 c3 sp hjj hg Wg hc3 hai ev Zz=>by
   have Yi:∀k,(ids l).contains k=true->k≠i->k≠jj:=fun k hk U0 e1=>by
    rcases hjj with e2|e2
    ·exact U0 (e1.trans e2)
    ·obtain⟨r,hr⟩:=zn hk;rw[e1,e2]at hr;cases hr
   let w3:NW:={ w2 with nm:=fun k m=>if k=i then(if m<=n then w.nm i m else if m=n+1 then some (.at b3 t3 sz)else none)else if k=jj then none else w2.nm k m }
   have n1:∀{m},m<=n->w3.nm i m=w.nm i m:=fun{m} hm=>by show(if i=i then(if m<=n then _ else _)else _)=_;rw[if_pos rfl,if_pos hm]
   have n2:w3.nm i (n+1)=some (.at b3 t3 sz):=by show(if i=i then(if n+1<=n then _ else if n+1=n+1 then _ else _)else _)=_;rw[if_pos rfl,jN,if_pos rfl]
   have n3:∀{k m},k≠i->k≠jj->w3.nm k m=w2.nm k m:=fun{k m} h1 h2=>by show(if k=i then _ else if k=jj then _ else _)=_;rw[if_neg h1,if_neg h2]
   have n4:∀{k m z},w3.nm k m=some z->(k≠i/\k≠jj/\w2.nm k m=some z)\/(k=i/\m<=n/\w.nm i m=some z)\/(k=i/\m=n+1/\z=.at b3 t3 sz):=fun{k m z} Ty=>by
    have Ty:(if k=i then(if m<=n then w.nm i m else if m=n+1 then some (.at b3 t3 sz)else none)else if k=jj then none else w2.nm k m)=some z:=Ty;by_cases e1:k=i
    ·rw[if_pos e1]at Ty;by_cases e2:m<=n
     ·rw[if_pos e2]at Ty;exact .inr (.inl ⟨e1,e2,Ty⟩)
     ·rw[if_neg e2]at Ty;by_cases e3:m=n+1
      ·rw[if_pos e3]at Ty;cases Ty;exact .inr (.inr ⟨e1,e3,rfl⟩)
      ·rw[if_neg e3]at Ty;cases Ty
    ·rw[if_neg e1]at Ty;by_cases e2:k=jj
     ·rw[if_pos e2]at Ty;cases Ty
     ·rw[if_neg e2]at Ty;exact .inl ⟨e1,e2,Ty⟩
   have n5:∀{m z},w.nm i m=some z->w2.nm i m=some z:=fun{m z} Ty=>Zy i m z hiL Ty
   have K3:Keep (fun j=>(ids l).contains j && !(j == i)) w2 w3:=zc (w:=w2) (w':=w3) rfl (fun _=>rfl) fun k m z hk Ty=>by simp at hk;rw[n3 hk.2 (Yi k (by simpa using hk.1) hk.2)];exact Ty
   obtain⟨_,z4,Xp,YK⟩:=g1.rows jj _ hg;have:z4=.at b3 t3 sz:=by have Xp:w2.nm jj (X++sp).length=some z4:=Xp;rw[Wg]at Xp;cases Xp;rfl
   subst this;obtain⟨_,cur4,hh4,⟨YL,Wh⟩,Wi⟩:=YK;have Wh:(X++sp).flatten.length<=t3:=Wh;have Wi:∀(x:Nat) a v,(X++sp).flatten[x]?=some a->cur4[x]?=some v->aw w2 a v:=Wi;refine⟨v,_,⟨ids l,bg l i (.aF e sz X)⟩,w3,rfl,rfl,⟨rfl,rfl⟩,?_,?_,?_⟩
   ·exact{
     bO:=g1.bO
     rows:=fun k r hk=>by
      have hk:aA (bg l i (.aF e sz X)) k=some r:=hk;rw[bF]at hk;by_cases e1:k=i
      ·rw[if_pos e1]at hk;have hk:=Option.some.inj hk;subst hk;subst e1;refine⟨⟨Uz,Zw⟩,.at b3 t3 sz,?_,rfl,cur4,hh4,⟨YL,?_⟩,fun x a v ha hv=>?_⟩
       ·show w3.nm k X.length=_;rw[hX];exact n2
       ·show X.flatten.length<=t3;rw[List.flatten_append,List.length_append]at Wh;omega
       ·have ha:X.flatten[x]?=some a:=ha;have O':=(List.getElem?_eq_some_iff.1 ha).1;refine(Wi x a v ?_ hv).aU K3 (k8 Zv ha);rw[List.flatten_append,List.getElem?_append_left O'];exact ha
      ·rw[if_neg e1]at hk;have hj:=Yi k (qY hk) e1;obtain⟨q1,z,q2,q3⟩:=g1.rows k r (by show aA H2.l k=_;rw[Zz k e1 hj];exact hk);exact⟨q1,z,by rw[n3 e1 hj];exact q2,q3.nV rfl K3 (hq k r hk e1)⟩
     cU:=fun k m z Ty=>by
      show∃r,aA (bg l i _) k=some r/\m<=r.fB;rw[bF];rcases n4 Ty with⟨e1,e2,Ty⟩|⟨e1,e2,_⟩|⟨e1,e2,_⟩
      ·rw[if_neg e1];obtain⟨r,q1,q2⟩:=g1.cU k m z Ty;have q1:aA H2.l k=some r:=q1;rw[Zz k e1 e2]at q1;exact⟨r,q1,q2⟩
      ·rw[if_pos e1];exact⟨_,rfl,by show m<=X.length;omega⟩
      ·rw[if_pos e1];exact⟨_,rfl,by show m<=X.length;omega⟩
     inj:=fun k m k' m' b' t1 s1 t2 s2 h1 h2=>by
      rcases n4 h1 with⟨a1,a2,h1⟩|⟨a1,a2,h1⟩|⟨a1,a2,h1⟩<;>rcases n4 h2 with⟨c1,c2,h2⟩|⟨c1,c2,h2⟩|⟨c1,c2,h2⟩
      ·exact g1.inj _ _ _ _ _ _ _ _ _ h1 h2
      ·rw[c1];exact g1.inj _ _ _ _ _ _ _ _ _ h1 (n5 h2)
      ·cases h2;exact(a2 (g1.inj _ _ _ _ _ _ _ _ _ h1 Wg)).elim
      ·rw[a1];exact g1.inj _ _ _ _ _ _ _ _ _ (n5 h1) h2
      ·rw[a1,c1]
      ·rw[a1,c1]
      ·cases h1;exact(c2 (g1.inj _ _ _ _ _ _ _ _ _ h2 Wg)).elim
      ·rw[a1,c1]
      ·rw[a1,c1]
     own:=fun k m b' t1 s1 h1=>by
      rcases n4 h1 with⟨a1,a2,h1⟩|⟨a1,a2,h1⟩|⟨a1,a2,h1⟩
      ·exact g1.own _ _ _ _ _ h1
      ·exact g1.own _ _ _ _ _ (n5 h1)
      ·cases h1;exact g1.own _ _ _ _ _ Wg
     fin:=g1.fin }
   ·rw[ev];exact .rs i (n+1) sz (n+1) b3 t3 c3 n2 hc3 hai Uz
   ·exact{
     size:=g3.size
     free:=g3.free
     names:=fun k m z hk Ty=>by
      have hk:(ids l).contains k=true:=hk;by_cases e1:k=i
      ·subst e1;rw[n1 (Xo m z Ty)];exact Ty
      ·rw[n3 e1 (Yi k hk e1)];exact Zy k m z hk Ty
     os:=g3.os,tape:=g3.tape,output:=g3.output
     rest:=fun b' h1 h2 h3=>by
      obtain⟨q1,q2,q3⟩:=Tr b' h1 h2 h3;refine⟨q1,q2,fun k m t1 s1 h4=>?_⟩;rcases n4 h4 with⟨a1,a2,h4⟩|⟨a1,a2,h4⟩|⟨a1,a2,h4⟩
      ·exact q3 _ _ _ _ h4
      ·exact h3 _ _ _ _ h4
      ·cases h4;exact q3 _ _ _ _ Wg
     base:=rfl }
  rcases hR with⟨hc,rfl,Tm⟩|⟨hc,j,hj,rfl,Tm⟩
  ·generalize V2:c=c' at g2;generalize YM:n+1=n1 at g2;cases g2 with
   |rc _ _ _ _ b3 t3 q1 q2 q3 q4=>
    subst V2 YM;have hlX:(X++eW sz (c-(n+1))).length=c:=by rw[List.length_append,uB];omega
    refine fin i c b3 t3 c (eW sz (c-(n+1))) (.inl rfl) ?_ (by rw[hlX];exact q1) q2 hc rfl fun k h1 _=>?_
    ·rw[Tm,bF,if_pos rfl]
    ·rw[Tm,bF,if_neg h1]
  ·have Vd:j≠i:=fun e1=>by rw[e1,hl]at hj;cases hj
   have lget_app2:∀(l m:TA) (i:Nat),aA (l++m) i=(aA l i).or (aA m i):=fun l m i=>by
    induction l with
    |nil=>rfl
    |cons x l ih=>
     obtain⟨k,r⟩:=x;simp only[List.cons_append,aA];split
     ·rfl
     ·exact ih
   have hga:∀k,aA (l++[(j,Row.aF e sz X)]) k=(aA l k).or (if k=j then some (.aF e sz X)else none):=fun k=>by rw[lget_app2];rfl
   generalize YM:n+1=n1 at g2;cases g2 with
   |iA _ _ _ A q1=>omega
   |rs _ _ _ _ b3 t3 c3 q1 q2 q3 q4=>
    subst YM;refine fin j (n+1) b3 t3 c3 [] (.inr hj) ?_ (by rw[List.append_nil,hX];exact q1) q2 q3 rfl fun k h1 h2=>?_
    ·rw[Tm,hga,hj,if_pos rfl,List.append_nil];rfl
    ·rw[Tm,hga,if_neg h2];cases aA l k<;>rfl
def ab.wz{e:TG}(j:Nat)(hn:0<css.length)(hl:aA l i=some (.aF e sz css))(XK:n=css.length)(hq:∀k r,aA l k=some r->k≠i->aW (fun j=>(ids l).contains j && !(j == i)) r.cells=true)(hX:X.length=n+1)(Zv:aW (fun j=>(ids l).contains j && !(j == i)) X.flatten=true)(Zw:∀x∈X,x.length=sz)(hj:aA l j=none)
  (ha:ab P f (.rc i n sz n::rest) (bg l i (.aF e sz css)) fun r l'=>r=.rs j (n+1) sz (n+1)/\l'=l++[(j,.aF e sz X)])
  (hb:∀c,n+1<=c->ab P f (.rc i c sz n::rest) (bg l i (.aF e sz (css++eW sz (c-n)))) fun r l'=>r=.rc i c sz (n+1)/\l'=bg l i (.aF e sz (X++eW sz (c-(n+1))))) :
  ab P f (.rs i n sz n::rest) l fun r l'=>r=.rs i (n+1) sz (n+1)/\l'=bg l i (.aF e sz X):=ab.room hn hl XK hq hX Zv Zw fun c hc=>by
 by_cases W5:c=n
 ·subst W5;rw[Nat.sub_self,show eW sz 0=[] from rfl,List.append_nil];exact ha.mono fun r l' h=>.inr ⟨rfl,j,hj,h.1,h.2⟩
 ·exact(hb c jB).mono fun r l' h=>.inl ⟨jB,h.1,h.2⟩
variable {P:TL}{H:Hp}
def S2{e:TG}{x:AV}{c:Prop}(hd:H.get d=some (.aF e sz css))(hm:m=css.length)(ht:ij P t=some e)(UW:de P e=some sz)(WI:dM P e=some zs)(VC:zs.length=sz)(h0:0<sz)
  (VH:tE H x=some (c,ys)) (hc:c) (hg:Good sz ys) (T1:n+ys.length<=m) (hk:K (.rc d m sz (n+ys.length)) (H.put d (.aF e sz (dr css n ys)))):p6 P t t (.rc d m sz n) x H K:=by
 subst hm;intro w va vx ty hw Vo YB;have hu:=sF ht;obtain⟨i,z,hi,TS,Vv,W4,Xg⟩:=tG UW WI VC;obtain⟨A,cx,news,rfl,TU,Us⟩:=zA hw YB VH hc hg;have Ux:ys.flatten.length=ys.length*sz:=gh fun y hy=>(hg y hy).1
 have Vb:news.length=ys.length*sz:=by rw[<-TU.1,Ux]
 have UZ:cI ys.flatten=true:=by simp only[cI,List.all_eq_true];intro u WJ;obtain⟨y,hy,XG⟩:=List.mem_flatten.1 WJ;have:=(hg y hy).2;simp only[cI,List.all_eq_true]at this;exact this u XG
 have hok:=(hw.rows d _ hd).1;have Tx:∀cs∈dr css n ys,cs.length=sz:=fun cs h=>by
  unfold dr at h;rcases List.mem_append.1 h with h|h
  ·rcases List.mem_append.1 h with h|h
   ·exact hok.2 _ (List.mem_of_mem_take h)
   ·exact(hg cs h).1
  ·exact hok.2 _ (List.mem_of_mem_drop h)
 have Tm:(dr css n ys).length=css.length:=by rw[ur ys jB,Nat.max_eq_left jB]
 have hf:(Builtin.firstCells i.size ys.length (.slice A ys.length cx)).run P w.toWorld=.ok news.toArray w.toWorld:=by
  by_cases h0:ys.length=0
  ·have:news=[]:=by have:=Vb;rw[h0,Nat.zero_mul]at this;simpa using this
   subst this;rw[h0];cases A<;>simp[Builtin.firstCells,loadCells,loadCellsFrom]
  ·obtain⟨ad,rfl,D'⟩:=Us jB;exact run_firstCells_some (P:=P) w.toWorld i.size ys.length ad ys.length cx news (by rw[TS];exact Vb) D'
 rw[TS]at hf;cases Vo with
 |rc _ _ _ _ b t' Th UK Ts Uz=>
  obtain⟨_,z',T2,Tp⟩:=hw.rows d _ hd;have:z'=.at b t' sz:=by have T2:w.nm d css.length=some z':=T2;rw[Th]at T2;cases T2;rfl
  subst this;obtain⟨_,cur,hh,⟨Ug,Tc⟩,Vh⟩:=Tp;have UP:n*sz+ys.flatten.length<=t':=by rw[Ux,<-Nat.add_mul,<-UK];exact Nat.mul_le_mul_right _ T1
  obtain⟨w',B',g1,g2,g3⟩:=tg (P:=P) (off:=n*sz) (r':=.aF e sz (dr css n ys)) hw hd Th TU UZ UP rfl rfl rfl rfl (by show css.length<=(dr css n ys).length;rw[Tm];exact Nat.le_refl _) ⟨h0,Tx⟩ (by show(dr css n ys).flatten.length<=t';rw[gh Tx,Tm,UK];exact Nat.le_refl _) (fun p u hp=>C2 hok.2 (fun c hc=>(hg c hc).1) jB hp);refine⟨w',_,_,.slice (some ⟨b,0,none⟩) (n+ys.length) css.length,?_,hk,g1,?_,g2⟩
  ·have WK:(⟨b,0,none⟩:Addr).add (n*sz)=⟨b,n*sz,none⟩:=by rw[je];simp
   simp[Builtin.append_,run_underlying hu,sizeOf,typeInfo,hi,Builtin.lenOf,T1,hf,TS,WK,B']
  ·exact .rc d css.length sz _ b t' (by have g3:w'.nm d (dr css n ys).length=some (.at b t' sz):=g3;rwa [Tm]at g3) UK T1 Uz
def ab.wO{e:TG}{q:Nat}(hn:0<css.length)(hl:aA l i=some (.aF e sz css))(XK:n=css.length)(hq:∀k r,aA l k=some r->k≠i->aW (fun j=>(ids l).contains j && !(j == i)) r.cells=true)(hX:X.length=n)(Zv:aW (fun j=>(ids l).contains j && !(j == i)) X.flatten=true)(Zw:∀x∈X,x.length=sz)
  (h:∀c,n<=c->ab P f (.rc i c sz n::rest) (bg l i (.aF e sz (css++eW sz (c-n)))) fun r l'=>r=.rc i c sz q/\l'=bg l i (.aF e sz (X++eW sz (c-n)))) :
  ab P f (.rs i n sz n::rest) l fun r l'=>r=.rs i n sz q/\l'=bg l i (.aF e sz X):=fun w vs hw hv=>by
 obtain⟨v0,vr,rfl⟩:∃v0 vr,vs=(v0::vr).toArray:=by
  have:=hv.1;obtain⟨vl⟩:=vs;match vl,this with
  |v0::vr,_=>exact⟨v0,vr,rfl⟩
 have h0:aw w (.rs i n sz n) v0:=hv.2 0 _ v0 rfl rfl;have Tp:=hw.rows i _ hl;obtain⟨⟨Uz,Tu⟩,z,hz,hrw⟩:=Tp;have hz:w.nm i css.length=some z:=hz;rw[<-XK]at hz;generalize Y5:n=n' at h0;cases h0 with
 |iA _ _ _ A Th=>omega
 |rs _ _ _ _ b t c Th UK Ts _=>
  subst Y5;have:z=.at b t sz:=by rw[Th]at hz;cases hz;rfl
  subst this;obtain⟨_,cur,hh,⟨Ug,Tc⟩,Vh⟩:=hrw;have Tc:css.flatten.length<=t:=Tc;have Vh:∀(x:Nat) a v,css.flatten[x]?=some a->cur[x]?=some v->aw w a v:=Vh
  -- the names, with one more
  let w1:NW:={ w with nm:=fun k m=>if k=i/\m=c then some (.at b t sz)else w.nm k m }
  have TQ:∀k m z,w.nm k m=some z->w1.nm k m=some z:=fun k m z Ty=>by
   show(if k=i/\m=c then _ else _)=_;by_cases hc:k=i/\m=c
   ·rw[if_pos hc];rw[hc.1,hc.2]at Ty;obtain⟨r,g1,g2⟩:=hw.cU _ _ _ Ty;have g1:aA l i=some r:=g1;rw[hl]at g1;cases g1;have g2:c<=css.length:=g2;have e2:c=n:=jB;rw[e2,Th]at Ty;exact Ty
   ·rw[if_neg hc];exact Ty
  have UN:∀{k m b' t' s'},w1.nm k m=some (.at b' t' s')->w.nm k m=some (.at b' t' s')\/(k=i/\m=c/\b'=b/\t'=t/\s'=sz):=fun{k m b' t' s'} h=>by
   have h:(if k=i/\m=c then some (.at b t sz)else w.nm k m)=some (.at b' t' s'):=h;split at h
   ·rename_i hc;cases h;exact .inr ⟨hc.1,hc.2,rfl,rfl,rfl⟩
   ·exact .inl h
  have K1:Keep pT w w1:=zc (w:=w) (w':=w1) rfl (fun _=>rfl) fun k m z _ Ty=>TQ k m z Ty
  have Vm:(css++eW sz (c-n)).length=c:=by rw[List.length_append,uB];omega
  have hah:(css++eW sz (c-n)).flatten.length=c*sz:=by
   rw[gh (sz:=sz),Vm];intro x hx;rcases List.mem_append.1 hx with hx|hx
   ·exact Tu x hx
   ·rw[List.eq_of_mem_replicate hx];simp
  have WQ:ids (bg l i (.aF e sz (css++eW sz (c-n))))=ids l:=Az hl;have W1:aI w1 (entry (bg l i (.aF e sz (css++eW sz (c-n))))):={
   bO:=hw.bO
   rows:=fun k r hk=>by
    have hk:aA (bg l i (.aF e sz (css++eW sz (c-n)))) k=some r:=hk;rw[bF]at hk;by_cases e1:k=i
    ·rw[if_pos e1]at hk;have hk:=Option.some.inj hk;subst hk;subst e1;refine⟨⟨Uz,fun x hx=>?_⟩,.at b t sz,?_,rfl,cur,hh,⟨Ug,by show(css++eW sz (c-n)).flatten.length<=t;omega⟩,fun x a v ha hv=>?_⟩
     ·rcases List.mem_append.1 hx with hx|hx
      ·exact Tu x hx
      ·rw[List.eq_of_mem_replicate hx];simp
     ·show(if _ then _ else _)=_;rw[if_pos ⟨rfl,Vm⟩]
     ·have ha:(css++eW sz (c-n)).flatten[x]?=some a:=ha;rw[List.flatten_append]at ha;rcases Nat.lt_or_ge x css.flatten.length with hx|hx
      ·rw[List.getElem?_append_left hx]at ha;exact(Vh x a v ha hv).aU K1 (l6 a)
      ·rw[List.getElem?_append_right hx]at ha;have:a=.any:=by
        have:=List.mem_of_getElem? ha;obtain⟨y,hy,Zx⟩:=List.mem_flatten.1 this;rw[List.eq_of_mem_replicate hy]at Zx;exact List.eq_of_mem_replicate Zx
       subst this;exact .any v
    ·rw[if_neg e1]at hk;obtain⟨g1,z,g2,g3⟩:=hw.rows k r hk;refine⟨g1,z,TQ _ _ _ g2,?_⟩;exact g3.nV rfl K1 (uh _)
   cU:=fun k m z hk=>by
    have hk:(if k=i/\m=c then some (.at b t sz)else w.nm k m)=some z:=hk;show∃r,aA (bg l i _) k=some r/\m<=r.fB;rw[bF];split at hk
    ·rename_i hc;rw[if_pos hc.1];exact⟨_,rfl,by show m<=(css++eW sz (c-n)).length;rw[Vm,hc.2];exact Nat.le_refl _⟩
    ·obtain⟨r,g1,g2⟩:=hw.cU k m z hk;split
     ·rename_i e1;subst e1;have g1:aA l k=some r:=g1;rw[hl]at g1;cases g1;have g2:m<=css.length:=g2;exact⟨_,rfl,by show m<=(css++eW sz (c-n)).length;omega⟩
     ·exact⟨r,g1,g2⟩
   inj:=fun k m j q b' t1 s1 t2 s2 h1 h2=>by
    rcases UN h1 with h1|⟨a1,_,a2,_,_⟩<;>rcases UN h2 with h2|⟨c1,_,c2,_,_⟩
    ·exact hw.inj _ _ _ _ _ _ _ _ _ h1 h2
    ·rw[c1];exact hw.inj _ _ _ _ _ _ _ _ _ h1 (c2 ▸ Th)
    ·rw[a1];exact hw.inj _ _ _ _ _ _ _ _ _ (a2 ▸ Th) h2
    ·rw[a1,c1]
   own:=fun k m b' t1 s1 h1=>by
    rcases UN h1 with h1|⟨_,_,a2,_,_⟩
    ·exact hw.own _ _ _ _ _ h1
    ·rw[a2];exact hw.own _ _ _ _ _ Th
   fin:=hw.fin }
  have V1:bq w1 (.rc i c sz n::rest) (.slice (some ⟨b,0,none⟩) n c::vr).toArray:=by
   refine⟨hv.1,fun k a v ha TO=>?_⟩;cases k with
   |zero=> cases ha;cases TO;exact .rc i c sz n b t (by show(if _ then _ else _)=_;rw[if_pos ⟨rfl,rfl⟩]) UK Ts Uz
   |succ k=>exact(hv.2 (k+1) a v ha TO).aU K1 (l6 a)
  refine((h c jB) w1 _ W1 V1).mono ?_;rintro ex W ⟨v,r,H2,w2,rfl,rfl,hR,g1,g2,g3⟩;have hB:H2.B=ids l:=g3.base.trans WQ;have Zy:∀k m z,(ids l).contains k=true->w.nm k m=some z->w2.nm k m=some z:=fun k m z hk hz=>g3.names k m z (by show(ids (bg l i _)).contains k=true;rw[WQ];exact hk) (TQ k m z hz)
  have hiL:(ids l).contains i=true:=qY hl;have Tr:∀b',b'<w.heap.size->w.O b'->(∀k m t s,w.nm k m≠some (.at b' t s))->w2.heap[b']?=w.heap[b']?/\w2.O b'/\∀k m t s,w2.nm k m≠some (.at b' t s):=fun b' h1 h2 h3=>g3.rest b' h1 h2 fun k m t1 s1 h4=>by
   rcases UN h4 with h4|⟨_,_,a2,_,_⟩
   ·exact h3 _ _ _ _ h4
   ·exact h3 _ _ _ _ (a2 ▸ Th)
  have Xo:∀m z,w.nm i m=some z->m<=n:=fun m z hz=>by obtain⟨r,q1,q2⟩:=hw.cU _ _ _ hz;have q1:aA l i=some r:=q1;rw[hl]at q1;cases q1;have q2:m<=css.length:=q2;omega
  obtain⟨rfl,Tm⟩:=hR;have hlX:(X++eW sz (c-n)).length=c:=by rw[List.length_append,uB];omega
  have hg:aA H2.l i=some (.aF e sz (X++eW sz (c-n))):=by rw[Tm,bF,if_pos rfl]
  have Zz:∀k,k≠i->aA H2.l k=aA l k:=fun k h1=>by rw[Tm,bF,if_neg h1]
  have hnc:w2.nm i c=some (.at b t sz):=g3.names i c _ (by show(ids (bg l i _)).contains i=true;rw[WQ];exact hiL) (by show(if _ then _ else _)=_;rw[if_pos ⟨rfl,rfl⟩]);let w3:NW:={ w2 with nm:=fun k m=>if k=i then(if m<=n then w.nm i m else none)else w2.nm k m }
  have n1:∀{m},m<=n->w3.nm i m=w.nm i m:=fun{m} hm=>by show(if i=i then(if m<=n then _ else _)else _)=_;rw[if_pos rfl,if_pos hm]
  have n3:∀{k m},k≠i->w3.nm k m=w2.nm k m:=fun{k m} h1=>by show(if k=i then _ else _)=_;rw[if_neg h1]
  have n4:∀{k m z},w3.nm k m=some z->(k≠i/\w2.nm k m=some z)\/(k=i/\m<=n/\w.nm i m=some z):=fun{k m z} Ty=>by
   have Ty:(if k=i then(if m<=n then w.nm i m else none)else w2.nm k m)=some z:=Ty;by_cases e1:k=i
   ·rw[if_pos e1]at Ty;by_cases e2:m<=n
    ·rw[if_pos e2]at Ty;exact .inr ⟨e1,e2,Ty⟩
    ·rw[if_neg e2]at Ty;cases Ty
   ·rw[if_neg e1]at Ty;exact .inl ⟨e1,Ty⟩
  have n5:∀{m z},w.nm i m=some z->w2.nm i m=some z:=fun{m z} Ty=>Zy i m z hiL Ty
  have K3:Keep (fun j=>(ids l).contains j && !(j == i)) w2 w3:=zc (w:=w2) (w':=w3) rfl (fun _=>rfl) fun k m z hk Ty=>by simp at hk;rw[n3 hk.2];exact Ty
  obtain⟨_,z4,Xp,YK⟩:=g1.rows i _ hg;have:z4=.at b t sz:=by have Xp:w2.nm i (X++eW sz (c-n)).length=some z4:=Xp;rw[hlX,hnc]at Xp;cases Xp;rfl
  subst this;obtain⟨_,cur4,hh4,⟨YL,Wh⟩,Wi⟩:=YK;have Wh:(X++eW sz (c-n)).flatten.length<=t:=Wh;have Wi:∀(x:Nat) a v,(X++eW sz (c-n)).flatten[x]?=some a->cur4[x]?=some v->aw w2 a v:=Wi;refine⟨v,_,⟨ids l,bg l i (.aF e sz X)⟩,w3,rfl,rfl,⟨rfl,rfl⟩,?_,?_,?_⟩
  ·exact{
    bO:=g1.bO
    rows:=fun k r hk=>by
     have hk:aA (bg l i (.aF e sz X)) k=some r:=hk;rw[bF]at hk;by_cases e1:k=i
     ·rw[if_pos e1]at hk;have hk:=Option.some.inj hk;subst hk;subst e1;refine⟨⟨Uz,Zw⟩,.at b t sz,?_,rfl,cur4,hh4,⟨YL,?_⟩,fun x a v ha hv=>?_⟩
      ·show w3.nm k X.length=_;rw[hX,n1 jl];exact Th
      ·show X.flatten.length<=t;rw[List.flatten_append,List.length_append]at Wh;omega
      ·have ha:X.flatten[x]?=some a:=ha;have O':=(List.getElem?_eq_some_iff.1 ha).1;refine(Wi x a v ?_ hv).aU K3 (k8 Zv ha);rw[List.flatten_append,List.getElem?_append_left O'];exact ha
     ·rw[if_neg e1]at hk;obtain⟨q1,z,q2,q3⟩:=g1.rows k r (by show aA H2.l k=_;rw[Zz k e1];exact hk);exact⟨q1,z,by rw[n3 e1];exact q2,q3.nV rfl K3 (hq k r hk e1)⟩
    cU:=fun k m z Ty=>by
     show∃r,aA (bg l i _) k=some r/\m<=r.fB;rw[bF];rcases n4 Ty with⟨e1,Ty⟩|⟨e1,e2,_⟩
     ·rw[if_neg e1];obtain⟨r,q1,q2⟩:=g1.cU k m z Ty;have q1:aA H2.l k=some r:=q1;rw[Zz k e1]at q1;exact⟨r,q1,q2⟩
     ·rw[if_pos e1];exact⟨_,rfl,by show m<=X.length;omega⟩
    inj:=fun k m k' m' b' t1 s1 t2 s2 h1 h2=>by
     rcases n4 h1 with⟨a1,h1⟩|⟨a1,a2,h1⟩<;>rcases n4 h2 with⟨c1,h2⟩|⟨c1,c2,h2⟩
     ·exact g1.inj _ _ _ _ _ _ _ _ _ h1 h2
     ·rw[c1];exact g1.inj _ _ _ _ _ _ _ _ _ h1 (n5 h2)
     ·rw[a1];exact g1.inj _ _ _ _ _ _ _ _ _ (n5 h1) h2
     ·rw[a1,c1]
    own:=fun k m b' t1 s1 h1=>by
     rcases n4 h1 with⟨a1,h1⟩|⟨a1,a2,h1⟩
     ·exact g1.own _ _ _ _ _ h1
     ·exact g1.own _ _ _ _ _ (n5 h1)
    fin:=g1.fin }
  ·generalize V2:c=c' at g2;cases g2 with
   |rc _ _ _ _ b3 t3 q1 q2 q3 q4=> subst V2;rw[hnc]at q1;cases q1;exact .rs i n sz q b t c (by rw[n1 jl];exact Th) q2 q3 Uz
  ·exact{
    size:=g3.size
    free:=g3.free
    names:=fun k m z hk Ty=>by
     have hk:(ids l).contains k=true:=hk;by_cases e1:k=i
     ·subst e1;rw[n1 (Xo m z Ty)];exact Ty
     ·rw[n3 e1];exact Zy k m z hk Ty
    os:=g3.os,tape:=g3.tape,output:=g3.output
    rest:=fun b' h1 h2 h3=>by
     obtain⟨q1,q2,q3⟩:=Tr b' h1 h2 h3;refine⟨q1,q2,fun k m t1 s1 h4=>?_⟩;rcases n4 h4 with⟨a1,h4⟩|⟨a1,a2,h4⟩
     ·exact q3 _ _ _ _ h4
     ·exact h3 _ _ _ _ h4
    base:=rfl }
section
variable {P:TL}{H:Hp}
def yx(z:Value)(k:Nat):Builtin.zeroCells #[z] k=(List.replicate k z).toArray:=by
 apply Array.ext
 ·simp[Builtin.zeroCells]
 ·intro i h1 h2;simp[Builtin.zeroCells,Nat.mod_one]
def MT(w:NW)(z:Value):∀k,cd w (List.replicate k [AV.raw z]).flatten (List.replicate k z):=fun k=>by
 have:(List.replicate k [AV.raw z]).flatten=(List.replicate k z).map .raw:=by simp[List.flatten_replicate_singleton]
 rw[this];refine⟨jE,fun i a v ha hv=>?_⟩;rw[List.getElem?_map,hv]at ha;simp at ha;subst ha;exact .raw _
def La{t t' e:TG}{d m n k:Nat}{z0:Value}{css:S9}{K:S8}(hu:P.underlying t=some (.slice e))(WJ:∃d,P.underlying t'=some (.int d))(Ti:de P e=some 1)(hz:dM P e=some [z0])(Ty:z0.oneCell'=true)
  (hd:H.get d=some (.aF e 1 css)) (hm:m=css.length) (hn:n=css.length) (Ut:room (ki P e) (css.length+k)) (hk:K (.rs d (css.length+k) 1 (css.length+k)) (H.put d (.aF e 1 (css++List.replicate k [.raw z0])))):p6 P t t' (.rs d m 1 n) (.raw (.int .i64 k)) H K:=by
 subst hm hn;intro w va vx ty hw Vo YB;have:=db YB;subst this;obtain⟨dk,XU⟩:=WJ;obtain⟨i,z,hi,TS,Vv,W4,Xg⟩:=tG Ti hz rfl;obtain⟨Vy,WO⟩:=Ut;rw[Xg]at Vy;have Wn:z.cells=#[z0]:=by unfold dM at hz;rw[hi]at hz;simp only[Option.bind_some,Vv,Option.map_some,Option.some.injEq]at hz;rw[<-Array.toList_inj,hz]
 have Vp:∀need old,need<=grownCap w.toWorld need old e:=fun need old=>by unfold grownCap Question.cut;simp
 have ZA:∀m,(Builtin.zeroCells z.cells m).size=m*1:=fun m=>by rw[Wn,yx];simp
 have hok:=(hw.rows d _ hd).1;have Tx:∀cs∈css++List.replicate k [AV.raw z0],cs.length=1:=fun cs h=>by
  rcases List.mem_append.1 h with h|h
  ·exact hok.2 cs h
  ·rw[List.eq_of_mem_replicate h];rfl
 have TU:=MT w z0 k;have W7:IntKind.i64.wrap (k:Int)=k:=by
  have:IntKind.i64.wrap (k:Int)=(k:Int):=by unfold IntKind.wrap;simp[IntKind.bits,IntKind.signed];omega
  exact this
 have UN:¬(281474976710656<(k:Int)*i.bytes):=by have:k*i.bytes<=(css.length+k)*i.bytes:=Nat.mul_le_mul_right _ jB;have h2:((k*i.bytes:Nat):Int)<=140737488355328:=jB;rw[Int.natCast_mul]at h2;omega
 have Wg:¬((k:Int)<0):=jB;have Tm:(css++List.replicate k [AV.raw z0]).length=css.length+k:=jE;have Vg:=gh hok.2;generalize Y6:css.length=l at*;cases Vo with
 |iA _ _ _ A Th=>
  obtain⟨_,z',T2,Tp⟩:=hw.rows d _ hd;have:z'=.nil:=by have T2:w.nm d css.length=some z':=T2;rw[Y6,Th]at T2;cases T2;rfl
  subst this;obtain⟨e2,sz3,Tp⟩:=Tp;cases Tp;simp only[List.length_nil]at Y6;by_cases Tt:k=0
  ·subst Tt;refine⟨w,_,_,.slice A 0 0,?_,hk,?_,.iA _ _ _ _ Th,?_⟩
   ·have Y7:IntKind.i64.wrap 0=0:=W7;cases A<;>simp[Builtin.append_,run_underlying hu,run_underlying XU,sizeOf,typeInfo,hi,asInt,asIntOf,Y7,storeCells]
   ·refine{ hw with rows:=fun j r hj=>?_,cU:=fun j q z hz=>?_ }
    ·rw[Hp.bj]at hj;split at hj
     ·rename_i e;subst e;exact hw.rows j r (by rw[hd];exact hj)
     ·exact hw.rows j r hj
    ·rw[Hp.bj];split
     ·rename_i e;subst e;obtain⟨r,g1,g2⟩:=hw.cU j q z hz;rw[hd]at g1;cases g1;exact⟨_,rfl,g2⟩
     ·exact hw.cU j q z hz
   ·exact{ Ext.refl w H with base:=rfl }
  ·simp only[List.nil_append,Nat.zero_add]at hk Tx Tm Vy WO;obtain⟨w',e1,g1,g2,g3⟩:=sA (i:=d) (e:=e) (cap:=grownCap w.toWorld k 0 e) (css:=List.replicate k [AV.raw z0]) (rest:=Builtin.zeroCells z.cells (grownCap w.toWorld k 0 e-k)) hw jC Tx TU (by rw[Tm];exact Vp _ _) (by rw[Tm];exact ZA _) (hw.later hd (by show([]:S9).length<_;rw[Tm];simp;omega)) (fun r hr=>by rw[hd]at hr;cases hr;exact Nat.zero_le _);rw[Tm]at g3;refine⟨w',_,_,_,?_,by simpa using hk,g1,by simpa using g3,g2⟩;rw[e1];have Uf:¬(k=0):=Tt;have Vs:¬(9223372036854775807<(k:Int)):=jB;have Vl:¬(281474976710656<Builtin.nextslicecap k 0*i.bytes):=by rw[nextslicecap_zero jB];omega
   cases A<;>simp[Builtin.append_,run_underlying hu,run_underlying XU,sizeOf,typeInfo,zeroValue,hi,Vv,TS,asInt,asIntOf,W7,UN,Vl,Uf,Vs,Wg,Question.forced,newRow,grownCap,Builtin.firstCells,loadCells,loadCellsFrom,Wn,yx]
 |rs _ _ _ _ b t' cap Th UK Ts Uz=>
  obtain⟨_,z',T2,Tp⟩:=hw.rows d _ hd;have:z'=.at b t' 1:=by have T2:w.nm d css.length=some z':=T2;rw[Y6,Th]at T2;cases T2;rfl
  subst this;obtain⟨_,cur,hh,⟨Ug,Tc⟩,Vh⟩:=Tp;have hh:w.heap[b]?=some (.cells cur e (0,0)):=hh;have Tc:css.flatten.length<=t':=Tc;have UZ:cI (List.replicate k [AV.raw z0]).flatten=true:=by
   have:(List.replicate k [AV.raw z0]).flatten=(List.replicate k z0).map .raw:=by simp[List.flatten_replicate_singleton]
   rw[this];simp[cI,AV.one,Ty]
  have Vc:(List.replicate k [AV.raw z0]).flatten.length=k:=jE;by_cases T1:l+k<=cap
  ·obtain⟨w',B',g1,g2,g3⟩:=tg (P:=P) (off:=l) (r':=.aF e 1 (css++List.replicate k [.raw z0])) hw hd (by show w.nm d css.length=_;rw[Y6];exact Th) TU UZ (by rw[Vc];omega) rfl rfl rfl rfl (by show css.length<=(css++_).length;simp) ⟨jC,Tx⟩ (by show(css++List.replicate k [AV.raw z0]).flatten.length<=t';rw[gh Tx,Tm];omega) (fun p u hp=>by
     have hp:(css++List.replicate k [AV.raw z0]).flatten[p]?=some u:=hp;rw[List.flatten_append]at hp;show if _ then _ else css.flatten[p]?=some u
     rcases Nat.lt_or_ge p l with h|h
     ·rw[jN];rw[List.getElem?_append_left jB]at hp;exact hp
     ·rw[List.getElem?_append_right jB]at hp;have O':=(List.getElem?_eq_some_iff.1 hp).1;rw[if_pos ⟨h,jB⟩];rw[<-hp];congr 1;omega)
   refine⟨w',_,_,.slice (some ⟨b,0,none⟩) (l+k) cap,?_,hk,g1,?_,g2⟩
   ·have WK:(⟨b,0,none⟩:Addr).add l=⟨b,l,none⟩:=by rw[je];simp
    by_cases Tt:k=0
    ·subst Tt;have Y7:IntKind.i64.wrap 0=0:=W7;have ZB:(storeCells ⟨b,l,none⟩ []).run P w.toWorld=.ok () w'.toWorld:=B';have Xl:l<=cap:=jB;simp[Builtin.append_,run_underlying hu,run_underlying XU,sizeOf,typeInfo,hi,TS,asInt,asIntOf,Y7,Xl,WK,ZB]
    ·simp[Builtin.append_,run_underlying hu,run_underlying XU,sizeOf,typeInfo,zeroValue,hi,Vv,TS,asInt,asIntOf,W7,UN,Wg,T1,Tt,WK,Wn,yx,B']
   ·have g3:w'.nm d (css++List.replicate k [AV.raw z0]).length=some (.at b t' 1):=g3;rw[Tm]at g3;exact .rs d _ 1 _ b t' cap g3 UK T1 jC
  ·have hold:cd w css.flatten (cur.toList.take l):=by
    refine⟨by simp only[List.length_take,Array.length_toList];omega,fun j a v Ye hv=>?_⟩;rw[List.getElem?_take]at hv;split at hv
    ·exact Vh j a v Ye (by simpa using hv)
    ·cases hv
   have Tu:=hold.append TU;rw[<-List.flatten_append]at Tu;obtain⟨w',e1,g1,g2,g3⟩:=sA (i:=d) (e:=e) (cap:=grownCap w.toWorld (l+k) cap e) (css:=css++List.replicate k [AV.raw z0]) (rest:=Builtin.zeroCells z.cells (grownCap w.toWorld (l+k) cap e-(l+k))) hw jC Tx Tu (by rw[Tm];exact Vp _ _) (by rw[Tm];exact ZA _) (hw.later hd (by show css.length<_;rw[Tm];omega)) (fun r hr=>by rw[hd]at hr;cases hr;show css.length<=_;rw[Tm];omega);rw[Tm]at g3;refine⟨w',_,_,_,?_,hk,g1,g3,g2⟩;rw[e1];have Wf:(Builtin.firstCells 1 l (.slice (some ⟨b,0,none⟩) l cap)).run P w.drew=.ok (cur.toList.take l).toArray w.drew:=by
    refine run_firstCells_some (P:=P) w.drew 1 l ⟨b,0,none⟩ l cap _ (by simp only[List.length_take,Array.length_toList];omega) (fun j v h=>?_);rw[List.getElem?_take]at h;split at h
    ·rw[je,sD (w:=w.drew) b _ cur e (0,0) hh,Nat.zero_add];simpa using h
    ·cases h
   have Uf:¬(l+k<=cap):=T1;have Vs:¬(9223372036854775807<(l:Int)+(k:Int)):=jB;have Zu:=growslice_fits (bytes:=i.bytes) (old:=cap) (show cap<l+k from jB) Vy;have Vl:¬(281474976710656<Builtin.nextslicecap (l+k) cap*i.bytes):=jB;have Tt:¬(k=0):=jB;simp[Builtin.append_,run_underlying hu,run_underlying XU,sizeOf,typeInfo,zeroValue,hi,Vv,TS,asInt,asIntOf,W7,UN,Vl,Uf,Vs,Wg,Tt,Question.forced,Wf,newRow,grownCap,Wn,yx];congr 2
   apply Array.ext';simp
end
abbrev sE:TF:=⟨#[]⟩
def vI(n:Int):aj:=⟨1,n,sE⟩
def vB(b:Bool):aj:=⟨2,if b=true then 1 else 0,sE⟩
def vT(s:TF):aj:=⟨3,0,s⟩
def vZ(t:Int):aj:=⟨t,0,sE⟩
def v0:aj:=⟨0,0,sE⟩
def lU(v:aj):Bool:=
 if v.ty=1 then decide (v.s=sE)
 else if v.ty=2 then decide (v.s=sE) && (decide (v.n=0) || decide (v.n=1))
 else if v.ty=3 then decide (v.n=0) && decide ((v.s.size:Int)<=40)
 else if v.ty=4 then decide (v.s=sE) && decide (0<=v.n)
 else false
def vO(sign:TF)(a b:Int):aj×Int:=
 if sign=(⟨#[43]⟩:TF)then(vI (IntKind.i64.wrap (a+b)),0)
 else if sign=(⟨#[45]⟩:TF)then(vI (IntKind.i64.wrap (a-b)),0)
 else if sign=(⟨#[42]⟩:TF)then(vI (IntKind.i64.wrap (a*b)),0)
 else if sign=(⟨#[47]⟩:TF)then(if b=0 then(v0,1)else(vI (IntKind.i64.wrap (a.tdiv b)),0))
 else if sign=(⟨#[37]⟩:TF)then(if b=0 then(v0,1)else(vI (a.tmod b),0))
 else if sign=(⟨#[60]⟩:TF)then(vB (decide (a<b)),0)
 else if sign=(⟨#[60,61]⟩:TF)then(vB (decide (a<=b)),0)
 else(v0,0)
def pV(sign:TF)(a b:aj):aj×Int:=
 if a.ty≠b.ty\/a.ty<1\/4<a.ty then(v0,0)
 else if sign=(⟨#[61,61]⟩:TF)then(vB (decide (a.n=b.n) && decide (a.s=b.s)),0)
 else if sign=(⟨#[33,61]⟩:TF)then(vB (!(decide (a.n=b.n) && decide (a.s=b.s))),0)
 else if a.ty=1 then vO sign a.n b.n
 else if a.ty=2 then(if sign=(⟨#[124,124]⟩:TF)then(vB (decide (a.n=1) || decide (b.n=1)),0)else if sign=(⟨#[38,38]⟩:TF)then(vB (decide (a.n=1) && decide (b.n=1)),0)else(v0,0))
 else if a.ty=3 then(if sign=(⟨#[43]⟩:TF)then(if(a.s.size:Int)+b.s.size>40 then(v0,6)else(vT (a.s++b.s),0))else(v0,0))
 else(v0,0)
def mL(sign:TF)(a:aj):aj:=
 if sign=(⟨#[45]⟩:TF)/\a.ty=1 then vI (IntKind.i64.wrap (-a.n))
 else if sign=(⟨#[33]⟩:TF)/\a.ty=2 then vB (!decide (a.n=1))
 else v0
def j4(n:Int):Bool:=decide (48<=n) && decide (n<=57)
def wM(n:Int):Bool:=(decide (97<=n) && decide (n<=122)) || (decide (65<=n) && decide (n<=90))
def xf(s:TF):Bool:=decide ((s.size:Int)<19) || (decide ((s.size:Int)=19) && (Op.bytesLess s.toList (⟨#[57,50,50,51,51,55,50,48,51,54,56,53,52,55,55,53,56,48,55]⟩:TF).toList || decide (s=(⟨#[57,50,50,51,51,55,50,48,51,54,56,53,52,55,55,53,56,48,55]⟩:TF))))
def o8(s:TF):Nat->Int
 |0=>1
 |k+1=>if eG s k=10 then o8 s k+1 else o8 s k
theorem E1(s:TF):∀k,1<=o8 s k/\o8 s k<=k+1
 |0=>by simp[o8]
 |k+1=>by have:=E1 s k;unfold o8;split<;>omega
def fU:List TF:=[(⟨#[102,110]⟩:TF),(⟨#[108,101,116]⟩:TF),(⟨#[105,102]⟩:TF),(⟨#[101,108,115,101]⟩:TF),(⟨#[119,104,105,108,101]⟩:TF),(⟨#[114,101,116,117,114,110]⟩:TF),(⟨#[112,114,105,110,116]⟩:TF),(⟨#[105,110,112,117,116]⟩:TF),(⟨#[110,101,119]⟩:TF),(⟨#[108,101,110]⟩:TF),(⟨#[116,114,117,101]⟩:TF),(⟨#[102,97,108,115,101]⟩:TF),(⟨#[105,110,116]⟩:TF),(⟨#[98,111,111,108]⟩:TF),(⟨#[116,101,120,116]⟩:TF),(⟨#[108,105,115,116]⟩:TF)]
def LQ:fU.length=16:=rfl
def vC(s:TF):Bool:=fU.any fun t=>decide (t=s)
-- the first one
theorem yo{α:Type}[Inhabited α]{p:α->Bool}:∀{l:List α} {k:Nat},(∀j,j<k->p (nth l j)=false)->k<l.length->p (nth l k)=true->l.find? p=some (nth l k)
 |[],k,_,h,_=>by simp at h
 |x::l,0,_,_,hp=>by have:p x=true:=hp;rw[List.find?_cons,this];rfl
 |x::l,k+1,h,hk,hp=>by have h0:p x=false:=h 0 jB;rw[List.find?_cons,h0];exact yo (fun j hj=>h (j+1) jB) (by simpa using hk) hp
variable{α:Type}
def CD[Inhabited α]{p:α->Bool}{l:List α}(h:∀j,j<l.length->p (nth l j)=false):l.find? p=none:=by rw[List.find?_eq_none];intro x hx;obtain⟨j,hj,rfl⟩:=List.getElem_of_mem hx;have:=h j hj;rw[fJ hj]at this;simp[this]
def AR{k:Nat}(h:k<n):nth (List.range n) k=k:=by simp[nth,h]
-- bytes of which p holds
def pL(p:Int->Bool)(s:TF):Nat->Nat->Nat
 |0,i=>i
 |n+1,i=>if i<s.size/\p (eG s i)=true then pL p s n (i+1)else i
def iK(p:Int->Bool)(s:TF)(i:Nat):Nat:=pL p s (s.size+1) i
theorem GO{p:Int->Bool}{s:TF}{k:Nat}(Wv:¬(k<s.size/\p (eG s k)=true)):∀{n i:Nat},i<=k->k<n+i->(∀j,i<=j->j<k->j<s.size/\p (eG s j)=true)->pL p s n i=k
 |0,i,h1,h2,_=>by omega
 |n+1,i,h1,h2,h3=>by
  unfold pL;by_cases e:i=k
  ·subst e;rw[if_neg Wv]
  ·rw[if_pos (h3 i jl jB)];exact GO Wv jB jB fun j hj=>h3 j jB
variable{p:Int->Bool}{s:TF}
def yV{k:Nat}(Wv:¬(k<s.size/\p (eG s k)=true))(h1:i<=k)(hk:k<=s.size)(h3:∀j,i<=j->j<k->p (eG s j)=true):iK p s i=k:=
 GO Wv h1 jB fun j hj Zq=>⟨jB,h3 j hj Zq⟩
theorem zr{p:Int->Bool}{s:TF}:∀{n i:Nat},i<=pL p s n i/\(i<=s.size->pL p s n i<=s.size)
 |0,i=>⟨Nat.le_refl _,id⟩
 |n+1,i=>by
  unfold pL;split
  ·have:=zr (p:=p) (s:=s) (n:=n) (i:=i+1);exact⟨jB,fun _=>this.2 jB⟩
  ·exact⟨Nat.le_refl _,id⟩
def uy(h:i<=s.size):i<=iK p s i/\iK p s i<=s.size:=⟨zr.1,zr.2 h⟩
def wg(h:i<s.size)(hp:p (eG s i)=true):i<iK p s i:=by unfold iK;unfold pL;rw[if_pos ⟨h,hp⟩];have:=(zr (p:=p) (s:=s) (n:=s.size) (i:=i+1)).1;omega
theorem E4{p:Int->Bool}{s:TF}:∀{n i j:Nat},i<=j->j<pL p s n i->p (eG s j)=true
 |0,i,j,h1,h2=>by unfold pL at h2;omega
 |n+1,i,j,h1,h2=>by
  unfold pL at h2;split at h2
  ·rename_i h;by_cases e:j=i
   ·subst e;exact h.2
   ·exact E4 jB h2
  ·omega
-- iY between tokens
def zQ(c:Int):Bool:=decide (c=32) || decide (c=9) || decide (c=13) || decide (c=10)
def x8(s:TF)(i:Nat):Bool:=decide (eG s i=47) && decide (i+1<s.size) && decide (eG s (i+1:Nat)=47)
def sM(c:Int):Bool:=decide (c≠10)
def l9(s:TF)(i:Nat):Option Nat:=if i<s.size then(if zQ (eG s i)=true then some (i+1)else if x8 s i=true then some (iK sM s i)else none)else none
def mQ(s:TF):Nat->Nat->Nat
 |0,i=>i
 |n+1,i=>match l9 s i with
  |some j=>mQ s n j
  |none=>i
def x9(h:l9 s i=some j):i<j/\j<=s.size:=by
 unfold l9 at h;split at h
 ·rename_i hi;split at h
  ·cases h;omega
  ·split at h
   ·rename_i hc;cases h;have UD:sM (eG s i)=true:=by
     simp only[x8,Bool.and_eq_true,decide_eq_true_eq]at hc;simp[sM,hc.1.1]
    exact⟨wg hi UD,(uy jB).2⟩
   ·cases h
 ·cases h
theorem E9(s:TF):∀(n m i:Nat),s.size<n+i->s.size<m+i->mQ s n i=mQ s m i
 |0,0,i,_,_=>rfl
 |0,m+1,i,h,_=>by
  unfold mQ;have:l9 s i=none:=by unfold l9;rw[jN]
  rw[this]
 |n+1,0,i,_,h=>by
  unfold mQ;have:l9 s i=none:=by unfold l9;rw[jN]
  rw[this]
 |n+1,m+1,i,h1,h2=>by
  unfold mQ;cases e:l9 s i with
  |none=>rfl
  |some j=> have:=x9 e;exact E9 s n m j jB jB
def nY(s:TF)(i:Nat):Nat:=mQ s (s.size+1) i
def Di(h:l9 s i=some j):nY s i=nY s j:=by have:=x9 h;show mQ s (s.size+1) i=mQ s (s.size+1) j;rw[mQ,h];exact E9 s _ _ j jB jB
def F5(h:l9 s i=none):nY s i=i:=by show mQ s (s.size+1) i=i;rw[mQ,h]
theorem Bu{s:TF}:∀{n i:Nat},i<=mQ s n i/\(i<=s.size->mQ s n i<=s.size)
 |0,i=>⟨Nat.le_refl _,id⟩
 |n+1,i=>by
  unfold mQ;cases e:l9 s i with
  |none=>exact⟨Nat.le_refl _,id⟩
  |some j=> have h1:=x9 e;have h2:=Bu (s:=s) (n:=n) (i:=j);exact⟨by simp only;omega,fun _=>h2.2 h1.2⟩
def vh(h:i<=s.size):i<=nY s i/\nY s i<=s.size:=⟨Bu.1,Bu.2 h⟩
-- tokens
def tM(c:Int):Bool:=decide (32<=c) && decide (c<=126) && decide (c≠34)
def ob(s:TF)(a:Nat):TF×Int×Int:=
 let i:=iK tM s (a+1)
 if i<s.size/\eG s i=34 then(if(i:Int)-a-1>12 then(⟨#[]⟩,a,4)else(s.extract (a+1) i,(i:Int)+1,0))else(⟨#[]⟩,a,11)
def jg:List TF:=[(⟨#[124,124]⟩:TF),(⟨#[38,38]⟩:TF),(⟨#[60,61]⟩:TF),(⟨#[61,61]⟩:TF),(⟨#[33,61]⟩:TF)]
def iD:TF:=(⟨#[40,41,123,125,91,93,44,59,61,60,43,45,42,47,37,33]⟩:TF)
def p7(s t:TF):Bool:=decide (2<=(s.size:Int)) && decide (s.extract 0 2=t)
def nK(s:TF):TF:=match jg.find? (p7 s)with
 |some t=>t
 |none=>match (List.range 16).find? fun k:Nat=>decide (eG s 0=eG iD (k:Nat))with
  |some k=>iD.extract k (k+1)
  |none=>⟨#[]⟩
def oZ(c:Int):Bool:=wM c || j4 c || decide (c=95)
def JB{b:TF}(h:b.size=0):b=⟨#[]⟩:=by obtain⟨d⟩:=b;have:d=#[]:=Array.size_eq_zero_iff.1 h;rw[this]
def uQ:cz:=⟨0,⟨#[]⟩,0⟩
def ie(s:TF)(a:Nat):cz×Int×Int:=
 if j4 (eG s a)=true then
  (if xf (s.extract a (iK j4 s a))=true then(⟨1,s.extract a (iK j4 s a),a⟩,(iK j4 s a:Nat),0)else(uQ,a,12))
 else if wM (eG s a)=true then
  (if vC (s.extract a (iK oZ s a))=true then(⟨4,s.extract a (iK oZ s a),a⟩,(iK oZ s a:Nat),0)
  else if((s.extract a (iK oZ s a)).size:Int)>8 then(uQ,a,13)else(⟨3,s.extract a (iK oZ s a),a⟩,(iK oZ s a:Nat),0))
 else if eG s a=34 then(⟨2,(ob s a).1,a⟩,(ob s a).2.1,(ob s a).2.2)
 else if nK (s.extract a s.size)=⟨#[]⟩then(uQ,a,10)
 else(⟨5,nK (s.extract a s.size),a⟩,a+(nK (s.extract a s.size)).size,0)
def KF(s:TF):(nK s).size<=2:=by
 unfold nK;cases h:jg.find? (p7 s)with
 |some t=> have hm:=List.mem_of_find?_eq_some h;have:∀t∈jg,t.size<=2:=jC;exact this t hm
 |none=>
  cases h2:(List.range 16).find? fun k:Nat=>decide (eG s 0=eG iD (k:Nat))with
  |some k=> simp only;rw[ByteArray.size_extract];omega
  |none=>decide
variable{t:TF}
def SP(h:jg.find? (p7 s)=some t):t.size=2/\2<=s.size:=by have hm:=List.mem_of_find?_eq_some h;have hp:=List.find?_some h;have:∀t∈jg,t.size=2:=jC;simp only[p7,Bool.and_eq_true,decide_eq_true_eq]at hp;exact⟨this t hm,jB⟩
def Ke(hs:0<s.size):(nK s).size<=s.size:=by
 unfold nK;cases h:jg.find? (p7 s)with
 |some t=>have:=SP h;simp only;omega
 |none=>
  cases h2:(List.range 16).find? fun k:Nat=>decide (eG s 0=eG iD (k:Nat))with
  |some k=> simp only;rw[ByteArray.size_extract];omega
  |none=>exact Nat.zero_le _
variable{a:Nat}
def zN(ha:a<s.size)(h:(ie s a).2.2=0):∃e:Nat,(ie s a).2.1=e/\a<e/\e<=s.size:=by
 unfold ie at h ⊢;split at h<;>rename_i h1
 ·rw[if_pos h1]at*;split at h<;>rename_i h2
  ·rw[if_pos h2];exact⟨_,rfl,wg ha h1,(uy jB).2⟩
  ·cases h
 ·rw[if_neg h1]at*;split at h<;>rename_i h2
  ·rw[if_pos h2];have hw:oZ (eG s a)=true:=by simp[oZ,h2]
   split at h<;>rename_i h3
   ·rw[if_pos h3];exact⟨_,rfl,wg ha hw,(uy jB).2⟩
   ·rw[if_neg h3];split at h<;>rename_i h4
    ·cases h
    ·rw[if_neg h4];exact⟨_,rfl,wg ha hw,(uy jB).2⟩
  ·rw[if_neg h2];split at h<;>rename_i h3
   ·rw[if_pos h3];have hb:=uy (p:=tM) (s:=s) (i:=a+1) jB;simp only[ob]at h ⊢;split at h<;>rename_i h4
    ·rw[if_pos h4];split at h<;>rename_i h5
     ·cases h
     ·rw[if_neg h5];exact⟨iK tM s (a+1)+1,jE,jB,jB⟩
    ·cases h
   ·rw[if_neg h3];split at h<;>rename_i h4
    ·cases h
    ·rw[if_neg h4];have Ti:(s.extract a s.size).size=s.size-a:=by rw[ByteArray.size_extract];omega
     have Ts:=Ke (s:=s.extract a s.size) jB;have UG:0<(nK (s.extract a s.size)).size:=by
      rcases Nat.eq_zero_or_pos (nK (s.extract a s.size)).size with e|e
      ·exact(h4 (JB e)).elim
      ·exact e
     exact⟨a+(nK (s.extract a s.size)).size,jE,jB,jB⟩
def lp(s:TF):Nat->Nat->List cz->List cz×Int×Int
 |0,_,out=>(out,0,0)
 |n+1,i,out=>if i<s.size then
   (if(ie s i).2.2=0 then lp s n (nY s (ie s i).2.1.toNat) (out++[(ie s i).1])else([],((i:Nat):Int),(ie s i).2.2))
  else(out++[⟨0,⟨#[]⟩,s.size⟩],0,0)
theorem D0(s:TF):∀(n m i:Nat) (out:List cz),s.size<n+i->s.size<m+i->i<=s.size->lp s n i out=lp s m i out
 |0,_,i,_,h,_,h3=>by omega
 |_,0,i,_,_,h,h3=>jB
 |n+1,m+1,i,out,h1,h2,h3=>by
  unfold lp;split
  ·rename_i hi;split
   ·rename_i he;obtain⟨e,h4,h5,h6⟩:=zN hi he;rw[h4,Int.toNat_natCast];have:=vh (s:=s) (i:=e) h6;exact D0 s n m _ _ jB jB this.2
   ·rfl
  ·rfl
def uH(s:TF)(i:Nat)(out:List cz):List cz×Int×Int:=lp s (s.size+1) i out
variable{out:List cz}
def N9(hi:i<s.size)(he:(ie s i).2.2=0):uH s i out=uH s (nY s (ie s i).2.1.toNat) (out++[(ie s i).1]):=by show lp s (s.size+1) i out=lp s (s.size+1) _ _;rw[lp,if_pos hi,if_pos he];obtain⟨e,h4,h5,h6⟩:=zN hi he;rw[h4,Int.toNat_natCast];have:=vh (s:=s) (i:=e) h6;exact D0 s _ _ _ _ jB jB this.2
def QJ(hi:i<s.size)(he:(ie s i).2.2≠0):uH s i out=([],((i:Nat):Int),(ie s i).2.2):=by show lp s (s.size+1) i out=_;rw[lp,if_pos hi,if_neg he]
def RD(hi:¬i<s.size):uH s i out=(out++[⟨0,⟨#[]⟩,s.size⟩],0,0):=by show lp s (s.size+1) i out=_;rw[lp,if_neg hi]
def kK(s:TF):List cz×Int×Int:=if(s.size:Int)>600 then([],0,4)else uH s (nY s 0) []
structure Rd where
 src:ByteArray
 l:List cz
 i:Int
 nodes:List br
 deep:Int
 e:Int
 at_:Int
 deriving Inhabited
namespace Rd
def tok(r:Rd):cz:=nth r.l r.i.toNat
def aC(r:Rd)(e:Int):Rd:=if r.e=0 then{ r with e:=e,at_:=r.tok.at_ }else r
def is(r:Rd)(t:TF):Bool:=decide (r.e=0) && (decide (r.tok.kind=5) || decide (r.tok.kind=4)) && decide (r.tok.text=t)
def kind(r:Rd)(k:Int):Bool:=decide (r.e=0) && decide (r.tok.kind=k)
def inc(r:Rd):Rd:={ r with i:=r.i+1 }
def ao(r:Rd)(t:TF):Rd:=if r.is t=true then r.inc else r.aC 20
def name(r:Rd):Rd×TF:=if r.kind 3=true then(r.inc,r.tok.text)else(r.aC 20,⟨#[]⟩)
def cO(r:Rd):Int:=o8 r.src (min r.src.size r.tok.at_.toNat)
def node(r:Rd)(n:br):Rd:={ r with nodes:=r.nodes++[n] }
def put(r:Rd)(k ln n:Int)(nm:TF)(L:TD):Rd×Int:=(r.node ⟨k,ln,n,nm,L⟩,r.nodes.length)
def down(r:Rd):Rd:={ (if 16<=r.deep then r.aC 21 else r)with deep:=r.deep+1 }
def up(r:Rd):Rd:={ r with deep:=r.deep-1 }
end Rd
def mW(level:Int):List TF:=
 if level=0 then[(⟨#[124,124]⟩:TF)]else if level=1 then[(⟨#[38,38]⟩:TF)]else if level=2 then[(⟨#[60]⟩:TF),(⟨#[60,61]⟩:TF),(⟨#[61,61]⟩:TF),(⟨#[33,61]⟩:TF)]else if level=3 then[(⟨#[43]⟩:TF),(⟨#[45]⟩:TF)]else[(⟨#[42]⟩:TF),(⟨#[47]⟩:TF),(⟨#[37]⟩:TF)]
namespace Rd
section
variable (r:Rd)(e:Int)
@[go_sem] def FK:(r.aC e).src=r.src:=by unfold aC;split<;>rfl
@[go_sem] def gM:(r.aC e).l=r.l:=by unfold aC;split<;>rfl
@[go_sem] def uJ:(r.aC e).i=r.i:=by unfold aC;split<;>rfl
@[go_sem] def dH:(r.aC e).nodes=r.nodes:=by unfold aC;split<;>rfl
@[go_sem] def Mw:(r.aC e).deep=r.deep:=by unfold aC;split<;>rfl
end
section
variable (r:Rd)
@[go_sem] def j7j:(r.inc.src=r.src)/\(r.inc.l=r.l)/\(r.inc.i=r.i+1)/\(r.inc.nodes=r.nodes)/\(r.inc.deep=r.deep)/\(r.inc.e=r.e)/\(r.inc.at_=r.at_)/\(r.up.src=r.src)/\(r.up.l=r.l)/\(r.up.i=r.i)/\(r.up.nodes=r.nodes)/\(r.up.deep=r.deep-1)/\(r.up.e=r.e)/\(r.up.at_=r.at_):=by and_intros<;>(intros;rfl)
end
def next(r:Rd)(level:Int):TF:=match (mW level).find? (fun s=>r.is s)with
 |some s=>s
 |none=>⟨#[]⟩
def nO(r:Rd):cz:=nth r.l (r.i+1).toNat
def calls(r:Rd):Bool:=r.kind 3 && decide (r.nO.kind=5) && decide (r.nO.text=(⟨#[40]⟩:TF))
def word(r:Rd):TF:=if r.kind 4=true then r.tok.text else⟨#[]⟩
end Rd
def wl(s:TF):Nat->Int
 |0=>0
 |k+1=>wl s k*10+(eG s k-48)
def pq(s:TF):Int:=wl s s.size
mutual
def qs:Nat->Rd->Rd×Int
 |0,r=>(r,0)
 |n+1,r=>
  if r.e≠0 then(r,0)
  else if r.tok.kind=1 then r.inc.put 1 r.cO (pq r.tok.text) ⟨#[]⟩ []
  else if r.tok.kind=2 then r.inc.put 3 r.cO 0 r.tok.text []
  else if r.tok.kind=3 then
   (if r.inc.is (⟨#[91]⟩:TF)=true then
    (((dL n 0 (r.inc.down.ao (⟨#[91]⟩:TF))).1.ao (⟨#[93]⟩:TF)).up).put 5 r.cO 0 r.tok.text [(dL n 0 (r.inc.down.ao (⟨#[91]⟩:TF))).2]
   else r.inc.put 4 r.cO 0 r.tok.text [])
  else if r.is (⟨#[116,114,117,101]⟩:TF)=true then r.inc.put 2 r.cO 1 ⟨#[]⟩ []
  else if r.is (⟨#[102,97,108,115,101]⟩:TF)=true then r.inc.put 2 r.cO 0 ⟨#[]⟩ []
  else if r.is (⟨#[108,101,110]⟩:TF)=true then
   (if r.inc.is (⟨#[40]⟩:TF)=true then
    (((dL n 0 (r.inc.down.ao (⟨#[40]⟩:TF))).1.ao (⟨#[41]⟩:TF)).up).put 6 r.cO 0 ⟨#[]⟩ [(dL n 0 (r.inc.down.ao (⟨#[40]⟩:TF))).2]
   else(r.inc.aC 20,0))
  else if r.is (⟨#[40]⟩:TF)=true then
   (((dL n 0 (r.down.ao (⟨#[40]⟩:TF))).1.ao (⟨#[41]⟩:TF)).up,(dL n 0 (r.down.ao (⟨#[40]⟩:TF))).2)
  else(r.aC 20,0)
def iv:Nat->Rd->Rd×Int
 |0,r=>(r,0)
 |n+1,r=>
  if r.is (⟨#[45]⟩:TF)=true then((iv n r.down.inc).1.up).put 7 r.cO 0 ⟨#[]⟩ [(iv n r.down.inc).2]
  else if r.is (⟨#[33]⟩:TF)=true then((iv n r.down.inc).1.up).put 8 r.cO 0 ⟨#[]⟩ [(iv n r.down.inc).2]
  else qs n r
def dL:Nat->Nat->Rd->Rd×Int
 |0,_,r=>(r,0)
 |n+1,lv,r=>if lv=5 then iv n r else oa n lv r.cO (dL n (lv+1) r)
def oa:Nat->Nat->Int->Rd×Int->Rd×Int
 |0,_,_,p=>p
 |n+1,lv,ln,p=>
  if p.1.next lv=⟨#[]⟩then p
  else if lv=2 then((dL n (lv+1) p.1.inc).1).put 9 ln 0 (p.1.next lv) [p.2,(dL n (lv+1) p.1.inc).2]
  else oa n lv ln (((dL n (lv+1) p.1.inc).1).put 9 ln 0 (p.1.next lv) [p.2,(dL n (lv+1) p.1.inc).2])
end
-- what is kept
def Rd.rem(r:Rd):Nat:=if r.e=0 then(r.l.length-r.i).toNat else 0
def Rd.dI(r:Rd):Int:=r.nodes.length+3*(r.l.length-r.i)+if r.e=0 then 1 else 0
def qG(s:TF):Prop:=0<s.size/\xf s=true/\∀j,j<s.size->j4 (eG s j)=true
structure Rd.Inv(r:Rd):Prop where
 src:r.src.size<=1000
 pos:0<=r.i
 lt:r.i<r.l.length
 len:r.l.length<=2000
 num:∀k,k<r.l.length->(nth r.l k).kind=1->qG (nth r.l k).text
 tk:∀k,k<r.l.length->(nth r.l k).kind≠0->k+1<r.l.length
 o5:0<=r.deep
 pD:r.deep<=17
 L4:r.e=0->r.deep<=16
 dI:r.dI<=8000
structure Rd.St(r r':Rd):Prop where
 src:r'.src=r.src
 l:r'.l=r.l
 deep:r'.deep=r.deep
 i:r.i<=r'.i
 lt:r'.i<r.l.length
 dI:r'.dI<=r.dI
 err:r.e≠0->r'.e≠0
variable{r r':Rd}
def Rd.St.inv(s:Rd.St r r')(h:r.Inv):r'.Inv:=by
 obtain⟨s1,s2,s3,s4,s5,s6,s7⟩:=s;obtain⟨h1,h2,h3,h4,hn,h5,h6,h7,h8,h9⟩:=h;exact⟨by rw[s1];exact h1,jB,by rw[s2];exact s5,by rw[s2];exact h4,by rw[s2];exact hn,by rw[s2];exact h5,jB,jB,fun h=>by rw[s3];exact h8 (Classical.byContradiction fun e=>s7 e h),jB⟩
def Rd.St.refl(h:r.Inv):Rd.St r r:=⟨rfl,rfl,rfl,Int.le_refl _,h.lt,Int.le_refl _,id⟩
theorem Rd.St.trans{a b c:Rd}(h:Rd.St a b)(k:Rd.St b c):Rd.St a c:=
 ⟨k.src.trans h.src,k.l.trans h.l,k.deep.trans h.deep,Int.le_trans h.i k.i,by have:=k.lt;rw[h.l]at this;exact this,Int.le_trans k.dI h.dI,fun e=>k.err (h.err e)⟩
theorem Rd.St.rem{r r':Rd}(s:Rd.St r r'):r'.rem<=r.rem:=by
 unfold Rd.rem;have h1:=s.i;have h2:=s.l;by_cases e:r.e=0
 ·rw[if_pos e,h2];split<;>omega
 ·rw[if_neg e,if_neg (s.err e)];exact Nat.le_refl _
def Rd.behind(h:r.Inv)(hk:r.tok.kind≠0):r.i+1<r.l.length:=by have:=h.tk r.i.toNat (by have:=h.lt;have:=h.pos;omega) hk;have:=h.pos;omega
def Rd.aY(h:r.is t=true):r.e=0/\r.tok.kind≠0:=by simp only[Rd.is,Bool.and_eq_true,Bool.or_eq_true,decide_eq_true_eq]at h;exact⟨h.1.1,by rcases h.1.2 with h|h<;>omega⟩
def Rd.dF{k:Int}(h:r.kind k=true)(h0:k≠0):r.e=0/\r.tok.kind≠0:=by simp only[Rd.kind,Bool.and_eq_true,decide_eq_true_eq]at h;exact⟨h.1,jB⟩
def Rd.fP(h:r.Inv)(e:Int)(he:e≠0):Rd.St r (r.aC e):=by
 refine⟨FK _ _,gM _ _,Mw _ _,by rw[uJ];exact Int.le_refl _,by rw[uJ];exact h.lt,?_,fun h1=>by unfold aC;rw[if_neg h1];exact h1⟩;unfold Rd.dI;rw[dH,gM,uJ];by_cases e0:r.e=0
 ·have:(r.aC e).e=e:=by unfold aC;rw[if_pos e0]
  rw[this,if_pos e0,if_neg he];omega
 ·have:(r.aC e).e=r.e:=by unfold aC;rw[if_neg e0]
  rw[this];omega
def Rd.bs(h:r.Inv)(hk:r.tok.kind≠0):Rd.St r r.inc/\r.inc.dI=r.dI-3:=by
 have:=Rd.behind h hk;have e:r.inc.dI=r.dI-3:=by simp only[Rd.dI,Rd.inc];omega
 exact⟨⟨rfl,rfl,rfl,by simp only[Rd.inc];omega,by simp only[Rd.inc];omega,jB,id⟩,e⟩
def Rd.aJ(h:r.Inv)(t:TF):Rd.St r (r.ao t):=by
 unfold Rd.ao;split
 ·rename_i hs;exact(Rd.bs h (Rd.aY hs).2).1
 ·exact Rd.fP h 20 jC
def Rd.dq(h:r.Inv):Rd.St r r.name.1:=by
 unfold Rd.name;split
 ·rename_i hs;exact(Rd.bs h (Rd.dF hs jC).2).1
 ·exact Rd.fP h 20 jC
def Rd.lW(r:Rd)(n:br):(r.node n).dI=r.dI+1:=by simp only[Rd.dI,Rd.node,List.length_append,List.length_cons,List.length_nil];omega
def Rd.cZ(s:Rd.St r r')(hp:r'.dI+1<=r.dI)(k ln n:Int)(nm:TF)(L:TD):Rd.St r (r'.put k ln n nm L).1:=
 ⟨s.src,s.l,s.deep,s.i,s.lt,by show(r'.node _).dI<=_;rw[Rd.lW];exact hp,s.err⟩
def Rd.tB:r.down.e=(if 16<=r.deep then r.aC 21 else r).e:=rfl
def Rd.bJ(h:r.Inv)(he:r.e=0):r.down.Inv/\r.down.dI<=r.dI/\r.down.i=r.i/\r.down.l=r.l/\r.down.src=r.src/\r.down.deep=r.deep+1:=by
 have hd:=h.L4 he;have hi:r.down.i=r.i:=by unfold Rd.down;split<;>simp[uJ]
 have hl:r.down.l=r.l:=by unfold Rd.down;split<;>simp[gM]
 have hs:r.down.src=r.src:=by unfold Rd.down;split<;>simp[FK]
 have hn:r.down.nodes=r.nodes:=by unfold Rd.down;split<;>simp[dH]
 have hdd:r.down.deep=r.deep+1:=rfl;have hee:r.down.e=0->r.deep<16:=fun e=>by
  rw[Rd.tB]at e;split at e
  ·unfold aC at e;rw[if_pos he]at e;cases e
  ·omega
 have hp:r.down.dI<=r.dI:=by unfold Rd.dI;rw[hn,hl,hi,if_pos he];split<;>omega
 refine⟨⟨by rw[hs];exact h.src,by rw[hi];exact h.pos,by rw[hi,hl];exact h.lt,by rw[hl];exact h.len,by rw[hl];exact h.num,by rw[hl];exact h.tk,by have:=h.o5;omega,jB,fun e=>by have:=hee e;omega,by have:=h.dI;omega⟩,hp,hi,hl,hs,hdd⟩
def Rd.fx(h:r.Inv)(he:r.e=0)(s:Rd.St r.down r'):Rd.St r r'.up:=by obtain⟨_,h1,h2,h3,h4,h5⟩:=Rd.bJ h he;exact⟨s.src.trans h4,s.l.trans h3,by show r'.deep-1=_;rw[s.deep,h5];omega,by show r.i<=r'.i;rw[<-h2];exact s.i,by show r'.i<_;rw[<-h3];exact s.lt,by show r'.dI<=_;have:=s.dI;omega,fun e=>(e he).elim⟩
def Rd.lF{lv:Int}(h:r.next lv≠⟨#[]⟩):r.is (r.next lv)=true:=by
 unfold Rd.next at h ⊢;cases e:(mW lv).find? (fun s=>r.is s)with
 |none=>rw[e]at h;exact(h rfl).elim
 |some s=>exact List.find?_some e
def Rd.dc(h:r.Inv)(hk:r.e=0/\r.tok.kind≠0):r.inc.rem+1<=r.rem:=by have:=Rd.behind h hk.2;unfold Rd.rem;rw[if_pos hk.1,if_pos (show r.inc.e=0 from hk.1)];have:r.inc.i=r.i+1:=rfl;have:r.inc.l=r.l:=rfl;simp only[*];omega
theorem td:∀n,(∀r:Rd,r.Inv->Rd.St r (qs n r).1)/\(∀r:Rd,r.Inv->Rd.St r (iv n r).1)/\(∀lv (r:Rd),r.Inv->Rd.St r (dL n lv r).1)/\(∀lv ln (p:Rd×Int),p.1.Inv->Rd.St p.1 (oa n lv ln p).1)
 |0=>⟨fun r h=>by unfold qs;exact .refl h,fun r h=>by unfold iv;exact .refl h,fun lv r h=>by unfold dL;exact .refl h,fun lv ln p h=>by unfold oa;exact .refl h⟩
 |n+1=>by
  obtain⟨ia,lC,ic,il⟩:=td n
  -- a token, and what is behind it, deeper
  have deeper:∀(r:Rd) (t u:TF),r.Inv->r.e=0->Rd.St r ((dL n 0 (r.down.ao t)).1.ao u).up:=fun r t u h he=>by have h1:=(Rd.bJ h he).1;have s1:=Rd.aJ h1 t;have s2:=ic 0 _ (s1.inv h1);have s12:=s1.trans s2;have s3:=Rd.aJ (s12.inv h1) u;exact Rd.fx h he (s12.trans s3)
  refine⟨fun r h=>?_,fun r h=>?_,fun lv r h=>?_,fun lv ln p h=>?_⟩
  ·unfold qs;split
   ·exact .refl h
   rename_i he;have he:r.e=0:=jB;split
   ·rename_i hk;obtain⟨s1,e1⟩:=Rd.bs h jB;exact Rd.cZ s1 jB _ _ _ _ _
   split
   ·rename_i hk;obtain⟨s1,e1⟩:=Rd.bs h jB;exact Rd.cZ s1 jB _ _ _ _ _
   split
   ·rename_i hk;obtain⟨s1,e1⟩:=Rd.bs h jB;split
    ·have s2:=deeper r.inc (⟨#[91]⟩:TF) (⟨#[93]⟩:TF) (s1.inv h) he;exact Rd.cZ (s1.trans s2) (by have:=s2.dI;omega) _ _ _ _ _
    ·exact Rd.cZ s1 jB _ _ _ _ _
   split
   ·rename_i hs;obtain⟨s1,e1⟩:=Rd.bs h (Rd.aY hs).2;exact Rd.cZ s1 jB _ _ _ _ _
   split
   ·rename_i hs;obtain⟨s1,e1⟩:=Rd.bs h (Rd.aY hs).2;exact Rd.cZ s1 jB _ _ _ _ _
   split
   ·rename_i hs;obtain⟨s1,e1⟩:=Rd.bs h (Rd.aY hs).2;split
    ·have s2:=deeper r.inc (⟨#[40]⟩:TF) (⟨#[41]⟩:TF) (s1.inv h) he;exact Rd.cZ (s1.trans s2) (by have:=s2.dI;omega) _ _ _ _ _
    ·exact s1.trans (Rd.fP (s1.inv h) 20 jC)
   split
   ·exact deeper r (⟨#[40]⟩:TF) (⟨#[41]⟩:TF) h he
   ·exact Rd.fP h 20 jC
  ·unfold iv;have sg:∀t,r.is t=true->∀k ln nm,Rd.St r (((iv n r.down.inc).1.up).put k ln 0 nm [(iv n r.down.inc).2]).1:=fun t ht k ln nm=>by
    obtain⟨he,hk⟩:=Rd.aY ht;obtain⟨h1,h2,h3,h4,_⟩:=Rd.bJ h he;have Vq:r.down.tok=r.tok:=by unfold Rd.tok;rw[h3,h4]
    obtain⟨s1,e1⟩:=Rd.bs h1 (by rw[Vq];exact hk);have s2:=lC _ (s1.inv h1);exact Rd.cZ (Rd.fx h he (s1.trans s2)) (by have:=s2.dI;show(iv n r.down.inc).1.dI+1<=_;omega) _ _ _ _ _
   split
   ·rename_i ht;exact sg _ ht _ _ _
   split
   ·rename_i ht;exact sg _ ht _ _ _
   ·exact ia r h
  ·unfold dL;split
   ·exact lC r h
   ·have s1:=ic (lv+1) r h;exact s1.trans (il _ _ _ (s1.inv h))
  ·unfold oa;split
   ·exact .refl h
   rename_i hn;obtain⟨s1,e1⟩:=Rd.bs h (Rd.aY (Rd.lF hn)).2;have s2:=ic (lv+1) _ (s1.inv h);have s3:=fun L=>Rd.cZ (s1.trans s2) (by have:=s2.dI;omega) 9 ln 0 (p.1.next lv) L
   split
   ·exact s3 _
   ·exact(s3 _).trans (il _ _ _ ((s3 _).inv h))
def df(r:Rd):Rd×Int:=dL (8*r.rem+8) 0 r
def mX:Nat->Bool->Rd->TD->Rd×TD
 |0,_,r,L=>(r,L)
 |_+1,false,r,L=>(r,L)
 |n+1,true,r,L=>if(df r).1.is (⟨#[44]⟩:TF)=true then mX n true (df r).1.inc (L++[(df r).2])else((df r).1,L++[(df r).2])
def more(r:Rd):Bool:=!(r.is (⟨#[41]⟩:TF)) && decide (r.e=0)
def pc(r:Rd):Rd:=r.name.1.ao (⟨#[40]⟩:TF)
def nN(r:Rd):Rd×TD:=mX ((pc r).rem+2) (more (pc r)) (pc r) []
def mD(r:Rd):Rd×Int:=((nN r).1.ao (⟨#[41]⟩:TF)).put 21 r.cO 0 r.name.2 (nN r).2
def lH(r:Rd):Rd×Int:=
 if r.is (⟨#[105,110,112,117,116]⟩:TF)=true then r.inc.put 19 r.cO 0 ⟨#[]⟩ []
 else if r.is (⟨#[110,101,119]⟩:TF)=true then((df (r.inc.ao (⟨#[40]⟩:TF))).1.ao (⟨#[41]⟩:TF)).put 20 r.cO 0 ⟨#[]⟩ [(df (r.inc.ao (⟨#[40]⟩:TF))).2]
 else if r.calls=true then mD r else df r
def o4(r:Rd):Rd×Int:=df (r.down.ao (⟨#[91]⟩:TF))
def vW(r:Rd):Rd×Int:=df (((o4 r).1.ao (⟨#[93]⟩:TF)).up.ao (⟨#[61]⟩:TF))
def pB(r:Rd)(ln:Int):Rd×Int:=
 if r.calls=true then((mD r).1.ao (⟨#[59]⟩:TF)).put 13 ln 0 ⟨#[]⟩ [(mD r).2]
 else if r.name.1.is (⟨#[91]⟩:TF)=true then((vW r.name.1).1.ao (⟨#[59]⟩:TF)).put 12 ln 0 r.name.2 [(o4 r.name.1).2,(vW r.name.1).2]
 else((lH (r.name.1.ao (⟨#[61]⟩:TF))).1.ao (⟨#[59]⟩:TF)).put 11 ln 0 r.name.2 [(lH (r.name.1.ao (⟨#[61]⟩:TF))).2]
mutual
def gb:Nat->Rd->Rd×Int
 |0,r=>(r,0)
 |n+1,r=>
  if r.is (⟨#[123]⟩:TF)=true then((mM n (r.down.ao (⟨#[123]⟩:TF)) []).1.ao (⟨#[125]⟩:TF)).up.put 18 r.cO 0 ⟨#[]⟩ (mM n (r.down.ao (⟨#[123]⟩:TF)) []).2
  else(r.aC 20,0)
def mM:Nat->Rd->TD->Rd×TD
 |0,r,L=>(r,L)
 |n+1,r,L=>if r.e=0/\r.is (⟨#[125]⟩:TF)=false then mM n (nP n r).1 (L++[(nP n r).2])else(r,L)
def nP:Nat->Rd->Rd×Int
 |0,r=>(r,0)
 |n+1,r=>
  if r.word=(⟨#[108,101,116]⟩:TF)then((lH (r.inc.name.1.ao (⟨#[61]⟩:TF))).1.ao (⟨#[59]⟩:TF)).put 10 r.cO 0 r.inc.name.2 [(lH (r.inc.name.1.ao (⟨#[61]⟩:TF))).2]
  else if r.word=(⟨#[112,114,105,110,116]⟩:TF)then((df r.inc).1.ao (⟨#[59]⟩:TF)).put 14 r.cO 0 ⟨#[]⟩ [(df r.inc).2]
  else if r.word=(⟨#[119,104,105,108,101]⟩:TF)then(gb n (df r.inc).1).1.put 16 r.cO 0 ⟨#[]⟩ [(df r.inc).2,(gb n (df r.inc).1).2]
  else if r.word=(⟨#[105,102]⟩:TF)then
   (if(gb n (df r.inc).1).1.is (⟨#[101,108,115,101]⟩:TF)=true then(gb n (gb n (df r.inc).1).1.inc).1.put 15 r.cO 0 ⟨#[]⟩ [(df r.inc).2,(gb n (df r.inc).1).2,(gb n (gb n (df r.inc).1).1.inc).2]
   else(gb n (df r.inc).1).1.put 15 r.cO 0 ⟨#[]⟩ [(df r.inc).2,(gb n (df r.inc).1).2])
  else if r.word=(⟨#[114,101,116,117,114,110]⟩:TF)then
   (if r.inc.is (⟨#[59]⟩:TF)=true then(r.inc.ao (⟨#[59]⟩:TF)).put 17 r.cO 0 ⟨#[]⟩ []
   else((df r.inc).1.ao (⟨#[59]⟩:TF)).put 17 r.cO 0 ⟨#[]⟩ [(df r.inc).2])
  else pB r r.cO
end
def oH(r:Rd):Rd×Int:=gb (4*r.rem+4) r
def sj(w:TF):Int:=if w=(⟨#[105,110,116]⟩:TF)then 1 else if w=(⟨#[98,111,111,108]⟩:TF)then 2 else if w=(⟨#[116,101,120,116]⟩:TF)then 3 else if w=(⟨#[108,105,115,116]⟩:TF)then 4 else 0
def iO(r:Rd):Rd×Int:=if sj r.word=0 then(r.aC 20,0)else(r.inc,sj r.word)
def pE(r:Rd):Rd:=(iO r.name.1).1
def mo:Nat->Bool->Rd->List bK->Rd×List bK
 |0,_,r,L=>(r,L)
 |_+1,false,r,L=>(r,L)
 |n+1,true,r,L=>if(pE r).is (⟨#[44]⟩:TF)=true then mo n true (pE r).inc (L++[⟨r.name.2,(iO r.name.1).2⟩])else(pE r,L++[⟨r.name.2,(iO r.name.1).2⟩])
def np(r:Rd):Rd:=(r.ao (⟨#[102,110]⟩:TF)).name.1.ao (⟨#[40]⟩:TF)
def sd(r:Rd):Rd×List bK:=mo ((np r).rem+2) (more (np r)) (np r) []
def lB(r:Rd):Rd:=(sd r).1.ao (⟨#[41]⟩:TF)
def l8(r:Rd):Rd×Int:=if(lB r).is (⟨#[123]⟩:TF)=true then(lB r,0)else iO (lB r)
def mI(r:Rd):Rd×bh:=((oH (l8 r).1).1,⟨(r.ao (⟨#[102,110]⟩:TF)).name.2,r.cO,(sd r).2,(l8 r).2,(oH (l8 r).1).2⟩)
def qt:Nat->Rd->List bh->Rd×List bh
 |0,r,L=>(r,L)
 |n+1,r,L=>if r.e=0/\r.kind 0=false then qt n (mI r).1 (L++[(mI r).2])else(r,L)
def oj(s:TF):Rd:=⟨s,(kK s).1,0,[],0,0,0⟩
def nL(s:TF):Rd×List bh:=qt ((oj s).rem+1) (oj s) []
def tY(t:List br)(L:List bh):Bool:=decide (300<t.length) || decide (6<L.length) || L.any fun f=>decide (3<f.params.length)
def gP(s:TF):aG×Int×Int:=
 if(kK s).2.2≠0 then(⟨[],[]⟩,(kK s).2.1,(kK s).2.2)
 else if(nL s).1.e≠0 then(⟨[],[]⟩,(nL s).1.at_,(nL s).1.e)
 else if tY (nL s).1.nodes (nL s).2=true then(⟨[],[]⟩,0,4)
 else(⟨(nL s).1.nodes,(nL s).2⟩,0,0)
-- what is kept
def Rd.St.tp(s:Rd.St r r')(h:r.Inv)(he:r.e=0)(hi:r.i+1<=r'.i):r'.rem+1<=r.rem:=by have h1:=s.l;have h2:=s.lt;have h3:=h.pos;unfold Rd.rem;rw[if_pos he,h1];split<;>omega
def Rd.St.lJ(h:r.Inv)(he:r.e=0)(hi:r'.e≠0):r'.rem+1<=r.rem:=by have h2:=h.lt;have h3:=h.pos;unfold Rd.rem;rw[if_pos he,if_neg hi];omega
def Rd.gN{e:Int}(he:e≠0):(r.aC e).e≠0:=by
 unfold Rd.aC;split
 ·exact he
 ·assumption
def Rd.nU(h:r.Inv)(he:r.e=0)(t:TF):(r.ao t).rem+1<=r.rem/\(r.ao t).dI+1<=r.dI:=by
 unfold Rd.ao;split
 ·rename_i hs;have hk:=Rd.aY hs;exact⟨Rd.dc h hk,by rw[(Rd.bs h hk.2).2];omega⟩
 ·have Yc:=Rd.gN (r:=r) (e:=20) jC;refine⟨Rd.St.lJ h he Yc,?_⟩;unfold Rd.dI;rw[dH,gM,uJ,if_pos he,if_neg Yc];omega
def Rd.rJ(h:r.Inv)(he:r.e=0):r.name.1.rem+1<=r.rem/\r.name.1.dI+1<=r.dI:=by
 unfold Rd.name;split
 ·rename_i hs;have hk:=Rd.dF hs jC;exact⟨Rd.dc h hk,by show r.inc.dI+1<=_;rw[(Rd.bs h hk.2).2];omega⟩
 ·have Yc:=Rd.gN (r:=r) (e:=20) jC;refine⟨Rd.St.lJ h he Yc,?_⟩;show(r.aC 20).dI+1<=_;unfold Rd.dI;rw[dH,gM,uJ,if_pos he,if_neg Yc];omega
def Rd.gJ(h:r.Inv)(ht:r.is t=true):(r.down.ao t).rem+1<=r.rem/\(r.down.ao t).dI+1<=r.dI:=by
 obtain⟨he,hk⟩:=Rd.aY ht;obtain⟨h1,h2,h3,h4,h5,h6⟩:=Rd.bJ h he;by_cases e:r.down.e=0
 ·obtain⟨a,b⟩:=Rd.nU h1 e t;have:r.down.rem<=r.rem:=by
   unfold Rd.rem;rw[if_pos he,if_pos e,h3,h4];exact Nat.le_refl _
  omega
 ·have hs:=Rd.aJ h1 t;have e2:(r.down.ao t).e≠0:=hs.err e;refine⟨Rd.St.lJ h he e2,?_⟩;have:r.down.dI+1<=r.dI:=by
   have hn:r.down.nodes=r.nodes:=by unfold Rd.down;split<;>simp[dH]
   unfold Rd.dI;rw[hn,h4,h3,if_pos he,if_neg e];omega
  have:=hs.dI;omega
def jU(h:r.Inv):Rd.St r (df r).1:=(td _).2.2.1 0 r h
theorem CH:∀(n:Nat) (b:Bool) (r:Rd) (L:TD),r.Inv->Rd.St r (mX n b r L).1
 |0,_,r,L,h=>by unfold mX;exact .refl h
 |n+1,false,r,L,h=>by unfold mX;exact .refl h
 |n+1,true,r,L,h=>by
  have s1:=jU h;have h1:=s1.inv h;unfold mX;split
  ·rename_i hs;have s2:=(Rd.bs h1 (Rd.aY hs).2).1;exact(s1.trans s2).trans (CH n _ _ _ (s2.inv h1))
  ·exact s1
def xO(h:r.Inv):Rd.St r (pc r):=(Rd.dq h).trans (Rd.aJ ((Rd.dq h).inv h) _)
def Cl(h:r.Inv):Rd.St r (nN r).1:=(xO h).trans (CH _ _ _ _ ((xO h).inv h))
def Qa(h:r.Inv):Rd.St r ((nN r).1.ao (⟨#[41]⟩:TF)):=(Cl h).trans (Rd.aJ ((Cl h).inv h) _)
def Rd.j6(h:r.calls=true):r.kind 3=true:=by unfold Rd.calls at h;simp only[Bool.and_eq_true]at h;exact h.1.1
def BH(h:r.Inv)(hc:r.calls=true):Rd.St r (mD r).1/\(mD r).1.dI+2<=r.dI/\(mD r).1.rem+1<=r.rem:=by
 have hk:=Rd.dF (Rd.j6 hc) jC;have hn:r.name.1=r.inc:=by unfold Rd.name;rw[if_pos (Rd.j6 hc)]
 obtain⟨s1,e1⟩:=Rd.bs h hk.2;have h1:=s1.inv h;have s2:Rd.St r.inc ((nN r).1.ao (⟨#[41]⟩:TF)):=by
  have a1:Rd.St r.inc (pc r):=by unfold pc;rw[hn];exact Rd.aJ h1 _
  have a2:Rd.St r.inc (nN r).1:=a1.trans (CH _ _ _ _ (a1.inv h1));exact a2.trans (Rd.aJ (a2.inv h1) _)
 have hp:=s2.dI;have s3:=Rd.cZ (s1.trans s2) jB 21 r.cO 0 r.name.2 (nN r).2;refine⟨s3,?_,?_⟩
 ·show(((nN r).1.ao (⟨#[41]⟩:TF)).node _).dI+2<=_;rw[Rd.lW];omega
 ·refine s3.tp h hk.1 ?_;have:=s2.i;exact this
def yI(h:r.Inv):Rd.St r (lH r).1:=by
 unfold lH;split
 ·rename_i hs;obtain⟨s1,e1⟩:=Rd.bs h (Rd.aY hs).2;exact Rd.cZ s1 jB _ _ _ _ _
 split
 ·rename_i hs;obtain⟨s1,e1⟩:=Rd.bs h (Rd.aY hs).2;have h1:=s1.inv h;have s2:=Rd.aJ h1 (⟨#[40]⟩:TF);have s3:=jU (s2.inv h1);have s23:=s2.trans s3;have s4:=s23.trans (Rd.aJ (s23.inv h1) (⟨#[41]⟩:TF));exact Rd.cZ (s1.trans s4) (by have:=s4.dI;omega) _ _ _ _ _
 split
 ·rename_i hc;exact(BH h hc).1
 ·exact jU h
def AI(h:r.Inv)(hs:r.is (⟨#[91]⟩:TF)=true):Rd.St r.down (o4 r).1/\Rd.St r ((o4 r).1.ao (⟨#[93]⟩:TF)).up:=by have he:=(Rd.aY hs).1;have h1:=(Rd.bJ h he).1;have s1:=Rd.aJ h1 (⟨#[91]⟩:TF);have s2:=s1.trans (jU (s1.inv h1));exact⟨s2,Rd.fx h he (s2.trans (Rd.aJ (s2.inv h1) _))⟩
def y8(h:r.Inv)(hs:r.is (⟨#[91]⟩:TF)=true):Rd.St r (((o4 r).1.ao (⟨#[93]⟩:TF)).up.ao (⟨#[61]⟩:TF))/\Rd.St r (vW r).1:=by have s1:=(AI h hs).2;have s2:=s1.trans (Rd.aJ (s1.inv h) (⟨#[61]⟩:TF));exact⟨s2,s2.trans (jU (s2.inv h))⟩
def J9(h:r.Inv)(he:r.e=0)(ln:Int):Rd.St r (pB r ln).1/\(pB r ln).1.rem+1<=r.rem:=by
 unfold pB;have s0:=Rd.dq h;have h0:=s0.inv h;obtain⟨n1,n2⟩:=Rd.rJ h he
 -- a name, and what is behind it
 have fin:∀(q:Rd) k L,Rd.St r.name.1 q->Rd.St r (q.put k ln 0 r.name.2 L).1/\(q.put k ln 0 r.name.2 L).1.rem+1<=r.rem:=fun q k L s=>by refine⟨Rd.cZ (s0.trans s) (by have:=s.dI;omega) _ _ _ _ _,?_⟩;have:=s.rem;show q.rem+1<=_;omega
 split
 ·rename_i hc;obtain⟨s1,p1,r1⟩:=BH h hc;have s2:=Rd.aJ (s1.inv h) (⟨#[59]⟩:TF);refine⟨Rd.cZ (s1.trans s2) (by have:=s2.dI;omega) _ _ _ _ _,?_⟩;have:=s2.rem;show((mD r).1.ao (⟨#[59]⟩:TF)).rem+1<=_;omega
 split
 ·rename_i hs;have s1:=(y8 h0 hs).2;exact fin _ _ _ (s1.trans (Rd.aJ (s1.inv h0) _))
 ·have s1:=Rd.aJ h0 (⟨#[61]⟩:TF);have s2:=s1.trans (yI (s1.inv h0));exact fin _ _ _ (s2.trans (Rd.aJ (s2.inv h0) _))
def Rd.gG{w:TF}(h:r.word=w)(h0:w≠⟨#[]⟩):r.kind 4=true:=by
 unfold Rd.word at h;split at h
 ·assumption
 ·exact absurd h.symm h0
theorem sk:∀n,(∀r:Rd,r.Inv->Rd.St r (gb n r).1)/\(∀(r:Rd) L,r.Inv->Rd.St r (mM n r L).1)/\(∀r:Rd,r.Inv->r.e=0->0<n->Rd.St r (nP n r).1/\(nP n r).1.rem+1<=r.rem)
 |0=>⟨fun r h=>by unfold gb;exact .refl h,fun r L h=>by unfold mM;exact .refl h,fun r h he hn=>by omega⟩
 |n+1=>by
  obtain⟨ib,is,it⟩:=sk n;refine⟨fun r h=>?_,fun r L h=>?_,fun r h he _=>?_⟩
  ·unfold gb;split
   ·rename_i hs;have he:=(Rd.aY hs).1;have h1:=(Rd.bJ h he).1;have s1:=Rd.aJ h1 (⟨#[123]⟩:TF);have s2:=is _ [] (s1.inv h1);have s12:=s1.trans s2;have s3:=Rd.aJ (s12.inv h1) (⟨#[125]⟩:TF);have hp:=(Rd.gJ h hs).2;refine Rd.cZ (Rd.fx h he (s12.trans s3)) ?_ _ _ _ _ _;have:=s2.dI;have:=s3.dI;show((mM n (r.down.ao (⟨#[123]⟩:TF)) []).1.ao (⟨#[125]⟩:TF)).dI+1<=_;omega
   ·exact Rd.fP h 20 jC
  ·unfold mM;split
   ·rename_i hc;cases n with
    |zero=>unfold mM nP;exact .refl h
    |succ n=> have s1:=(it r h hc.1 jB).1;exact s1.trans (is _ _ (s1.inv h))
   ·exact .refl h
  ·-- a word, and what is behind it
   have fin:∀(w:TF) (q:Rd) k ln nm L,w≠⟨#[]⟩->r.word=w->(r.inc.Inv->Rd.St r.inc q)->Rd.St r (q.put k ln 0 nm L).1/\(q.put k ln 0 nm L).1.rem+1<=r.rem:=fun w q k ln nm L h0 hw s=>by have hk:=Rd.dF (Rd.gG hw h0) jC;obtain⟨s1,e1⟩:=Rd.bs h hk.2;have s2:=s (s1.inv h);refine⟨Rd.cZ (s1.trans s2) (by have:=s2.dI;omega) _ _ _ _ _,?_⟩;have:=s2.rem;have:=Rd.dc h hk;show q.rem+1<=_;omega
   unfold nP;split
   ·rename_i hw;refine fin _ _ _ _ _ _ jC hw fun h1=>?_
    have s1:=Rd.dq h1;have s2:=s1.trans (Rd.aJ (s1.inv h1) (⟨#[61]⟩:TF));have s3:=s2.trans (yI (s2.inv h1));exact s3.trans (Rd.aJ (s3.inv h1) _)
   split
   ·rename_i hw;refine fin _ _ _ _ _ _ jC hw fun h1=>?_
    have s1:=jU h1;exact s1.trans (Rd.aJ (s1.inv h1) _)
   split
   ·rename_i hw;refine fin _ _ _ _ _ _ jC hw fun h1=>?_
    have s1:=jU h1;exact s1.trans (ib _ (s1.inv h1))
   split
   ·rename_i hw;split
    ·rename_i hs;refine fin _ _ _ _ _ _ jC hw fun h1=>?_
     have s1:=jU h1;have s2:=s1.trans (ib _ (s1.inv h1));have h2:=s2.inv h1;have s3:=(Rd.bs h2 (Rd.aY hs).2).1;exact(s2.trans s3).trans (ib _ (s3.inv h2))
    ·refine fin _ _ _ _ _ _ jC hw fun h1=>?_
     have s1:=jU h1;exact s1.trans (ib _ (s1.inv h1))
   split
   ·rename_i hw;split
    ·exact fin _ _ _ _ _ _ jC hw fun h1=>Rd.aJ h1 _
    ·refine fin _ _ _ _ _ _ jC hw fun h1=>?_
     have s1:=jU h1;exact s1.trans (Rd.aJ (s1.inv h1) _)
   ·exact J9 h he _
def B4(h:r.Inv):Rd.St r (oH r).1:=(sk _).1 r h
def LP(h:sj r.word≠0):r.e=0/\r.tok.kind≠0:=by refine Rd.dF (k:=4) (Rd.gG (r:=r) rfl fun e=>?_) jC;rw[e]at h;exact h jC
def GL(h:r.Inv):Rd.St r (iO r).1:=by
 unfold iO;split
 ·exact Rd.fP h 20 jC
 ·rename_i ht;exact(Rd.bs h (LP ht).2).1
def I2(h:r.Inv):Rd.St r (pE r):=(Rd.dq h).trans (GL ((Rd.dq h).inv h))
theorem Fu:∀(n:Nat) (b:Bool) (r:Rd) (L:List bK),r.Inv->Rd.St r (mo n b r L).1
 |0,_,r,L,h=>by unfold mo;exact .refl h
 |n+1,false,r,L,h=>by unfold mo;exact .refl h
 |n+1,true,r,L,h=>by
  have s1:=I2 h;have h1:=s1.inv h;unfold mo;split
  ·rename_i hs;have s2:=(Rd.bs h1 (Rd.aY hs).2).1;exact(s1.trans s2).trans (Fu n _ _ _ (s2.inv h1))
  ·exact s1
def qu(h:r.Inv):Rd.St r (r.ao (⟨#[102,110]⟩:TF))/\Rd.St r (r.ao (⟨#[102,110]⟩:TF)).name.1/\Rd.St r (np r)/\Rd.St (r.ao (⟨#[102,110]⟩:TF)) (np r):=by have s1:=Rd.aJ h (⟨#[102,110]⟩:TF);have h1:=s1.inv h;have s2:=Rd.dq h1;have s3:=s2.trans (Rd.aJ (s2.inv h1) (⟨#[40]⟩:TF));exact⟨s1,s1.trans s2,s1.trans s3,s3⟩
def AY(h:r.Inv):Rd.St (r.ao (⟨#[102,110]⟩:TF)) (sd r).1:=(qu h).2.2.2.trans (Fu _ _ _ _ ((qu h).2.2.1.inv h))
def yE(h:r.Inv):Rd.St (r.ao (⟨#[102,110]⟩:TF)) (lB r):=(AY h).trans (Rd.aJ ((AY h).inv ((qu h).1.inv h)) _)
def yT(h:r.Inv):Rd.St (r.ao (⟨#[102,110]⟩:TF)) (l8 r).1:=by
 unfold l8;split
 ·exact yE h
 ·exact(yE h).trans (GL ((yE h).inv ((qu h).1.inv h)))
def Jj(h:r.Inv):Rd.St r (mI r).1/\(r.e=0->(mI r).1.rem+1<=r.rem):=by have h1:=(qu h).1.inv h;have s:=(yT h).trans (B4 ((yT h).inv h1));refine⟨(qu h).1.trans s,fun he=>?_⟩;have:=(Rd.nU h he (⟨#[102,110]⟩:TF)).1;have:(oH (l8 r).1).1.rem<=_:=s.rem;show(oH (l8 r).1).1.rem+1<=_;omega
def OL{e:Nat}(he:e<=s.size)(hj:a+j<e):eG (s.extract a e) (j:Nat)=eG s ((a+j:Nat):Int):=by unfold eG;have h1:(s.extract a e).data=s.data.extract a e:=jE;rw[h1];simp only[Int.toNat_natCast];have hs:e<=s.data.size:=he;rw[Array.getElem?_extract];rw[jP]
def K0(ha:a<s.size)(h:(ie s a).2.2=0):(ie s a).1.kind≠0/\((ie s a).1.kind=1->qG (ie s a).1.text):=by
 unfold ie at h ⊢;split at h<;>rename_i h1
 ·rw[if_pos h1];split at h<;>rename_i h2
  ·rw[if_pos h2];refine⟨fun e=>(by cases e),fun _=>?_⟩;have hb:=(uy (p:=j4) (s:=s) (i:=a) jB).2;have hp:=wg ha h1;have Ti:(s.extract a (iK j4 s a)).size=iK j4 s a-a:=by rw[ByteArray.size_extract];omega
   refine⟨by show 0<(s.extract a (iK j4 s a)).size;omega,h2,fun j hj=>?_⟩;have hj:j<(s.extract a (iK j4 s a)).size:=hj;show j4 (eG (s.extract a (iK j4 s a)) j)=true;rw[OL hb jB];exact E4 (n:=s.size+1) (i:=a) jB (by show _<iK j4 s a;omega)
  ·cases h
 ·rw[if_neg h1];split at h<;>rename_i h2
  ·rw[if_pos h2];split at h<;>rename_i h3
   ·rw[if_pos h3];exact⟨fun e=>(by cases e),fun e=>(by cases e)⟩
   ·rw[if_neg h3];split at h<;>rename_i h4
    ·cases h
    ·rw[if_neg h4];exact⟨fun e=>(by cases e),fun e=>(by cases e)⟩
  ·rw[if_neg h2];split at h<;>rename_i h3
   ·rw[if_pos h3];exact⟨fun e=>(by cases e),fun e=>(by cases e)⟩
   ·rw[if_neg h3];split at h<;>rename_i h4
    ·cases h
    ·rw[if_neg h4];exact⟨fun e=>(by cases e),fun e=>(by cases e)⟩
def AJ(t:cz):Prop:=t.kind≠0/\(t.kind=1->qG t.text)
theorem HS(s:TF):∀(n i:Nat) (out:List cz),s.size<n+i->i<=s.size->(lp s n i out).2.2=0->out.length<=i->(∀t∈out,AJ t)->∃ts,(lp s n i out).1=ts++[⟨0,⟨#[]⟩,s.size⟩]/\ts.length<=s.size/\∀t∈ts,AJ t
 |0,i,out,h1,h2,_,_,_=>by omega
 |n+1,i,out,h1,h2,he,hl,ho=>by
  unfold lp at he ⊢;split at he<;>rename_i hi
  ·rw[if_pos hi];split at he<;>rename_i h3
   ·rw[if_pos h3];obtain⟨e,h4,h5,h6⟩:=zN hi h3;rw[h4,Int.toNat_natCast]at he ⊢;have:=vh (s:=s) (i:=e) h6;refine HS s n _ _ jB this.2 he (by rw[List.length_append];simp;omega) fun t ht=>?_
    rcases List.mem_append.1 ht with ht|ht
    ·exact ho t ht
    ·rw[List.mem_singleton.1 ht];exact K0 hi h3
   ·exact(h3 he).elim
  ·rw[if_neg hi];exact⟨out,rfl,jB,ho⟩
def LW(he:(kK s).2.2=0):s.size<=600/\∃ts,(kK s).1=ts++[⟨0,⟨#[]⟩,s.size⟩]/\ts.length<=s.size/\∀t∈ts,AJ t:=by
 unfold kK at he ⊢;split at he<;>rename_i h
 ·cases he
 ·rw[if_neg h];have h0:=vh (s:=s) (i:=0) (Nat.zero_le _);exact⟨jB,HS s (s.size+1) _ _ jB h0.2 he jE fun t ht=>by simp at ht⟩
def Om[Inhabited α]{l m:List α}{k:Nat}(h:k<l.length):nth (l++m) k=nth l k:=by simp only[nth,List.getD_eq_getElem?_getD,List.getElem?_append_left h]
def fh[Inhabited α]{l:List α}{k:Nat}(h:k<l.length):nth l k∈l:=by rw[fJ h];exact List.getElem_mem h
def H7(he:(kK s).2.2=0):(oj s).Inv:=by
 obtain⟨h0,ts,h1,h2,h3⟩:=LW he;have hl:(oj s).l=ts++[⟨0,⟨#[]⟩,s.size⟩]:=h1;have hn:(oj s).l.length=ts.length+1:=by rw[hl];simp
 have Tj:nth (ts++[⟨0,⟨#[]⟩,s.size⟩]:List cz) ts.length=⟨0,⟨#[]⟩,s.size⟩:=by simp[nth]
 refine⟨by show s.size<=1000;omega,Int.le_refl _,by show(0:Int)<_;omega,jB,fun k hk TQ=>?_,fun k hk TQ=>?_,Int.le_refl _,by show(0:Int)<=17;decide,fun _=>by show(0:Int)<=16;decide,?_⟩
 ·rw[hl]at TQ ⊢;by_cases e:k<ts.length
  ·rw[Om e]at TQ ⊢;exact(h3 _ (fh e)).2 TQ
  ·have:k=ts.length:=jB;subst this;rw[Tj]at TQ;cases TQ
 ·by_cases e:k<ts.length
  ·omega
  ·have:k=ts.length:=jB;subst this;rw[hl,Tj]at TQ;exact(TQ rfl).elim
 ·show((0:Nat):Int)+3*((oj s).l.length-0)+1<=8000;omega
end Go.Gd
namespace Go.Proofs.YtjpcgmjaipfgdaaGreatDoor
open Go Go.Gd Tryz
@[go_sem] def qe0:de prog 3=some 1/\dB prog 3=some false/\dM prog 3=some [.int .i64 0]/\gT prog 3=false/\s9 prog 3=false/\wm prog 3=false/\Au prog 3=some .i64/\ki prog 3=8/\dB prog 4=some false/\gT prog 4=false/\s9 prog 4=false/\wm prog 4=true/\de prog 5=some 1/\dB prog 5=some false/\de prog 9=some 1/\dB prog 9=some false/\dM prog 9=some [.string ⟨#[]⟩]/\sQ prog 9=true/\ki prog 9=16/\de prog 22=some 1/\dB prog 22=some false/\dM prog 22=some [.slice none 0 0]/\ij prog 22=some 3/\iy prog 22=some 1:=by and_intros<;>kernel_rfl
@[go_sem] def qaU:gT prog 22=true/\ki prog 22=24/\de prog 27=some 1/\dB prog 27=some false/\ij prog 27=some 116/\iy prog 27=some 5/\gT prog 27=true/\de prog 28=some 1/\dB prog 28=some false/\ij prog 28=some 181/\iy prog 28=some 5/\gT prog 28=true/\de prog 30=some 2/\dB prog 30=some true/\dM prog 30=some [.slice none 0 0,.slice none 0 0]/\cC prog 30 0=some 0/\cC prog 30 1=some 1/\iY prog 30=some [(0,1),(1,1)]/\de prog 32=some 6/\dB prog 32=some true/\dM prog 32=some [.slice none 0 0,.slice none 0 0,.slice none 0 0,.slice none 0 0,.slice none 0 0,.slice none 0 0]/\cC prog 32 0=some 0/\cC prog 32 1=some 2/\cC prog 32 2=some 3:=by and_intros<;>kernel_rfl
@[go_sem] def j6R:cC prog 32 3=some 4/\cC prog 32 4=some 5/\iY prog 32=some [(0,2),(2,1),(3,1),(4,1),(5,1)]/\de prog 33=some 1/\dB prog 33=some false/\de prog 41=some 1/\dB prog 41=some false/\ij prog 41=some 137/\iy prog 41=some 3/\gT prog 41=true/\ij prog 42=some 22/\de prog 43=some 1/\dB prog 43=some false/\ij prog 43=some 9/\iy prog 43=some 1/\gT prog 43=true/\de prog 45=some 7/\dB prog 45=some true/\dM prog 45=some [.slice none 0 0,.slice none 0 0,.int .i64 0,.slice none 0 0,.int .i64 0,.int .i64 0,.int .i64 0]/\cC prog 45 0=some 0/\cC prog 45 2=some 2/\cC prog 45 4=some 4/\cC prog 45 6=some 6/\uE prog 45 6=some (3,6):=by and_intros<;>kernel_rfl
@[go_sem] def qeo:iY prog 45=some [(0,1),(1,1),(2,1),(3,1),(4,1),(5,1),(6,1)]/\de prog 50=some 1/\dB prog 50=some false/\ij prog 50=some 56/\iy prog 50=some 5/\gT prog 50=true/\de prog 52=some 4/\dB prog 52=some true/\dM prog 52=some [.string ⟨#[]⟩,.slice none 0 0,.slice none 0 0,.slice none 0 0]/\cC prog 52 0=some 0/\cC prog 52 1=some 1/\cC prog 52 2=some 2/\cC prog 52 3=some 3/\iY prog 52=some [(0,1),(1,1),(2,1),(3,1)]/\ki prog 52=88/\de prog 54=some 3/\dB prog 54=some true/\dM prog 54=some [.int .i64 0,.int .i64 0,.string ⟨#[]⟩]/\cC prog 54 0=some 0/\cC prog 54 1=some 1/\uE prog 54 1=some (3,1)/\cC prog 54 2=some 2/\iY prog 54=some [(0,1),(1,1),(2,1)]/\ki prog 54=32:=by and_intros<;>kernel_rfl
@[go_sem] def qeG:de prog 56=some 5/\dB prog 56=some true/\dM prog 56=some [.int .i64 0,.string ⟨#[]⟩,.int .i64 0,.int .i64 0,.string ⟨#[]⟩]/\cC prog 56 0=some 0/\cC prog 56 1=some 1/\cC prog 56 2=some 2/\iY prog 56=some [(0,1),(1,1),(2,3)]/\zP prog 56=some [.int .i64,.str,.int .i64,.int .i64,.str]/\ki prog 56=56/\iy prog 87=some 7/\gT prog 87=true/\de prog 88=some 1/\dB prog 88=some false/\ij prog 88=some 52/\iy prog 88=some 4/\gT prog 88=true/\de prog 90=some 3/\dB prog 90=some true/\dM prog 90=some [.slice none 0 0,.int .i64 0,.int .i64 0]/\cC prog 90 0=some 0/\cC prog 90 1=some 1/\cC prog 90 2=some 2/\iY prog 90=some [(0,1),(1,1),(2,1)]/\de prog 93=some 7:=by and_intros<;>kernel_rfl
@[go_sem] def qcL:dB prog 93=some true/\dM prog 93=some [.int .u8 0,.int .i64 0,.string ⟨#[]⟩,.string ⟨#[]⟩,.int .i64 0,.int .i64 0,.string ⟨#[]⟩]/\cC prog 93 0=some 0/\cC prog 93 1=some 1/\cC prog 93 2=some 2/\cC prog 93 3=some 3/\cC prog 93 4=some 4/\de prog 116=some 5/\dB prog 116=some true/\dM prog 116=some [.int .i64 0,.int .i64 0,.int .i64 0,.string ⟨#[]⟩,.slice none 0 0]/\cC prog 116 0=some 0/\cC prog 116 1=some 1/\cC prog 116 2=some 2/\cC prog 116 3=some 3/\cC prog 116 4=some 4/\uE prog 116 4=some (22,4)/\iY prog 116=some [(0,1),(1,1),(2,1),(3,1),(4,1)]/\ki prog 116=64/\de prog 119=some 1/\dB prog 119=some false/\de prog 135=some 1/\dB prog 135=some false/\ij prog 135=some 54/\iy prog 135=some 3:=by and_intros<;>kernel_rfl
@[go_sem] def j7m:gT prog 135=true/\sQ prog 135=false/\de prog 137=some 3/\dM prog 137=some [.int .i64 0,.int .i64 0,.slice none 0 0]/\cC prog 137 1=some 1/\iY prog 137=some [(0,1),(1,1),(2,1)]/\ki prog 137=40/\de prog 172=some 1/\dB prog 172=some false/\ij prog 172=some 248/\iy prog 172=some 3/\dM prog 177=some [.string ⟨#[]⟩,.slice none 0 0,.int .i64 0,.slice none 0 0,.int .i64 0,.int .i64 0,.int .i64 0]/\cC prog 177 0=some 0/\cC prog 177 1=some 1/\cC prog 177 2=some 2/\cC prog 177 3=some 3/\cC prog 177 4=some 4/\cC prog 177 5=some 5/\cC prog 177 6=some 6/\iY prog 177=some [(0,1),(1,1),(2,1),(3,1),(4,1),(5,1),(6,1)]/\de prog 178=some 1/\dB prog 178=some false/\dM prog 178=some [.nilFunc]/\de prog 179=some 1:=by and_intros<;>kernel_rfl
@[go_sem] def j8a:dB prog 179=some false/\ij prog 179=some 254/\iy prog 179=some 2/\gT prog 179=true/\de prog 181=some 5/\dB prog 181=some true/\dM prog 181=some [.string ⟨#[]⟩,.int .i64 0,.slice none 0 0,.int .i64 0,.int .i64 0]/\cC prog 181 0=some 0/\cC prog 181 2=some 2/\cC prog 181 3=some 3/\cC prog 181 4=some 4/\iY prog 181=some [(0,1),(1,1),(2,1),(3,1),(4,1)]/\ki prog 181=64/\de prog 184=some 1/\dB prog 184=some false/\dM prog 184=some [.slice none 0 0]/\ij prog 184=some 258/\iy prog 184=some 3/\gT prog 184=true/\dM prog 186=some [.slice none 0 0,.slice none 0 0,.slice none 0 0,.slice none 0 0,.slice none 0 0,.slice none 0 0,.int .i64 0,.slice none 0 0,.int .i64 0,.int .i64 0,.int .i64 0]/\cC prog 186 0=some 0/\cC prog 186 1=some 6/\cC prog 186 2=some 7/\cC prog 186 3=some 8:=by and_intros<;>kernel_rfl
@[go_sem] def j47:cC prog 186 4=some 9/\cC prog 186 5=some 10/\iY prog 186=some [(0,6),(6,1),(7,1),(8,1),(9,1),(10,1)]/\de prog 197=some 1/\dB prog 197=some false/\ij prog 197=some 219/\iy prog 197=some 4/\gT prog 197=true/\de prog 199=some 2/\dB prog 199=some true/\dM prog 199=some [.slice none 0 0,.slice none 0 0]/\cC prog 199 0=some 0/\cC prog 199 1=some 1/\iY prog 199=some [(0,1),(1,1)]/\de prog 201=some 1/\dB prog 201=some false/\de prog 203=some 1/\dB prog 203=some false/\ij prog 203=some 213/\iy prog 203=some 1/\gT prog 203=true/\dM prog 205=some [.slice none 0 0,.slice none 0 0,.slice none 0 0,.slice none 0 0,.slice none 0 0,.slice none 0 0,.slice none 0 0,.slice none 0 0,.slice none 0 0,.pointer none,.slice none 0 0,.int .i64 0,.int .i64 0,.int .i64 0,.int .i64 0]/\cC prog 205 0=some 0/\cC prog 205 1=some 6:=by and_intros<;>kernel_rfl
@[go_sem] def j5d:cC prog 205 2=some 8/\cC prog 205 3=some 9/\cC prog 205 4=some 10/\cC prog 205 5=some 11/\cC prog 205 6=some 12/\cC prog 205 7=some 13/\cC prog 205 8=some 14/\iY prog 205=some [(0,6),(6,2),(8,1),(9,1),(10,1),(11,1),(12,1),(13,1),(14,1)]/\de prog 213=some 1/\dB prog 213=some false/\dM prog 213=some [.pointer none]/\ki prog 213=8/\cC prog 215 0=some 0/\dM prog 217=some [.slice none 0 0,.int .i64 0,.int .i64 0,.int .i64 0,.slice none 0 0]/\cC prog 217 0=some 0/\cC prog 217 1=some 1/\cC prog 217 2=some 2/\cC prog 217 3=some 3/\cC prog 217 4=some 4/\iY prog 217=some [(0,1),(1,1),(2,1),(3,1),(4,1)]/\de prog 219=some 4/\dB prog 219=some true/\dM prog 219=some [.int .i64 0,.int .i64 0,.int .i64 0,.string ⟨#[]⟩]/\cC prog 219 0=some 0:=by and_intros<;>kernel_rfl
@[go_sem] def j5r:cC prog 219 1=some 1/\cC prog 219 2=some 2/\cC prog 219 3=some 3/\iY prog 219=some [(0,1),(1,1),(2,1),(3,1)]/\ki prog 219=40/\de prog 248=some 3/\dB prog 248=some true/\dM prog 248=some [.int .i64 0,.string ⟨#[]⟩,.int .i64 0]/\cC prog 248 0=some 0/\cC prog 248 1=some 1/\cC prog 248 2=some 2/\iY prog 248=some [(0,1),(1,1),(2,1)]/\ki prog 248=32/\de prog 254=some 2/\dB prog 254=some true/\dM prog 254=some [.string ⟨#[]⟩,.int .i64 0]/\cC prog 254 0=some 0/\cC prog 254 1=some 1/\iY prog 254=some [(0,1),(1,1)]/\ki prog 254=24/\de prog 258=some 3/\dB prog 258=some true/\dM prog 258=some [.string ⟨#[]⟩,.int .i64 0,.int .i64 0]/\cC prog 258 0=some 0:=by and_intros<;>kernel_rfl
@[go_sem] def j5A:cC prog 258 1=some 1/\cC prog 258 2=some 2/\iY prog 258=some [(0,1),(1,1),(2,1)]/\ki prog 258=32/\de prog 267=some 7/\dM prog 267=some [.slice none 0 0,.slice none 0 0,.slice none 0 0,.slice none 0 0,.slice none 0 0,.slice none 0 0,.slice none 0 0]/\cC prog 267 0=some 0/\cC prog 267 1=some 6/\iY prog 267=some [(0,6),(6,1)]/\dM prog 269=some [.slice none 0 0,.slice none 0 0]/\cC prog 269 0=some 0/\cC prog 269 1=some 1/\iY prog 269=some [(0,1),(1,1)]/\xL prog 281=false/\dM prog 283=some [.slice none 0 0,.slice none 0 0,.slice none 0 0,.slice none 0 0,.slice none 0 0,.slice none 0 0,.pointer none,.slice none 0 0]/\cC prog 283 0=some 0/\cC prog 283 1=some 6/\cC prog 283 2=some 7/\iY prog 283=some [(0,6),(6,1),(7,1)]/\aT prog 13=true/\aT prog 24=true/\aT prog 27=true/\aT prog 28=true/\aT prog 29=true:=by and_intros<;>kernel_rfl
@[go_sem] def qc3:aT prog 35=true/\aT prog 36=true/\aT prog 37=true/\aT prog 38=true/\aT prog 39=true/\aT prog 40=true/\aT prog 41=true/\aT prog 42=true/\aT prog 43=true/\aT prog 44=true/\aT prog 45=true/\aT prog 46=true/\aT prog 47=true/\aT prog 48=true/\aT prog 49=true/\aT prog 52=true/\aT prog 53=true/\aT prog 55=true/\aT prog 56=true/\aT prog 58=true/\aT prog 63=true/\aT prog 67=true/\aT prog 68=true/\aT prog 69=true:=by and_intros<;>kernel_rfl
@[go_sem] def qdr:aT prog 70=true/\aT prog 71=true/\aT prog 74=true/\aT prog 75=true/\aT prog 76=true/\aT prog 82=true/\aT prog 84=true/\aT prog 85=true/\aT prog 86=true/\aT prog 87=true/\aT prog 88=true/\aT prog 89=true/\aT prog 90=true/\aT prog 91=true/\aT prog 92=true/\aT prog 93=true/\aT prog 94=true/\aT prog 95=true/\aT prog 96=true/\aT prog 97=true/\aT prog 98=true/\aT prog 100=true/\aT prog 101=true/\aT prog 102=true:=by and_intros<;>kernel_rfl
@[go_sem] def j8z:aT prog 103=true/\aT prog 104=true/\aT prog 105=true/\aT prog 110=true/\aT prog 111=true/\aT prog 112=true/\aT prog 113=true/\aT prog 114=true/\aT prog 116=true/\aT prog 117=true/\aT prog 118=true/\aT prog 119=true/\aT prog 120=true/\aT prog 123=true/\aT prog 124=true/\aT prog 125=true/\aT prog 126=true/\aT prog 127=true/\aT prog 129=true/\aT prog 130=true/\aT prog 131=true/\aT prog 137=true/\aT prog 138=true/\aT prog 142=true:=by and_intros<;>kernel_rfl
@[go_sem] def j8X:aT prog 143=true/\aT prog 144=true/\aT prog 145=true/\aT prog 146=true/\aT prog 147=true/\aT prog 148=true/\aT prog 149=true/\aT prog 150=true/\aT prog 151=true/\aT prog 152=true/\aT prog 159=true/\aT prog 160=true/\aT prog 161=true/\aT prog 162=true/\aT prog 163=true/\aT prog 164=true/\aT prog 165=true/\aT prog 166=true/\aT prog 167=true/\aT prog 168=true/\aT prog 169=true/\aT prog 171=true/\aT prog 172=true/\aT prog 173=true:=by and_intros<;>kernel_rfl
@[go_sem] def j9l:aT prog 174=true/\aT prog 175=true/\aT prog 177=true/\aT prog 184=true/\aT prog 185=true/\aT prog 186=true/\aT prog 187=true/\aT prog 188=true/\aT prog 189=true/\aT prog 190=true/\aT prog 191=true/\aT prog 192=true/\aT prog 193=true/\aT prog 194=true/\aT prog 195=true/\aT prog 196=true/\aT prog 197=true/\aT prog 200=true/\aT prog 201=true/\aT prog 202=true/\aT prog 203=true/\aT prog 204=true/\aT prog 205=true/\aT prog 206=true:=by and_intros<;>kernel_rfl
@[go_sem] def j9J:aT prog 207=true/\aT prog 208=true/\aT prog 209=true/\aT prog 210=true/\aT prog 211=true/\aT prog 212=true/\aT prog 213=true/\aT prog 214=true/\aT prog 215=true/\aT prog 216=true/\aT prog 217=true/\aT prog 218=true/\aT prog 219=true/\aT prog 220=true/\aT prog 221=true/\aT prog 222=true/\aT prog 231=true/\aT prog 232=true/\aT prog 233=true/\aT prog 234=true/\aT prog 235=true/\aT prog 236=true/\aT prog 237=true/\aT prog 238=true:=by and_intros<;>kernel_rfl
@[go_sem] def j97:aT prog 240=true/\aT prog 241=true/\aT prog 242=true/\aT prog 243=true/\aT prog 244=true/\aT prog 245=true/\aT prog 246=true/\aT prog 254=true/\aT prog 255=true/\aT prog 256=true/\aT prog 257=true/\aT prog 258=true/\aT prog 259=true/\aT prog 260=true/\aT prog 261=true/\aT prog 262=true/\aT prog 269=true/\aT prog 270=true/\aT prog 271=true/\aT prog 272=true/\aT prog 273=true/\aT prog 276=true/\aT prog 277=true/\aT prog 280=true:=by and_intros<;>kernel_rfl
@[go_sem] def qav:aT prog 309=true/\aT prog 310=true/\aT prog 311=true:=by and_intros<;>kernel_rfl
def mixed:prog.follows .mixedOrders=true:=jG
def jx:qc prog 229=some (false,3):=jG
def qI:qc prog 354=some (true,3):=jG
end Go.Proofs.YtjpcgmjaipfgdaaGreatDoor