/- Lemmas. No conditions. -/
import Derived.Test.YtjpcgmjaipfgdaaGreatDoorGdY
import Derived.ProofKit
import Derived.Deep.Slices
import Derived.Carry
import Derived.Laws.MakeOwn
import Derived.OpenShut
import Derived.MapKept
import Derived.Lib.Overlaps
import Derived.Test.YtjpcgmjaipfgdaaGreatDoorProg
import Derived.KernelRfl
set_option linter.all false
namespace Go.Gd
open Go Go.ChangeShapes Go.WideShapes Go.ChangeAt Go.RowKit Go.Deep
@[reducible] def n0(w:World):NW:={ toWorld:=w,O:=fun _=>False,nm:=fun _ _=>none }
def oI(P:TO)(t:TJ)(S:TE->Prop):Prop:=
 ∀(T:Type) (enc:TJ×Value->T) (w:World) (fuel:Nat) (cs:TM) (x:DataW T×List MemPlace),
  DataW.trod enc P w 0 (fun _=>true) true fuel t cs=some x->∃us,S us/\bY (n0 w) us cs
section
variable {P:TO}{t:TJ}
def oI.mono{S S':TE->Prop}(h:oI P t S)(hs:∀us,S us->S' us):oI P t S':=fun T enc w fuel cs x hx=>by obtain⟨us,h1,h2⟩:=h T enc w fuel cs x hx;exact⟨us,hs us h1,h2⟩
def vJ{w:NW}{a:AV}{v:Value}(h:ax w a v):bY w [a] [v]:=⟨rfl,fun i b u hb hu=>by
 cases i with
 |zero=>simp at hb hu;subst hb hu;exact h
 |succ i=>simp at hb⟩
def Ow{w:NW}{a:AV}{v:Value}{us:TE}{vs:TM}(h:ax w a v)(hs:bY w us vs):bY w (a::us) (v::vs):=⟨by simp[hs.1],fun i b u hb hu=>by
 cases i with
 |zero=>simp at hb hu;subst hb hu;exact h
 |succ i=>exact hs.2 i b u (by simpa using hb) (by simpa using hu)⟩
def xU{k:IntKind}(ht:P.underlying t=some (.int k)):oI P t (fun us=>∃n:Int,(Lit.int k n).wf=true/\us=[.raw (.int k n)]):=fun T enc w fuel cs x hx=>by obtain⟨n,rfl,_,hwf⟩:=DataW.trod_int ht hx;exact⟨_,⟨n,hwf,rfl⟩,vJ (.raw _)⟩
def z6(ht:P.underlying t=some .string):oI P t (fun us=>∃s:TI,us=[.raw (.string s)]):=fun T enc w fuel cs x hx=>by obtain⟨n,rfl,_,hwf⟩:=DataW.trod_string ht hx;exact⟨_,⟨n,rfl⟩,vJ (.raw _)⟩
def Cb:List (TE->Prop)->TE->Prop
 |[],us=>us=[]
 |S::Ss,us=>∃a b,S a/\Cb Ss b/\us=a++b
def Aw(P:TO):List Field->List (TE->Prop)->Prop
 |[],[]=>True
 |f::l,S::Ss=>oI P f.type S/\Aw P l Ss
 |_,_=>False
def xi(P:TO):List Field->Nat->TN
 |[],o,n=>o == n
 |f::l,o,n=>f.offset == o && xi P l (o+P.cellsOf f.type) n
def LW{w:NW}{us vs:TE}{cs:TM}{o n:Nat}(h1:bY w us ((cs.drop o).take n))(h2:bY w vs (cs.drop (o+n)))(hn:o+n<=cs.length):bY w (us++vs) (cs.drop o):=by
 have l1:us.length=n:=by rw[h1.1,List.length_take,List.length_drop];omega
 refine⟨by rw[List.length_append,l1,h2.1,List.length_drop,List.length_drop];omega,fun i a v ha hv=>?_⟩;by_cases hi:i<n
 ·rw[List.getElem?_append_left jB]at ha;exact h1.2 i a v ha (by rw[List.getElem?_take,if_pos hi];exact hv)
 ·rw[List.getElem?_append_right jB,l1]at ha;refine h2.2 (i-n) a v ha ?_;rw[List.getElem?_drop]at hv ⊢;rw[show o+n+(i-n)=o+i from jB];exact hv
theorem D1{T:Type}{enc:TJ×Value->T}{w:World}{m:Nat}{cs:TM}:∀(l:List Field) (Ss:List (TE->Prop)) (o:Nat),Aw P l Ss->xi P l o cs.length=true->
  (∀f∈l,∃y,DataW.trod enc P w 0 (fun _=>true) true m f.type ((cs.drop f.offset).take (P.cellsOf f.type))=some y)->∃us,Cb Ss us/\bY (n0 w) us (cs.drop o)/\o<=cs.length
 |[],[],o,_,ho,_=>by simp only[xi,beq_iff_eq]at ho;subst ho;exact⟨[],rfl,by rw[List.drop_length];exact⟨rfl,fun i a v ha=>by simp at ha⟩,Nat.le_refl _⟩
 |f::l,S::Ss,o,hd,ho,hf=>by
  simp only[xi,Bool.and_eq_true,beq_iff_eq]at ho;obtain⟨y,hy⟩:=hf f jE;rw[ho.1]at hy;obtain⟨a,ha,VI⟩:=hd.1 T enc w m _ y hy;obtain⟨b,hb,hrb,T3⟩:=D1 l Ss _ hd.2 ho.2 fun g hg=>hf g (by simp[hg])
  exact⟨a++b,⟨a,b,ha,hb,rfl⟩,LW VI hrb T3,jB⟩
 |[],_::_,_,hd,_,_=>hd.elim
 |_::_,[],_,hd,_,_=>hd.elim
def I4{fs:Array Field}{Ss:List (TE->Prop)}(ht:P.underlying t=some (.struct fs))(ho:xi P fs.toList 0 (P.cellsOf t)=true)(hd:Aw P fs.toList Ss):oI P t (Cb Ss):=fun T enc w fuel cs x hx=>by
 obtain⟨xs,n,rfl,rfl,hl,hn,hf⟩:=DataW.trod_struct ht hx;obtain⟨us,h1,h2,_⟩:=D1 (T:=T) (enc:=enc) (w:=w) (m:=n) (cs:=cs) fs.toList Ss 0 hd (by rw[hl];exact ho) fun f Yx=>by obtain⟨i,hi,e⟩:=List.getElem_of_mem Yx;have:=hf i f (by rw[<-Array.getElem?_toList,List.getElem?_eq_getElem hi,e]);rw[List.getElem?_eq_getElem (by rw[hn];simpa using hi)]at this;exact⟨_,this⟩
 exact⟨us,h1,by simpa using h2⟩
def K2{e:TJ}{α:Type}[Inhabited α]{ok:α->Prop}{encA:α->TE}{sz:Nat}(ht:P.underlying t=some (.slice e))(hc:P.cellsOf e=sz)(TU:0<sz)(he:oI P e (fun us=>∃a,ok a/\us=encA a))(hl:∀a,(encA a).length=sz) :
  oI P t (fun us=>∃l:List α,((∀a∈l,ok a)/\l.length<=9223372036854775807)/\us=[aO encA sz l]):=fun T enc w fuel cs x hx=>by
 rcases open_slice ht hx with⟨rfl,_⟩|⟨a,len,cap,m,n,D,Pl,rfl,_,hlc,T0,hm,_,hr⟩
 ·exact⟨_,⟨[],⟨jE,jE⟩,rfl⟩,vJ (.gu _ _ _ _ jE)⟩
 ·simp only[if_true]at hm;obtain rfl:cap=m:=hm.symm;have Uw:∀i,i<len->∃g:α,ok g/\∃cs',w.cells? 0 (a.add (i*sz)) sz=some cs'/\bY (n0 w) (encA g) cs':=fun i hi=>by
   obtain⟨cs',h1,h2⟩:=hr i jB;rw[hc]at h1;obtain⟨us,⟨g,hok,rfl⟩,T8⟩:=he T enc w n cs' _ h2;exact⟨g,hok,cs',h1,T8⟩
  obtain⟨g,hg⟩:∃g:Nat->α,∀i,i<len->ok (g i)/\∃cs',w.cells? 0 (a.add (i*sz)) sz=some cs'/\bY (n0 w) (encA (g i)) cs':=by
   classical
   exact⟨fun i=>if h:i<len then(Uw i h).choose else default,fun i hi=>by simp only[dif_pos hi];exact(Uw i hi).choose_spec⟩
  have UE:((List.range len).map g).length=len:=jE;refine⟨_,⟨(List.range len).map g,⟨fun y hy=>?_,by rw[UE];have:cap<=9223372036854775807:=T0;omega⟩,rfl⟩,vJ ?_⟩
  ·obtain⟨i,hi,rfl⟩:=List.mem_map.1 hy;exact(hg i (by simpa using hi)).1
  ·have Tx:(((List.range len).map g).map encA).length=len:=jE;have hn:∀i,i<len->(((List.range len).map g).map encA).getD i []=encA (g i):=fun i hi=>by simp[List.getD_eq_getElem?_getD,hi]
   by_cases h0:len=0
   ·subst h0;exact .gu _ _ _ _ jE
   ·have D':∀i j,i<len->j<sz->∃v,w.cell? (a.add (i*sz+j))=some v/\∀u,(encA (g i))[j]?=some u->ax (n0 w) u v:=fun i j hi hj=>by
     obtain⟨_,cs',h1,h2⟩:=hg i hi;obtain⟨_,I',Ut⟩:=World.cells?_some h1;have hv:cs'[j]?=some cs'[j]:=List.getElem?_eq_getElem jB;refine⟨cs'[j],?_,fun u hu=>h2.2 j u _ hu hv⟩;rw[<-wD,Ut j hj,hv]
    have:=ax.sl (w:=n0 w) (d:=encA default) false sz (((List.range len).map g).map encA) a cap (fun k=>(w.cell? (a.add k)).getD undef) jB jB jE (fun cs UD=>by
     obtain⟨y,_,rfl⟩:=List.mem_map.1 UD;exact hl y) (by
     obtain⟨_,cs',h1,_⟩:=hg 0 jB;have:=World.cells?_block h1 TU;rwa [px]at this) (fun h=>h) (fun i j hi hj=>by
     obtain⟨v,hv,_⟩:=D' i j jB hj;rw[hv];rfl) (fun i j u hi hu=>by
     rw[hn i jB]at hu;have hj:j<sz:=by rw[<-hl (g i)];exact(List.getElem?_eq_some_iff.1 hu).1
     obtain⟨v,hv,T8⟩:=D' i j jB hj;rw[hv];exact T8 u hu)
    rw[Tx]at this;exact this
-- arguments
variable {T:Type}{enc:TJ×Value->T}{w:World}{v:Value}{d:DataW T}{ps:List MemPlace}{base:Nat}
def Px{S:AV->Prop}(hd:oI P t (fun us=>∃a,S a/\us=[a]))(hv:v.cells.toList=[v])(h:DataW.Trod enc P w 0 (fun _=>true) true t v d ps):∃a,S a/\ax (n0 w) a v:=by obtain⟨fuel,hf⟩:=h;rw[hv]at hf;obtain⟨us,⟨a,hs,rfl⟩,hr⟩:=hd T enc w fuel _ _ hf;exact⟨a,hs,hr.2 0 a v rfl rfl⟩
end
section
variable {P:TO}{T:Type}{enc:TJ×Value->T}
theorem DJ(hl:laidOutB P=true){W W':World}(hb:Below W.heap.size W W'):∀(ts:List TJ) (vs:TM) (ds:List (DataW T)) (ps:List MemPlace),(∀t∈ts,P.readableRec t=true/\t<P.types.size)->
  DataW.TrodAll enc P W 0 (fun _=>true) true ts vs ds ps->(∀x∈ps,x.block<W.heap.size)->DataW.TrodAll enc P W' 0 (fun b=>decide (b<W.heap.size)) true ts vs ds ps
 |[],[],[],ps,_,h,_=>h
 |t::ts,v::vs,d::ds,ps,hr,h,O'=>by obtain⟨p,q,h1,h2,rfl⟩:=h;exact⟨p,q,Below.trod hl (hr t jE).1 (hr t jE).2 h1 hb fun x hx=>O' x (by simp[hx]),DJ hl hb ts vs ds q (fun t ht=>hr t (by simp[ht])) h2 fun x hx=>O' x (by simp[hx]),rfl⟩
 |[],_::_,_,_,_,h,_=>h.elim
 |[],[],_::_,_,_,h,_=>h.elim
 |_::_,[],_,_,_,h,_=>h.elim
 |_::_,_::_,[],_,_,h,_=>h.elim
def PF{fn:Func}{s:ChangeSpec}{apart oC handsOn:Bool}{W W':World}{args:TL}{ds:List (DataW T)}{before:List MemPlace}{tb:TJ}(hW:DataW.Whole enc P fn.params.toList s.vars apart W args.toList ds [] before)
  (hx:Below W.heap.size W W') (hl:laidOutB P=true) (hr:∀t∈fn.params.toList,P.readableRec t=true/\t<P.types.size) (hrt:fn.resultTypes=#[tb]) (hb:P.underlying tb=some .bool) (hv:s.vars=[])
  (e1:(s.fn T (ds++[])).results=[.lit (.bool true)]) (e2:(s.fn T (ds++[])).args=ds) (e3:(s.fn T (ds++[])).vars=[]):s.post enc P fn apart oC handsOn false W args (.bool true) W':=by
 have hW':=hW;obtain⟨p,q,hA,hV,rfl,hfz,Y0⟩:=hW;rw[hv]at hV;have hq:q=[]:=hV;subst hq;refine⟨ds,[],_,[],p,[],hW',?_,?_,?_,hx.frame _,fun h=>by cases h⟩
 ·rw[hrt,e1];exact trodAll_mk1 (shut_bool hb true)
 ·rw[e2];exact DJ hl hx _ _ _ _ hr hA fun x Ug=>by simpa using hW'.lt x (by simpa using Ug)
 ·rw[hv,e3];exact rfl
def Em(W:World)(hg:jR (n0 W)):aJ (n0 W) (entry []):={
 bX:=hg
 rows:=fun i r h=>(by cases h)
 df:=fun i m z h=>(by cases h)
 inj:=fun i m j n b t s t' s' h _=>(by cases h)
 own:=fun i m b t s h=>(by cases h)
 fin:=fun b h=>h.elim }
def OO{f:FuncId}{avs:TE}{args:TL}{W:World}(hg:jR (n0 W))(h:aB P f avs (.raw (.bool true)))(ha:bY (n0 W) avs args.toList):Calls P f args W fun e W'=>e=.returned (.bool true)/\Below W.heap.size W W':=by refine(h (n0 W) args (Em W hg) ⟨by rw[ha.1];simp,fun i a v h1 h2=>ha.2 i a v h1 (by rw[Array.getElem?_toList];exact h2)⟩).mono ?_;rintro e w' ⟨v,r,H',w2,rfl,rfl,⟨rfl,_⟩,_,g2,g3⟩;have:=dc g2;subst this;exact⟨rfl,⟨g3.os,g3.tape,g3.output,g3.size,fun k hk=>(g3.free k hk (fun h=>h)).1⟩⟩
end
section
variable {P:TO}{f:FuncId}{args cs:TE}{H:Hp}{K:TB}{q:Prop}
def cl{l l0:TD}{r0:AV}(hc:ab P f (args++cs) l fun r l'=>r=r0/\l'=l0)(k:q)(h1:ra l H:=by exact dv)(h0:aU P f=true:=by exact dv)(h2:aX (fun i=>(ids l).contains i) (args++cs)=true:=by exact dv)(h3:rK (fun i=>(ids l).contains i) l:=by exact dv)
 (h4:oC (ids l) H l0:=by exact dv) (h5:(ids l0).Nodup:=by exact dv) (e:K r0 ⟨H.B,gx H.l l0⟩=q:=by exact fm):fa P (.dP f cs) args H K:=OP h0 (vW hc h1 h2 h3 h4 h5 (e ▸ k))
def cq{R:AV->Prop}{r0:AV}(hc:aB P f args r0)(k:q)(h0:aU P f=true:=by exact dv)(h2:aX eo args=true:=by exact dv)(e:R r0=q:=by exact fm) :
  ∃r,(fa P (.raw (.func (.func f) #[] #[])) args H fun r' H'=>r'=r/\H'=H)/\R r:=⟨r0,nQ h0 (za hc h2 ⟨rfl,rfl⟩),e ▸ k⟩
end
def Sub(a' a:AV):Prop:=∀(w:NW) v,ax w a' v->ax w a v
def ng:TE->TE->Prop
 |[],[]=>True
 |a::l,b::m=>Sub a b/\ng l m
 |_,_=>False
def Sub.refl(a:AV):Sub a a:=fun _ _ h=>h
def Sub.nil(sz:Nat)(d:TE):Sub (.raw (.slice none 0 0)) (.sl false sz [] d):=fun w v h=>by have:=dc h;subst this;exact .gu _ _ _ _ jE
def Sub.lit(sz:Nat)(css:TC)(d d':TE):Sub (.sl true sz css d) (.sl false sz css d'):=fun w v h=>by
 cases h with
 |gu _ _ A c _=>exact .gu _ _ _ _ jE
 |sl _ _ _ a c vs hn hc hx TU hb hH D' h=>exact .sl false sz css a c vs hn hc jE TU hb hH D' h
theorem ng.get:∀{l m:TE},ng l m->l.length=m.length/\∀(i:Nat) a b,l[i]?=some a->m[i]?=some b->Sub a b
 |[],[],_=>⟨rfl,fun i a b h=>by simp at h⟩
 |x::l,y::m,h=>by
  have ih:=ng.get h.2;refine⟨by simp[ih.1],fun i a b ha hb=>?_⟩;cases i with
  |zero=>simp at ha hb;subst ha hb;exact h.1
  |succ i=>exact ih.2 i a b (by simpa using ha) (by simpa using hb)
 |[],_::_,h=>h.elim
 |_::_,[],h=>h.elim
def Ia{P:TO}{f:FuncId}{args args':TE}{r:AV}(hc:aB P f args r)(h:ng args' args):aB P f args' r:=fun w vs h1 h2=>hc w vs h1 ⟨h.get.1.symm.trans h2.1,fun i a v ha hv=>by
 have hi:i<args'.length:=by rw[h.get.1];exact(List.getElem?_eq_some_iff.1 ha).1
 exact h.get.2 i args'[i] a (List.getElem?_eq_getElem hi) ha w v (h2.2 i _ v (List.getElem?_eq_getElem hi) hv)⟩
end Go.Gd
namespace Go.Gd
open Go
variable{zs:TM}{n sz:Nat}
def SN{w:NW}{z:TL}(hz:z.toList=zs)(hl:zs.length=sz)(h0:0<sz)(k:Nat)(a:AV)(v:Value)(ha:(List.replicate n (zs.map AV.raw)).flatten[k]?=some a)(hv:(madeCells z (n*sz))[k]?=some v):ax w a v:=by
 have Xl:z.size=sz:=by rw[<-hl,<-hz];simp
 have hk:k<n*sz:=by have:=(Array.getElem?_eq_some_iff.1 hv).1;rwa [size_madeCells]at this
 obtain⟨i,j,hi,hj,rfl⟩:=vw hk;have UD:∀cs∈List.replicate n (zs.map AV.raw),cs.length=sz:=fun cs UD=>by rw[(List.mem_replicate.1 UD).2];simpa using hl
 have hg:=qi UD (i:=i) (j:=j) (by simpa using hi) hj;rw[hg]at ha;have:(List.replicate n (zs.map AV.raw)).getD i []=zs.map AV.raw:=by simp[List.getD_eq_getElem?_getD,hi]
 rw[this]at ha;simp only[List.getElem?_map,Option.map_eq_some_iff]at ha;obtain⟨x,hx,rfl⟩:=ha;have e:(i*sz+j) % sz=j:=by rw[Nat.add_comm,Nat.add_mul_mod_self_right];exact Nat.mod_eq_of_lt hj
 have:v=x:=by
  have XD:(madeCells z (n*sz))[i*sz+j]?=some (z[(i*sz+j) % z.size]!):=by simp[madeCells,hk]
  rw[XD]at hv;have hv:=Option.some.inj hv;rw[<-hv,Xl,e];have hjz:j<z.size:=jB;rw[getElem!_pos z j hjz];have Ug:z.toList[j]?=some x:=by rw[hz];exact hx
  rw[Array.getElem?_toList]at Ug;exact Option.some.inj ((Array.getElem?_eq_getElem hjz).symm.trans Ug)
 subst this;exact .raw _
variable{K:TB}{q:Prop}{t:TJ}
def K6{P:TO}{ev:TK}{H:Hp}{ty:TJ}(i:Nat){et:TJ}{l c:Operand}(k:q)(hl:ev l=.raw (.int .i64 (n:Int)):=by rfl)(hc:ev c=.raw (.int .i64 (n:Int)):=by rfl)(ht:ik P t=some et:=by(simp only[go_sem];rfl))(hs:cZ P et=some sz:=by(simp only[go_sem];rfl))(hz:dN P et=some zs:=by(simp only[go_sem];rfl))(VX:zs.length=sz:=by rfl)(h0:0<sz:=by decide)(hr:room (kj P et) n:=by(simp only[go_sem];omega))(hi:H.get i=none:=by rfl)
  (e:K (.rs i n sz n) (H.put i (.aG et sz (List.replicate n (zs.map .raw))))=q:=by exact fm):ju P (.makeSlice t l c) ty ev H K:=fun w ρ dst pos after guard hw hρ=>by
 have h1:=hρ l (by simp[Op.operands]);have h2:=hρ c (by simp[Op.operands]);rw[hl]at h1;rw[hc]at h2;have e1:=dc h1;have e2:=dc h2;have hu:P.underlying t=some (.slice et):=tq ht;unfold cZ at hs;cases hf:P.info? et with
 |none=>rw[hf]at hs;cases hs
 |some inf=>
  rw[hf]at hs;have TU:inf.size=sz:=by simpa using hs
  have Um:=hz;unfold dN at Um;rw[hf]at Um;simp only[Option.bind_some,Option.map_eq_some_iff]at Um;obtain⟨z,hzz,hao⟩:=Um;have Xy:kj P et=inf.bytes:=by unfold kj;rw[hf];rfl
  obtain⟨r1,r2⟩:=hr;rw[Xy]at r1;have B':=run_make (P:=P) w.toWorld t et inf z hu hf hzz .i64 .i64 (n:Int) (n:Int) jB jB (by have h:((n*inf.bytes:Nat):Int)<=140737488355328:=jB;rw[Int.natCast_mul,Int.mul_comm]at h;omega) jB
  simp only[Int.toNat_natCast]at B';rw[TU]at B';have UD:∀cs∈List.replicate n (zs.map AV.raw),cs.length=sz:=fun cs UD=>by rw[(List.mem_replicate.1 UD).2];simpa using VX
  have UU:=gl UD;simp only[List.length_replicate]at UU;obtain⟨q1,q2⟩:=vy (row:=.aG et sz (List.replicate n (zs.map AV.raw))) hw (hw.none hi _) (fun r' hr=>by rw[hi]at hr;cases hr) ⟨h0,UD⟩ (madeCells z.cells (n*sz)) ⟨rfl,by show(List.replicate n (zs.map AV.raw)).flatten.length<=_;rw[UU,size_madeCells];exact Nat.le_refl _⟩ (fun k a v ha hv=>SN hao VX h0 k a v ha hv);refine⟨_,_,.rs i n sz n,e ▸ k,q1,q2,.inl ⟨.slice (some ⟨w.heap.size,0,none⟩) n n,?_,?_⟩⟩
  ·simp only[execOp,e1,e2];simp[B'];rfl
  ·have TV:(((w.to (w.alloc (.cells (madeCells z.cells (n*sz)) et))).ga w.heap.size).name i n (.at w.heap.size (n*sz) sz)).nm i n=some (.at w.heap.size (n*sz) sz):=NW.cw _ _ _ _;have:=ax.rs (w:=((w.to (w.alloc (.cells (madeCells z.cells (n*sz)) et))).ga w.heap.size).name i n (.at w.heap.size (n*sz) sz)) i n sz n w.heap.size (n*sz) n TV rfl jl h0;have e3:(Row.aG et sz (List.replicate n (zs.map AV.raw))).fN=n:=by show(List.replicate n (zs.map AV.raw)).length=n;simp
   have e4:(madeCells z.cells (n*sz)).size=n*sz:=size_madeCells _ _;rw[e3,e4];exact this
open Go.ChangeShapes Go.WideShapes Go.ChangeAt Go.RowKit
def gC(a k:Nat):Nat:=1000+(8*k+a)
def y6(a k:Nat):1000<=gC a k:=by unfold gC;omega
def yM{a b k j:Nat}(ha:a<8)(hb:b<8)(h:gC a k=gC b j):a=b/\k=j:=by unfold gC at h;omega
def ob(a:Nat)(f:TP):Nat->Nat->List TQ->TD
 |_,0,l=>l
 |k,n+1,l=>(gC a k,f k)::ob a f (k+1) n l
def iN(a n:Nat)(f:TP)(l:TD):TD:=ob a f 0 n l
theorem At(a:Nat)(ha:a<8)(f:TP)(l:TD):∀(n k j:Nat),aA (ob a f k n l) (gC a j)=if k<=j/\j<k+n then some (f j)else aA l (gC a j)
 |0,k,j=>by unfold ob;rw[jN]
 |n+1,k,j=>by
  show(if gC a j=gC a k then some (f k)else aA (ob a f (k+1) n l) (gC a j))=_;by_cases e:j=k
  ·subst e;rw[if_pos rfl,jP]
  ·rw[if_neg (fun h=>e (yM ha ha h).2),At a ha f l n (k+1) j];by_cases h:k+1<=j/\j<k+1+n
   ·rw[if_pos h,jP]
   ·rw[if_neg h,jN]
theorem yD(a:Nat)(f:TP)(l:TD)(i:Nat)(hi:∀k,i≠gC a k):∀(n k:Nat),aA (ob a f k n l) i=aA l i
 |0,k=>rfl
 |n+1,k=>by show(if i=gC a k then some (f k)else aA (ob a f (k+1) n l) i)=_;rw[if_neg (hi k)];exact yD a f l i hi n (k+1)
@[go_sem] def vo(a n:Nat)(f:TP)(l:TD)(i:Nat)(h:i<1000):aA (iN a n f l) i=aA l i:=yD a f l i (fun k e=>by have:=y6 a k;omega) n 0
@[go_sem] def rE(a n:Nat)(f:TP)(l:TD)(b k:Nat)(ha:a<8)(hb:b<8)(h:a≠b):aA (iN a n f l) (gC b k)=aA l (gC b k):=yD a f l _ (fun j e=>h (yM hb ha e).1.symm) n 0
@[go_sem] def tF(a n:Nat)(f:TP)(l:TD)(k:Nat)(ha:a<8)(h:k<n):aA (iN a n f l) (gC a k)=some (f k):=by unfold iN;rw[At a ha,jP]
@[go_sem] def KU(a n:Nat)(f:TP)(l:TD)(k:Nat)(ha:a<8)(h:n<=k):aA (iN a n f l) (gC a k)=aA l (gC a k):=by unfold iN;rw[At a ha,jN]
def vn(a n:Nat)(ha:a<8)(f:TP)(l:TD)(i:Nat):(∃k,k<n/\i=gC a k/\aA (iN a n f l) i=some (f k))\/((∀k,k<n->i≠gC a k)/\aA (iN a n f l) i=aA l i):=by
 by_cases h:∃k,i=gC a k
 ·obtain⟨k,rfl⟩:=h;by_cases hk:k<n
  ·exact .inl ⟨k,hk,rfl,tF a n f l k ha hk⟩
  ·exact .inr ⟨fun j hj e=>hk ((yM ha ha e).2 ▸ hj),KU a n f l k ha jB⟩
 ·exact .inr ⟨fun k _ e=>h ⟨k,e⟩,yD a f l i (fun k e=>h ⟨k,e⟩) n 0⟩
def wj{α:Type}(n:Nat)(f:Nat->α):List α:=(List.range n).map f
def G2{q:TN}{f:Nat->TE}(h:∀k,k<n->aX q (f k)=true):QL q (wj n f):=fun c hc=>by obtain⟨k,hk,rfl⟩:=List.mem_map.1 hc;exact h k (by simpa using hk)
variable{B:TH}{l:TD}
def HY{r:AV}(l':TD)(h:∀i,aA l i=aA l' i):iB r ⟨B,l⟩ r ⟨B,l'⟩:=fun w v h1 h2=>by
 have hg:∀i,(Hp.mk B l').get i=(Hp.mk B l).get i:=fun i=>(h i).symm
 exact⟨w,rfl,{ rows:=fun i r hi=>h1.rows i r ((hg i) ▸ hi),df:=fun i m z hz=>by rw[hg];exact h1.df i m z hz,inj:=h1.inj,own:=h1.own,fin:=h1.fin,bX:=h1.bX },h2,{ ExtQ.refl _ w with base:=rfl }⟩
def BE{w:NW}{l':TD}(h:∀i,aA l i=aA l' i)(h1:aJ w ⟨B,l⟩):aJ w ⟨B,l'⟩:=by
 have hg:∀i,(Hp.mk B l').get i=(Hp.mk B l).get i:=fun i=>(h i).symm
 exact{ rows:=fun i r hi=>h1.rows i r ((hg i) ▸ hi),df:=fun i m z hz=>by rw[hg];exact h1.df i m z hz,inj:=h1.inj,own:=h1.own,fin:=h1.fin,bX:=h1.bX }
structure Lays(E:List (Nat×Row)->List (Nat×Row))(tl:List (Nat×Row)):Prop where
 get:∀i,aA (E tl) i=(aA (E []) i).or (aA tl i)
 apart:∀i r,aA tl i=some r->aA (E []) i=none
def zZ{P:TO}{f:FuncId}{args:TE}{tl:TD}{E E':List TQ->TD}{r0:AV}(hc:ab P f args (E []) fun r l'=>r=r0/\l'=E' [])(h1:Lays E tl)(h2:Lays E' tl)(h3:(ids (E' [])).Nodup)
  (ha:aX (fun i=>(ids (E [])).contains i) args=true) (hr:∀i r,aA (E []) i=some r->aX (fun i=>(ids (E [])).contains i) r.cells=true) (hk:K r0 ⟨B,E' tl⟩) (h4:∀i,aA (E []) i≠none->aA (E' []) i≠none):dj P f args ⟨B,E tl⟩ K:=fun w vs hw hv=>by
 refine(xT (H:=⟨B,E tl⟩) (K:=fun r H'=>r=r0/\∃l',H'=⟨B,l'⟩/\∀i,aA l' i=aA (E' tl) i) hc (fun i r hi=>?_) ha hr (fun r l' ⟨e1,e2⟩=>⟨fun i s hs=>?_,by rw[e2];exact h3,e1,_,rfl,fun i=>?_⟩) hw hv).mono ?_
 ·show aA (E tl) i=some r;rw[h1.get,hi];rfl
 ·cases e:aA (E []) i with
  |some x=>exact .inl (rX e)
  |none=>
   right
   show aA (E tl) i=none;rw[h1.get,e,Option.none_or];cases e':aA tl i with
   |none=>rfl
   |some y=>rw[e2]at hs;have:=h2.apart i y e';rw[this]at hs;cases hs
 ·rw[e2,ux _ _ _ (fun _ _ _=>trivial) h3,h2.get,h1.get];cases e:aA (E' []) i with
  |some x=>rfl
  |none=>
   have:aA (E []) i=none:=Classical.byContradiction fun h=>h4 i h e
   rw[this];rfl
 ·rintro e W ⟨v,r,H',w',rfl,rfl,⟨rfl,l',rfl,hl⟩,g1,g2,g3⟩;exact⟨v,_,⟨B,E' tl⟩,w',rfl,rfl,hk,BE hl g1,g2,{ g3 with base:=rfl }⟩
def cH{P:TO}(i:Nat){H:Hp}(k:q)(hi:H.get i=none:=by first|rfl|exact dv)(hz:dN P t=some zs:=by(simp only[go_sem];rfl))(e:K (.pt i 0 0 0) (H.put i (.var t (zs.map .raw)))=q:=by exact fm):nM P H t K:=xR i hz hi (e ▸ k)
def aT(i:Nat){x:AV}{H:Hp}(k:q)(hi:H.get i=none:=by first|rfl|exact dv)(ho:cI x.cells=true:=by simp only[go_sem])(e:K (.pt i 0 0 0) (H.put i (.var t x.cells))=q:=by exact fm):ry H t x K:=yX i ho hi (e ▸ k)
section
variable {α:Type}[DecidableEq α]
def pv(n:α):List α->TE->Option AV
 |k::ks,v::vs=>if n=k then some v else pv n ks vs
 |_,_=>none
def nq(n:α)(x:AV):List α->TE->TE
 |k::ks,v::vs=>if n=k then x::vs else v::nq n x ks vs
 |_,_=>[x]
def nh(n:α):List α->List α
 |k::ks=>if n=k then k::ks else k::nh n ks
 |[]=>[n]
theorem HR(n:α)(x:AV):∀(ks:List α) (vs:TE),ks.length=vs.length->(nh n ks).length=(nq n x ks vs).length
 |[],[],_=>rfl
 |[],_::_,h=>by simp at h
 |_::_,[],h=>by simp at h
 |k::ks,v::vs,h=>by
  have h:ks.length=vs.length:=by simpa using h
  unfold nh nq;split
  ·simp[h]
  ·simp[HR n x ks vs h]
structure j3(P:Program)(kt:TypeId)(enc:α->Value):Prop where
 PY:∃d,P.underlying kt=some d/\∀a b,Instr.sameNow d (enc a) (enc b)=some (decide (a=b))
 zN:∀(w:World) a e,(Instr.checkKey e 10000 kt (enc a)).run P w=.ok () w
 bits:∀a,Instr.sameBits 10000 (enc a) (enc a)=true
variable{P:TO}{kt:TJ}
def Tg(h:P.underlying kt=some (.int .i64)):j3 P kt (Value.int .i64):=⟨⟨_,h,fun a b=>by simp[Instr.sameNow];rfl⟩,fun w a e=>MapKept.run_checkKey h (by simp[MapKept.IsKey]) e 9999,fun a=>by unfold Instr.sameBits;simp⟩
def M4(h:P.underlying kt=some .string):j3 P kt Value.string:=⟨⟨_,h,fun a b=>by
 have:(a == b)=decide (a=b):=by rw[Bool.eq_iff_iff,MapKept.bytes_beq];simp
 simp only[Instr.sameNow,this]⟩,fun w a e=>MapKept.run_checkKey h (by simp[MapKept.IsKey]) e 9999,fun a=>by unfold Instr.sameBits;exact(MapKept.bytes_beq a a).2 rfl⟩
def nX(n:α):List α->TM->Nat->Option (Nat×Value)
 |k::ks,v::vs,i=>if n=k then some (i,v)else nX n ks vs (i+1)
 |_,_,_=>none
theorem G8{d:TypeDesc}{enc:α->Value}(h:∀a b,Instr.sameNow d (enc a) (enc b)=some (decide (a=b)))(n:α):∀(ks:List α) (vs:TM) (b i:Nat),Instr.findNow d (enc n) (iO b (ks.map enc) vs) i=some (nX n ks vs i)
 |[],vs,b,i=>by simp[iO,nX,Instr.findNow]
 |k::ks,[],b,i=>by simp[iO,nX,Instr.findNow]
 |k::ks,v::vs,b,i=>by
  simp only[List.map_cons,iO,nX,Instr.findNow,h];by_cases e:n=k
  ·simp[e]
  ·simp[e,G8 h n ks vs (b+1) (i+1)]
theorem Bf{n:α}:∀{ks:List α} {vs:TM} {i j:Nat} {v:Value},nX n ks vs i=some (j,v)->∃k,j=i+k/\vs[k]?=some v/\ks[k]?=some n/\k<ks.length/\
  (∀zl:TE,zl.length=ks.length->pv n ks zl=zl[k]?/\(∀x,nq n x ks zl=zl.set k x))/\nh n ks=ks
 |[],_,_,_,_,h=>by simp[nX]at h
 |_::_,[],_,_,_,h=>by simp[nX]at h
 |k::ks,v'::vs,i,j,v,h=>by
  unfold nX at h;split at h
  ·rename_i e;cases h;refine⟨0,rfl,rfl,by simp[e],jE,fun zl hl=>?_,by simp[nh,e]⟩;cases zl with
   |nil=>simp at hl
   |cons a zl=>exact⟨by simp[pv,e],fun x=>by simp[nq,e]⟩
  ·rename_i e;obtain⟨q,h1,h2,h3,h5,h4,h6⟩:=Bf h;refine⟨q+1,jB,by simpa using h2,by simpa using h3,by simpa using h5,fun zl hl=>?_,by unfold nh;rw[if_neg e,h6]⟩;cases zl with
   |nil=>simp at hl
   |cons a zl=> obtain⟨g1,g2⟩:=h4 zl (by simpa using hl);exact⟨by unfold pv;rw[if_neg e,g1];rfl,fun x=>by unfold nq;rw[if_neg e,g2];rfl⟩
theorem CT{n:α}:∀{ks:List α} {vs:TM} {i:Nat},ks.length=vs.length->nX n ks vs i=none->(∀zl:TE,zl.length=ks.length->pv n ks zl=none/\∀x,nq n x ks zl=zl++[x])/\nh n ks=ks++[n]
 |[],_,_,_,_=>⟨fun zl hl=>by
   have:zl=[]:=by simpa using hl
   subst this;exact⟨rfl,fun x=>rfl⟩,rfl⟩
 |_::_,[],_,h,_=>by simp at h
 |k::ks,v'::vs,i,hl,h=>by
  unfold nX at h;split at h
  ·cases h
  ·rename_i e;obtain⟨g1,g2⟩:=CT (by simpa using hl) h;refine⟨fun zl Wg=>?_,by unfold nh;rw[if_neg e,g2];rfl⟩;cases zl with
   |nil=>simp at Wg
   |cons a zl=> obtain⟨q1,q2⟩:=g1 zl (by simpa using Wg);exact⟨by unfold pv;rw[if_neg e,q1],fun x=>by unfold nq;rw[if_neg e,q2];rfl⟩
theorem GD:∀(b:Nat) (ks vs:TM) (k v:Value),ks.length=vs.length->iO b (ks++[k]) (vs++[v])=iO b ks vs++[⟨k,v,b+ks.length⟩]
 |b,[],[],k,v,_=>by simp[iO]
 |b,[],_::_,k,v,h=>by simp at h
 |b,_::_,[],k,v,h=>by simp at h
 |b,k'::ks,v'::vs,k,v,h=>by have:=GD (b+1) ks vs k v (by simpa using h);simp only[List.cons_append,iO,this,List.length_cons];rw[show b+1+ks.length=b+(ks.length+1) from jB]
theorem HJ:∀(b:Nat) (ks vs:TM) (j:Nat) (k v:Value),ks[j]?=some k->vs[j]?=some v->(iO b ks vs)[j]?=some ⟨k,v,b+j⟩
 |b,[],_,j,k,v,h,_=>by simp at h
 |b,_::_,[],j,k,v,_,h=>by simp at h
 |b,k'::ks,v'::vs,0,k,v,h1,h2=>by simp at h1 h2;subst h1 h2;rfl
 |b,k'::ks,v'::vs,j+1,k,v,h1,h2=>by have:=HJ (b+1) ks vs j k v (by simpa using h1) (by simpa using h2);simp only[iO,List.getElem?_cons_succ,this];rw[show b+1+j=b+(j+1) from jB]
theorem Is:∀(b:Nat) (ks vs:TM) (j:Nat) (k v:Value),ks[j]?=some k->j<vs.length->iO b ks (vs.set j v)=(iO b ks vs).modify j fun e=>{ e with key:=k,val:=v }
 |b,[],_,j,k,v,h,_=>by simp at h
 |b,_::_,[],j,k,v,_,h=>by simp at h
 |b,k'::ks,v'::vs,0,k,v,h1,_=>by simp at h1;subst h1;simp[iO]
 |b,k'::ks,v'::vs,j+1,k,v,h1,h2=>by have:=Is (b+1) ks vs j k v (by simpa using h1) (by simpa using h2);simp[iO,this]
def I0{enc:α->Value}(K:j3 P kt enc)(w:World)(n:α)(ks:List α)(vs:TM)(b:Nat):(Instr.findKey kt (enc n) (iO b (ks.map enc) vs)).run P w=.ok (nX n ks vs 0) w:=by obtain⟨d,h1,h2⟩:=K.PY;simp[Instr.findKey,run_underlying h1,G8 h2,Result.andThen]
end
section
variable {P:TO}{H:Hp}{α:Type}[DecidableEq α]
variable{i:Nat}{vs:TE}
def FB{w:NW}(hw:aJ w H){ks:TM}{b t s:Nat}(hi:H.get i=some (.mp ks vs))(hn:w.nm i 0=some (.at b t s)) :
  s=0/\ks.length=vs.length/\∃cur:TL,w.heap[b]?=some (.map (iO 0 ks cur.toList).toArray ks.length)/\cur.size=vs.length/\∀(k:Nat) a v,vs[k]?=some a->cur[k]?=some v->ax w a v:=by
 obtain⟨hok,z,hz,T2⟩:=hw.rows _ _ hi;have:z=.at b t s:=by have hz:w.nm i 0=some z:=hz;rw[hn]at hz;cases hz;rfl
 subst this;obtain⟨h1,cur,hh,Ul,hr⟩:=T2;exact⟨h1,hok,cur,hh,Ul,hr⟩
variable{ty t:TJ}{K:TB}{q:Prop}
def uy(i:Nat){ev:TK}(k:q)(hi:H.get i=none:=by first|rfl|exact dv)(e:K (.mr i) (H.put i (.mp [] []))=q:=by exact fm):ju P (.makeMap t none) ty ev H K:=fun w ρ dst pos after guard hw hρ=>by
 obtain⟨q1,q2⟩:=vy (row:=.mp [] []) hw (hw.none hi _) (fun r' hr=>by rw[hi]at hr;cases hr) rfl #[] rfl (fun k a v ha hv=>by have ha:([]:TE)[k]?=some a:=ha;simp at ha)
 refine⟨_,_,.mr i,e ▸ k,q1,q2,.inl ⟨.map (some w.heap.size),?_,.mr _ _ _ _ (NW.cw _ _ _ _)⟩⟩;simp[execOp,Instr.makeMap,newObj,Result.andThen];rfl
variable{et:TJ}{om ox:Operand}{op:Op}{enc:α->Value}
def GG{ev:TK}{kt:TJ}{ok:Operand}{ks:List α}{n:α}{x:AV}(VL:op=.insert t om ok ox\/op=.mapUpdate t om ok ox)(hK:j3 P kt enc)(ht:P.underlying t=some (.map kt et))
  (hm:ev om=.mr i) (hk:ev ok=.raw (enc n)) (hx:ev ox=x) (hi:H.get i=some (.mp (ks.map enc) vs)) (k:q) (e:K .any (H.put i (.mp ((nh n ks).map enc) (nq n x ks vs)))=q):ju P op ty ev H K:=fun w ρ dst pos after guard hw hρ=>by
 have ho:om∈op.operands.toList/\ok∈op.operands.toList/\ox∈op.operands.toList:=by rcases VL with rfl|rfl<;>simp[Op.operands]
 have h1:=hρ om ho.1;have h2:=hρ ok ho.2.1;have h3:=hρ ox ho.2.2;rw[hm]at h1;rw[hk]at h2;rw[hx]at h3;have e2:=dc h2;cases e1:ρ om with
 |map r=>
  rw[e1]at h1;cases h1 with
  |mr _ b u s hn=>
  obtain⟨rfl,hl,cur,hh,TU,hr⟩:=FB hw hi hn;have hl:ks.length=vs.length:=by simpa using hl
  have Tx:ks.length=cur.toList.length:=by simp;omega
  have hb:b<w.heap.size:=hw.lt hn;have run:∀(vs':TM) (ks':List α),ks'.length=vs'.length->(nq n x ks vs).length=vs'.length->nh n ks=ks'->
    (Instr.mapUpdate t (ρ om) (ρ ok) (ρ ox)).run P w.toWorld=.ok () { w.toWorld with heap:=w.heap.setIfInBounds b (.map (iO 0 (ks'.map enc) vs').toArray ks'.length) }->
    (∀(k:Nat) a v,(nq n x ks vs)[k]?=some a->vs'[k]?=some v->ax w a v)->∃(w':NW) (H':Hp) (r:AV),K r H'/\aJ w' H'/\Ext w H w' H'/\((∃v,(execOp ρ ⟨dst,op,ty,pos,after,guard⟩).run P w.toWorld=.ok (.value v) w'.toWorld/\ax w' r v)\/((execOp ρ ⟨dst,op,ty,pos,after,guard⟩).run P w.toWorld=.ok .skip w'.toWorld/\r=.any)):=fun vs' ks' U6 Tz Xa B' T8=>by
   obtain⟨g1,g2⟩:=I9 (W:={ w.toWorld with heap:=w.heap.setIfInBounds b (.map (iO 0 (ks'.map enc) vs').toArray ks'.length) }) (row:=.mp (ks.map enc) vs) (row':=.mp ((nh n ks).map enc) (nq n x ks vs)) hw hi hn rfl jl (by show((nh n ks).map enc).length=_;rw[List.length_map];exact HR n x ks vs hl) rfl rfl rfl jE (fun c hc=>by
    show(w.heap.setIfInBounds b _)[c]?=_;rw[Array.getElem?_setIfInBounds,if_neg (fun h=>hc h.symm)]) vs'.toArray (by
    show(w.heap.setIfInBounds b _)[b]?=_;rw[Array.getElem?_setIfInBounds,if_pos rfl,if_pos hb,Xa];simp[Row.obj]) (by show vs'.toArray.size=_;simp;omega) (fun k a v ha hv=>T8 k a v ha (by simpa using hv))
   refine⟨_,_,.any,e ▸ k,g1,g2,.inr ⟨?_,rfl⟩⟩;rcases VL with rfl|rfl
   ·simp only[execOp,B'];simp[B',Result.andThen];rfl
   ·simp only[execOp,B'];simp[B',Result.andThen];rfl
  have UI:=I0 hK w.toWorld n ks cur.toList 0;cases hf:nX n ks cur.toList 0 with
  |none=>
   obtain⟨f1,f2⟩:=CT Tx hf;obtain⟨f3,f4⟩:=f1 vs jB;refine run (cur.toList++[ρ ox]) (ks++[n]) jF (by rw[f4];simp;omega) f2 ?_ ?_
   ·rw[e1,e2];have es:=GD 0 (ks.map enc) cur.toList (enc n) (ρ ox) (by simpa using Tx);rw[Nat.zero_add,List.length_map]at es;rw[List.map_append,List.map_singleton,es];simp[Instr.mapUpdate,run_underlying ht,MapKept.run_getObj_map hh,hK.zN,UI,hf,MapKept.run_setObj_map _ hh,Result.andThen]
   ·intro k a v ha hv;rw[f4]at ha;rcases Nat.lt_or_ge k vs.length with h|h
    ·rw[List.getElem?_append_left h]at ha;rw[List.getElem?_append_left jF]at hv;exact hr k a v ha (by simpa using hv)
    ·rw[List.getElem?_append_right h]at ha;rw[List.getElem?_append_right jF]at hv;have TZ:k-vs.length=0:=by
      have:=(List.getElem?_eq_some_iff.1 ha).1;simp at this;omega
     rw[TZ]at ha;rw[show k-cur.toList.length=0 by simp;omega]at hv;simp at ha hv;subst ha hv;exact h3
  |some jv=>
   obtain⟨j,v0⟩:=jv;obtain⟨k0,rfl,f2,f3,f5,f4,f6⟩:=Bf hf;rw[Nat.zero_add]at hf;obtain⟨f7,f8⟩:=f4 vs jB;refine run (cur.toList.set k0 (ρ ox)) ks jF (by rw[f8];simp;omega) f6 ?_ ?_
   ·rw[e1,e2];have X0:(ks.map enc)[k0]?=some (enc n):=by simp[f3]
    have es:=Is 0 (ks.map enc) cur.toList k0 (enc n) (ρ ox) X0 jB;have eg:=HJ 0 (ks.map enc) cur.toList k0 (enc n) v0 X0 f2;rw[es];have UL:∀g,(iO 0 (ks.map enc) cur.toList).toArray.modify k0 g=((iO 0 (ks.map enc) cur.toList).modify k0 g).toArray:=fun g=>jE
    simp[Instr.mapUpdate,run_underlying ht,MapKept.run_getObj_map hh,hK.zN,UI,hf,MapKept.run_setObj_map _ hh,Result.andThen,eg,Instr.keyThatStays,hK.bits]
   ·intro k a v ha hv;rw[f8,List.getElem?_set]at ha;rw[List.getElem?_set]at hv;by_cases T4:k0=k
    ·rw[if_pos T4]at ha hv;split at ha
     ·split at hv
      ·cases ha;cases hv;exact h3
      ·cases hv
     ·cases ha
    ·rw[if_neg T4]at ha hv;exact hr k a v ha (by simpa using hv)
 |_=>rw[e1]at h1;cases h1
def oz(n:α)(ks:List α)(vs:TE)(z:AV)(ok:Bool):AV:=if ok=true then(match pv n ks vs with|some v=>.aQ [v,.raw (.bool true)]|none=>.aQ [z,.raw (.bool false)])else(pv n ks vs).getD z
def It{ev:TK}{kt:TJ}{c:Bool}{ks:List α}{n:α}{z:Value}(hK:j3 P kt enc)(ht:P.underlying t=some (.map kt et))(hz:(P.info? et).bind (·.zero)=some z)
  (hm:ev om=.mr i) (hk:ev ox=.raw (enc n)) (hi:H.get i=some (.mp (ks.map enc) vs)) (k:q) (e:K (oz n ks vs (.raw z) c) H=q):ju P (.lookup t om ox c) ty ev H K:=fun w ρ dst pos after guard hw hρ=>by
 have h1:=hρ om (by simp[Op.operands]);have h2:=hρ ox (by simp[Op.operands]);rw[hm]at h1;rw[hk]at h2;have e2:=dc h2;cases e1:ρ om with
 |map r=>
  rw[e1]at h1;cases h1 with
  |mr _ b u s hn=>
  obtain⟨rfl,hl,cur,hh,TU,hr⟩:=FB hw hi hn;have hl:ks.length=vs.length:=by simpa using hl
  have Tx:ks.length=cur.toList.length:=by simp;omega
  have UI:=I0 hK w.toWorld n ks cur.toList 0;have hzr:(zeroValue et).run P w.toWorld=.ok z w.toWorld:=by
   cases WQ:P.info? et with
   |none=>rw[WQ]at hz;cases hz
   |some ti=>rw[WQ]at hz;simp only[Option.bind_some]at hz;simp[zeroValue,typeInfo,WQ,hz]
  cases hf:nX n ks cur.toList 0 with
  |none=>
   obtain⟨f1,f2⟩:=CT Tx hf;obtain⟨f3,_⟩:=f1 vs jB;refine⟨w,H,_,e ▸ k,hw,Ext.refl w H,.inl ⟨if c=true then .tuple #[z,.bool false]else z,?_,?_⟩⟩
   ·simp only[execOp,e1,e2];cases c<;>simp[Instr.lookup,run_underlying ht,MapKept.run_getObj_map hh,hK.zN,UI,hf,hzr,Result.andThen]
   ·unfold oz;rw[f3];cases c
    ·exact .raw _
    ·exact .aQ _ _ rfl fun i a v ha hv=>by
      match i with
      |0=>simp at ha hv;subst ha hv;exact .raw _
      |1=>simp at ha hv;subst ha hv;exact .raw _
      |i+2=>simp at ha
  |some jv=>
   obtain⟨j,v0⟩:=jv;obtain⟨k0,rfl,f2,f3,f5,f4,f6⟩:=Bf hf;obtain⟨f7,_⟩:=f4 vs jB;have TZ:k0<vs.length:=jB;have hv0:ax w vs[k0] v0:=hr k0 _ v0 (List.getElem?_eq_getElem TZ) (by simpa using f2);refine⟨w,H,_,e ▸ k,hw,Ext.refl w H,.inl ⟨if c=true then .tuple #[v0,.bool true]else v0,?_,?_⟩⟩
   ·simp only[execOp,e1,e2];cases c<;>simp[Instr.lookup,run_underlying ht,MapKept.run_getObj_map hh,hK.zN,UI,hf,Result.andThen]
   ·unfold oz;rw[f7,List.getElem?_eq_getElem TZ];cases c
    ·exact hv0
    ·exact .aQ _ _ rfl fun i a v ha hv=>by
      match i with
      |0=>simp at ha hv;subst ha hv;exact hv0
      |1=>simp at ha hv;subst ha hv;exact .raw _
      |i+2=>simp at ha
 |_=>rw[e1]at h1;cases h1
def qo(P:TO)(t:TJ):Option (Bool×TJ):=match P.underlying t with
 |some (.map k e)=>match P.underlying k with
  |some .string=>some (true,e)
  |some (.int .i64)=>some (false,e)
  |_=>none
 |_=>none
def HX{e:TJ}(h:qo P t=some (true,e)):∃k,P.underlying t=some (.map k e)/\j3 P k Value.string:=by
 unfold qo at h;split at h
 ·rename_i k e' h1;split at h
  ·rename_i h2;cases h;exact⟨k,h1,M4 h2⟩
  ·cases h
  ·cases h
 ·cases h
def GF{e:TJ}(h:qo P t=some (false,e)):∃k,P.underlying t=some (.map k e)/\j3 P k (Value.int .i64):=by
 unfold qo at h;split at h
 ·rename_i k e' h1;split at h
  ·cases h
  ·rename_i h2;cases h;exact⟨k,h1,Tg h2⟩
  ·cases h
 ·cases h
def k8{ev:TK}{ok:Operand}{n:Int}(ks:TG)(Y1:qo P t=some (false,et))(k:q)(VL:op=.insert t om ok ox\/op=.mapUpdate t om ok ox:=by first|exact Or.inl rfl|exact Or.inr rfl)
  (hm:ev om=.mr i:=by rfl) (hk:ev ok=.raw (.int .i64 n):=by rfl) (hi:H.get i=some (.mp (ks.map (Value.int .i64)) vs):=by first|rfl|exact dv) (e:K .any (H.put i (.mp ((nh n ks).map (Value.int .i64)) (nq n (ev ox) ks vs)))=q:=by exact fm):ju P op ty ev H K:=by
 obtain⟨kt,h1,h2⟩:=GF Y1;exact GG VL h2 h1 hm hk rfl hi k e
def ve{ev:TK}{ok:Operand}{n:TI}(ks:List TI)(Y1:qo P t=some (true,et))(k:q)(VL:op=.insert t om ok ox\/op=.mapUpdate t om ok ox:=by first|exact Or.inl rfl|exact Or.inr rfl)
  (hm:ev om=.mr i:=by rfl) (hk:ev ok=.raw (.string n):=by rfl) (hi:H.get i=some (.mp (ks.map Value.string) vs):=by first|rfl|exact dv) (e:K .any (H.put i (.mp ((nh n ks).map Value.string) (nq n (ev ox) ks vs)))=q:=by exact fm):ju P op ty ev H K:=by
 obtain⟨kt,h1,h2⟩:=HX Y1;exact GG VL h2 h1 hm hk rfl hi k e
def zQ{ev:TK}{c:Bool}{n:Int}(ks:TG)(z:Value)(r:AV)(Y1:qo P t=some (false,et))(hz:(P.info? et).bind (·.zero)=some z)(hr:oz n ks vs (.raw z) c=r)(k:q)
  (hm:ev om=.mr i:=by rfl) (hk:ev ox=.raw (.int .i64 n):=by rfl) (hi:H.get i=some (.mp (ks.map (Value.int .i64)) vs):=by first|rfl|exact dv) (e:K r H=q:=by exact fm):ju P (.lookup t om ox c) ty ev H K:=by
 obtain⟨kt,h1,h2⟩:=GF Y1;exact It h2 h1 hz hm hk hi k (hr ▸ e)
def py{ev:TK}{c:Bool}{n:TI}(ks:List TI)(z:Value)(r:AV)(Y1:qo P t=some (true,et))(hz:(P.info? et).bind (·.zero)=some z)(hr:oz n ks vs (.raw z) c=r)(k:q)
  (hm:ev om=.mr i:=by rfl) (hk:ev ox=.raw (.string n):=by rfl) (hi:H.get i=some (.mp (ks.map Value.string) vs):=by first|rfl|exact dv) (e:K r H=q:=by exact fm):ju P (.lookup t om ox c) ty ev H K:=by
 obtain⟨kt,h1,h2⟩:=HX Y1;exact It h2 h1 hz hm hk hi k (hr ▸ e)
@[go_sem] def j1J{ev:TK}(t:TJ)(r:Option Operand):vc P ev H ty K (.makeMap t r)=ju P (.makeMap t r) ty ev H K:=by simp[vc,dp]
@[go_sem] def j4z{ev:TK}(t:TJ)(m k x:Operand):vc P ev H ty K (.insert t m k x)=ju P (.insert t m k x) ty ev H K:=by simp[vc,dp]
@[go_sem] def j4B{ev:TK}(t:TJ)(m k:Operand)(c:Bool):vc P ev H ty K (.lookup t m k c)=ju P (.lookup t m k c) ty ev H K:=by simp[vc,dp]
end
attribute [go_sem] nq nh
-- what is new, in regions that leave their order open
section
variable {P:TO}{A:AS}{ev:TK}{H:Hp}
variable{K:TB}
@[go_sem] def j6p(t:TJ)(l c:Operand):tE P A ev H K (.makeSlice t l c)=ju P (.makeSlice t l c) 0 ev H (AP (fun r H'=>eJ A H H'/\K r H') .mk):=(rfl)
variable{q:Prop}
def uU(i:Nat){t:TJ}{sz:Nat}{css:TC}(k:q)(h0:0<sz:=by decide)(hi:H.get i=none:=by first|rfl|exact dv)(e:K (.rs i css.length sz css.length) (H.put i (.aG t sz css))=q:=by exact fm):sO t sz css H K:=Fq i h0 hi (e ▸ k)
def P4(i:Nat){t et:TJ}{sz n:Nat}{zs:TM}{l c:Operand}{f:TB}{d:im fun r H'=>eJ A H H'/\f r H'}(k:q)(hl:ev l=.raw (.int .i64 (n:Int)):=by rfl)(hc:ev c=.raw (.int .i64 (n:Int)):=by rfl)(ht:ik P t=some et:=by(simp only[go_sem];rfl))(hs:cZ P et=some sz:=by(simp only[go_sem];rfl))(hz:dN P et=some zs:=by(simp only[go_sem];rfl))(VX:zs.length=sz:=by rfl)(h0:0<sz:=by decide)(hr:room (kj P et) n:=by(simp only[go_sem];omega))(hi:H.get i=none:=by first|rfl|exact dv)
  (e:f (.rs i n sz n) (H.put i (.aG et sz (List.replicate n (zs.map .raw))))=q:=by exact fm):ju P (.makeSlice t l c) 0 ev H (AP (fun r H'=>eJ A H H'/\f r H') d):=
 K6 (K:=AP (fun r H'=>eJ A H H'/\f r H') d) (q:=eJ A H (H.put i (.aG et sz (List.replicate n (zs.map .raw))))/\q) i ⟨eJ.put hi,k⟩ hl hc ht hs hz VX h0 hr hi (by show(eJ A H _/\f _ _)=_;rw[e])
variable{l0:TD}
def LV(h4:oC [] H l0)(h5:(ids l0).Nodup):eJ A H ⟨H.B,gx H.l l0⟩:=fun i r _ hi=>by
 left
 show aA (gx H.l l0) i=some r;rw[ux _ _ _ (fun _ _ _=>trivial) h5];cases e:aA l0 i with
 |none=>exact hi
 |some x=>
  rcases y5 h4 i x e with h|h
  ·simp at h
  ·rw[hi]at h;cases h
def cN{f:FuncId}{args:TE}{g:TB}{d:im fun r H'=>eJ A H H'/\g r H'}{r0:AV}(hc:ab P f args [] fun r l'=>r=r0/\l'=l0)(k:q)(h0:aU P f=true:=by exact dv)(h2:aX eo args=true:=by exact dv)
 (h4:oC [] H l0:=by exact dv) (h5:(ids l0).Nodup:=by exact dv) (e:g r0 ⟨H.B,gx H.l l0⟩=q:=by exact fm):fa P (.raw (.func (.func f) #[] #[])) args H (AP (fun r H'=>eJ A H H'/\g r H') d):=
 nQ h0 (vW (K:=AP (fun r H'=>eJ A H H'/\g r H') d) hc trivial (by simpa[ids]using h2) trivial h4 h5 ⟨LV h4 h5,e ▸ k⟩)
end
attribute [go_sem] pH
variable{cs:TE}
def SP{w:NW}{H:Hp}(r:aJ w H){D:TN}{j:Nat}{ds:TE}(hj:H.get j=some (.var t cs))(hD:D j=false)(hv:bu D H cs ds)(hB:H.B.all (gV D)=true)(hl:stay D (pH H.l j)) :
  aJ (w.cR D) ⟨H.B,bh (fv D H.l) j (.var t ds)⟩/\fO w H (w.cR D) ⟨H.B,bh (fv D H.l) j (.var t ds)⟩:=by
 have Uu:∀k n,(w.cR D).nm k n=if D k=true then none else w.nm k n:=fun _ _=>rfl
 have gE:∀k,(Hp.mk H.B (bh (fv D H.l) j (.var t ds))).get k=if k=j then some (.var t ds)else if D k=true then none else H.get k:=fun k=>by show aA _ _=_;rw[bO,AY];rfl
 obtain⟨I',Uw⟩:=hv.get;refine⟨{ rows:=fun k s hk=>?_,df:=fun k n z hz=>?_,inj:=fun k n k' n' b t s t' s' h1 h2=>?_,own:=fun k n b t s h=>?_,fin:=fun b hb=>r.fin b hb.1,bX:=r.bX.aZ (pF w D) },{ pF w D with names:=fun k n z hq h=>?_,os:=rfl,tape:=rfl,output:=rfl,rest:=fun b hb hO hn=>⟨rfl,⟨hO,fun k n t s _=>hn k n t s⟩,fun k n t s h=>?_⟩,base:=rfl }⟩
 ·rw[gE]at hk;by_cases e:k=j
  ·subst e;rw[if_pos rfl]at hk;cases hk;obtain⟨h1,z,h2,h3⟩:=r.rows k _ hj;refine⟨trivial,z,by rw[Uu,if_neg (by rw[hD];decide)];exact h2,?_⟩;cases z with
   |nil=>obtain⟨e,sz,h⟩:=h3;cases h
   |«at» b T st=>
    obtain⟨g1,cur,g2,g3,g5⟩:=h3;refine⟨g1,cur,g2,⟨g3.1,by show ds.length<=T;rw[<-I'];exact g3.2⟩,fun i d v hd T'=>?_⟩;have hi:i<cs.length:=by rw[I'];exact(List.getElem?_eq_some_iff.1 hd).1
    have hc:cs[i]?=some cs[i]:=List.getElem?_eq_getElem hi;exact(Uw i _ d hc hd).sound r (g5 i _ v hc T')
  ·rw[if_neg e]at hk;split at hk
   ·cases hk
   ·rename_i e2;obtain⟨h1,z,h2,h3⟩:=r.rows k s hk;refine⟨h1,z,by rw[Uu,if_neg e2];exact h2,?_⟩;cases z with
    |nil=>exact h3
    |«at» b T st=>
     obtain⟨g1,cur,g2,g3,g5⟩:=h3;have T4:aA (pH H.l j) k=some s:=by rw[Cp,if_neg e];exact hk
     exact⟨g1,cur,g2,g3,fun i a v ha hv=>(g5 i a v ha hv).aZ (pF w D) (lm (Cj hl T4 (by simpa using e2)) ha)⟩
 ·rw[Uu]at hz;split at hz
  ·cases hz
  ·rename_i e;obtain⟨s,h1,h2⟩:=r.df k n z hz;by_cases e2:k=j
   ·subst e2;rw[hj]at h1;cases h1;exact⟨.var t ds,by rw[gE,if_pos rfl],h2⟩
   ·exact⟨s,by rw[gE,if_neg e2,if_neg e];exact h1,h2⟩
 ·rw[Uu]at h1 h2;split at h1
  ·cases h1
  split at h2
  ·cases h2
  exact r.inj _ _ _ _ _ _ _ _ _ h1 h2
 ·rw[Uu]at h;split at h
  ·cases h
  rename_i e;refine⟨r.own _ _ _ _ _ h,fun i m t' s' hd h'=>?_⟩;have:=r.inj _ _ _ _ _ _ _ _ _ h h';subst this;exact e hd
 ·rw[Uu];have:=List.all_eq_true.1 hB k (List.contains_iff_mem.1 hq);unfold gV at this;rw[if_neg (by intro e;rw[e]at this;cases this)];exact h
 ·rw[Uu]at h;split at h
  ·cases h
  ·exact hn k n t s h
variable{F:TE}
def dL.wZ{F':TE}{H:Hp}(D:TN)(j:Nat)(ds:TE)(hj:H.get j=some (.var t cs))(hD:D j=false)(hc:bu D H cs ds)(hB:H.B.all (gV D)=true)(hl:stay D (pH H.l j))(hv:bu D H F F'):dL F H F' ⟨H.B,bh (fv D H.l) j (.var t ds)⟩:=fun w tm h1 h2=>by
 obtain⟨a,b⟩:=SP h1 hj hD hc hB hl;obtain⟨U6,hg⟩:=hv.get;refine⟨w.cR D,rfl,a,⟨by rw[<-U6];exact h2.1,fun i c v hc hv=>?_⟩,b⟩;have hi:i<F.length:=by rw[U6];exact(List.getElem?_eq_some_iff.1 hc).1
 exact(hg i F[i] c (List.getElem?_eq_getElem hi) hc).sound h1 (h2.2 i _ v (List.getElem?_eq_getElem hi) hv)
variable{Q:Exit->TA}
def Kg{P:TO}{id:Nat}{l:List Oper}{b:Bool}{H:Hp}(L:TH)(j:Nat)(ds:TE)(W:List (Nat×Nat))(J:List (Nat×AV))(h:q)(h0:(L.any fun i=>(H.get i).isSome)=true:=by rfl)(hj:H.get j=some (.var t cs):=by rfl)(hD:(L.contains j)=false:=by rfl)(hc:bu (fun i=>L.contains i) H cs ds:=by exact iF)(hB:H.B.all (gV fun i=>L.contains i)=true:=by exact dv)(hl:stay (fun i=>L.contains i) (pH H.l j):=by exact dv)
 (hv:bu (fun i=>L.contains i) H F (mC J (nj W F)):=by exact iF) (e:dF P (.region id l.toArray b) Q (mC J (nj W F)) ⟨H.B,bh (fv (fun i=>L.contains i) H.l) j (.var t ds)⟩=q:=by exact fm):dF P (.region id l.toArray b) Q F H:=jq (dL.wZ _ j ds hj hD hc hB hl hv) (e ▸ h)
-- calls under guards, that change things
def HN(D:TH):Option Tmp->Bool
 |some t=>D.contains t
 |none=>false
def Fl(P:TO)(ev:TK)(H:Hp)(K:TB):Op->Prop
 |.call { callee:=.value f,args,.. }=>fa P (ev f) (args.toList.map ev) H K
 |_=>False
def jX(D:TH)(P:TO)(ops:Array Oper)(K:TA):List Oper->TA
 |[],F,H=>K F H
 |o::rest,F,H=>match o.guard with
  |none=>vc P (cn F) H o.type (fun r H'=>jX D P ops K rest (cL F o.dst r) H') o.op
  |some (j,want)=>match lS ops F j want with
   |some b=>if(HN D o.dst && iY o.op)=true then(b=true->gp F o.op=true/\Fl P (bM F) H (fun r H'=>jX D P ops K rest (cL F o.dst r) H') o.op)/\(b=false->jX D P ops K rest (cL F o.dst (.gd false (.raw (.bool false)))) H)
    else if iY o.op || iH o.op then eK P F H b (fun r=>jX D P ops K rest (cL F o.dst r) H) o.op
    else(b=true->vc P (cn F) H o.type (fun r H'=>jX D P ops K rest (cL F o.dst r) H') o.op)/\(b=false->jX D P ops K rest (cL F o.dst .any) H)
   |none=>False
section
variable {P:TO}{ops:Array Oper}
theorem xq{D:TH}{K:TA}:∀(l:List Oper) (F:TE) (H:Hp),jX D P ops K l F H->vu P ops K l F H
 |[],F,H,h=>E6 h
 |o::rest,F,H,h=>by
  refine G4 ?_;simp only[jX]at h;split at h
  ·rename_i hg;exact(qc (K:=fun F' H'=>jX D P ops K rest F' H') hg h).mono fun F' H' hk=>xq rest F' H' hk
  ·rename_i j want hg;split at h
   ·rename_i b hb;split at h
    ·rename_i hd;refine mM.mono (K:=fun F' H'=>jX D P ops K rest F' H') ?_ fun F' H' hk=>xq rest F' H' hk
     obtain⟨dst,op,ty,pos,after,guard⟩:=o;have hc:iY op=true:=by simp only[Bool.and_eq_true]at hd;exact hd.2
     cases op<;>first|(cases hc;done)|skip
     rename_i c;obtain⟨callee,args,ts⟩:=c;cases callee<;>first|(cases hc;done)|skip
     rename_i f;refine pe hg hb (fun Uk w tm Q next h1 h2 hn=>?_) (fun Uk=>⟨.gd false (.raw (.bool false)),p4 rfl,h.2 Uk⟩);obtain⟨ok,Ui⟩:=h.1 Uk;have We:=qy ok;have e1:kn F f=bM F f:=We f (by simp[Op.operands,Call.operands]);have e2:args.toList.map (kn F)=args.toList.map (bM F):=List.map_congr_left fun x hx=>We x (by simp[Op.operands,Call.operands]at hx ⊢;exact .inr hx)
     refine wz (ev:=kn F) e1 e2 Ui h1 (sQ h2) fun v r' w' H' hR g1 g2 g3=>?_
     rw[Act.put_eq];exact hn _ w' _ H' hR g1 ((h2.ext g3).put dst g2 []) g3
    split at h
    ·refine mM.mono (K:=fun F' H'=>jX D P ops K rest F' H') ?_ fun F' H' hk=>xq rest F' H' hk
     obtain⟨dst,op,ty,pos,after,guard⟩:=o;unfold eK at h;split at h
     ·rename_i f args argTypes Wu;cases Wu;obtain⟨r,hc,hk⟩:=h;refine pe hg hb (fun Uk w tm Q next h1 h2 hn=>?_) (fun Uk=>⟨_,p4 Uk,hk⟩);obtain⟨ok,Ui⟩:=hc Uk;have We:=qy ok;have e1:kn F f=bM F f:=We f (by simp[Op.operands,Call.operands]);have e2:args.toList.map (kn F)=args.toList.map (bM F):=List.map_congr_left fun x hx=>We x (by simp[Op.operands,Call.operands]at hx ⊢;exact .inr hx)
      refine wz (ev:=kn F) e1 e2 Ui h1 (sQ h2) fun v r' w' H' hR g1 g2 g3=>?_
      obtain⟨rfl,rfl⟩:=hR;rw[Act.put_eq];exact hn _ w' _ H' hk g1 ((h2.ext g3).put dst (tj Uk g2) []) g3
     ·rename_i f m args argTypes Wu;cases Wu;obtain⟨r,hc,hk⟩:=h;refine pe hg hb (fun Uk w tm Q next h1 h2 hn=>?_) (fun Uk=>⟨_,p4 Uk,hk⟩);obtain⟨ok,Ui⟩:=hc Uk;have We:=qy ok;have e1:kn F f=bM F f:=We f (by simp[Op.operands,Call.operands]);have e2:args.toList.map (kn F)=args.toList.map (bM F):=List.map_congr_left fun x hx=>We x (by simp[Op.operands,Call.operands]at hx ⊢;exact .inr hx)
      refine B8 (ev:=kn F) e1 e2 Ui h1 (sQ h2) fun v r' w' H' hR g1 g2 g3=>?_
      obtain⟨rfl,rfl⟩:=hR;rw[Act.put_eq];exact hn _ w' _ H' hk g1 ((h2.ext g3).put dst (tj Uk g2) []) g3
     ·rename_i c x y Wu;simp only at Wu;subst Wu;obtain⟨hs,hk⟩:=h;refine pe hg hb (fun Uk w tm Q next h1 h2 hn=>?_) (fun Uk=>⟨_,p4 Uk,hk⟩);obtain⟨ok,hq⟩:=hs Uk;obtain⟨v,B',hv⟩:=GM (P:=P) (ρ:=(Act.mk tm []).eval) (dst:=dst) (ty:=ty) (pos:=pos) (after:=after) (guard:=guard) (Be h2 c ok) (h2.eval [] x) (h2.eval [] y) hq;simp only[Oper.wp,B',Oper.upon];rw[Act.put_eq];exact hn _ w _ H hk h1 (h2.put dst (tj Uk hv) []) (Ext.refl w H)
     ·split at h
      ·obtain⟨hs,hk⟩:=h;refine pe hg hb (fun Uk w tm Q next h1 h2 hn=>?_) (fun Uk=>⟨_,p4 Uk,hk⟩);obtain⟨ok,hq⟩:=hs Uk;rw[<-ut _ (qy ok)]at hq;obtain⟨v,B',hv⟩:=yj (ρ:=(Act.mk tm []).eval) ⟨dst,op,ty,pos,after,guard⟩ h1 (sQ h2) hq;simp only[Oper.wp,B',Oper.upon];rw[Act.put_eq];rw[ut _ (qy ok)]at hv;exact hn _ w _ H hk h1 (h2.put dst (tj Uk hv) []) (Ext.refl w H)
      ·exact h.elim
    ·refine mM.mono (K:=fun F' H'=>jX D P ops K rest F' H') ?_ fun F' H' hk=>xq rest F' H' hk
     refine pe hg hb (fun Uk w tm Q next h1 h2 hn=>?_) (fun Uk=>⟨_,fun w=>.any _,h.2 Uk⟩);exact B3 (h.1 Uk) h1 h2 (fun x=>h2.eval [] x) hn
   ·exact h.elim
end
section
variable {D:TH}{P:TO}{ops:Array Oper}{K:TA}
@[go_sem] def j6z(F:TE)(H:Hp):jX D P ops K [] F H=K F H:=(rfl)
@[go_sem] def j4D(dst:Option Tmp)(op:Op)(ty:TJ)(pos:String)(after:Array Edge)(rest:List Oper)(F:TE)(H:Hp) :
  jX D P ops K (⟨dst,op,ty,pos,after,none⟩::rest) F H=vc P (cn F) H ty (AP (fun r H'=>jX D P ops K rest (cL F dst r) H') .mk) op:=(rfl)
def Cm(P:TO)(F:TE)(H:Hp)(K:TB):Op->Prop
 |.call { callee:=.value f,args,.. }=>((jh (cn F f)).1=true/\qn F args.toList)/\fa P (bM F f) (args.toList.map (bM F)) H K
 |_=>False
@[go_sem] def j4w{F:TE}{H:Hp}{K:TB}(f:Operand)(zl:Array Operand)(ts:Array TJ):Cm P F H K (.call ⟨.value f,zl,ts⟩)=(((jh (cn F f)).1=true/\qn F zl.toList)/\fa P (bM F f) (zl.toList.map (bM F)) H K):=(rfl)
def Qu{F:TE}{H:Hp}{K:TB}{op:Op}(h:iY op=true):(gp F op=true/\Fl P (bM F) H K op)=Cm P F H K op:=by
 cases op<;>first|(cases h;done)|skip
 rename_i c;obtain⟨callee,args,ts⟩:=c;cases callee<;>first|(cases h;done)|skip
 rename_i f;rw[F4];rfl
@[go_sem] def j1O(t:Nat)(op:Op)(ty:TJ)(pos:String)(after:Array Edge)(j:Nat)(want:Bool)(rest:List Oper)(F:TE)(H:Hp) :
  jX D P ops K (⟨some t,op,ty,pos,after,some (j,want)⟩::rest) F H=qO (lS ops F j want) (fun b=>oV (D.contains t && iY op)
   (rD b (Cm P F H (AP (fun r H'=>jX D P ops K rest (cL F (some t) r) H') .mk) op) (jX D P ops K rest (cL F (some t) (.gd false (.raw (.bool false)))) H) .mk .mk)
   (oV (iY op || iH op) (eK P F H b (vM (fun r=>jX D P ops K rest (cL F (some t) r) H) .mk) op)
    ((b=true->vc P (cn F) H ty (AP (fun r H'=>jX D P ops K rest (cL F (some t) r) H') .mk) op)/\(b=false->jX D P ops K rest (cL F (some t) .any) H)) .mk .mk) .mk .mk) .mk:=by
 conv=>lhs;unfold jX
 simp only;unfold qO oV rD HN;cases lS ops F j want with
 |none=>rfl
 |some b=>
  simp only;by_cases hc:(D.contains t && iY op)=true
  ·rw[if_pos hc,if_pos hc];have hv:iY op=true:=by simp only[Bool.and_eq_true]at hc;exact hc.2
   rw[<-Qu hv];rfl
  ·rw[if_neg hc,if_neg hc];rfl
end
def sS{P:TO}{id:Nat}{l:List Oper}{H:Hp}(D:TH)(h:q)(e:jX D P l.toArray (Q .normal) l F H=q:=by exact fm):dF P (.region id l.toArray false) Q F H:=
 Hq (by simpa using xq l F H (e ▸ h))
def bF{b:Bool}{X Y X' Y' pt pf:Prop}{d:im X}{d':im Y}(ht:pt->X')(hf:pf->Y')
 (et:(b=true)=pt:=by first|(simp only[Int.reduceEq,Int.reduceLE,Int.reduceLT,Int.reduceNe,false_and,and_false,true_and,and_true,or_false,false_or,true_or,or_true,Bool.false_eq_true,Bool.true_eq_false,eq_self,reduceCtorEq,Bool.not_true,Bool.not_false,Bool.and_eq_true,Bool.or_eq_true,Bool.and_eq_false_iff,Bool.or_eq_false_iff,decide_eq_true_eq,decide_eq_false_iff_not,Bool.not_eq_true',Bool.not_eq_false',Int.not_lt,Int.not_le];rfl)|rfl) (ef:(b=false)=pf:=by first|(simp only[Int.reduceEq,Int.reduceLE,Int.reduceLT,Int.reduceNe,false_and,and_false,true_and,and_true,or_false,false_or,true_or,or_true,Bool.false_eq_true,Bool.true_eq_false,eq_self,reduceCtorEq,Bool.not_true,Bool.not_false,Bool.and_eq_true,Bool.or_eq_true,Bool.and_eq_false_iff,Bool.or_eq_false_iff,decide_eq_true_eq,decide_eq_false_iff_not,Bool.not_eq_true',Bool.not_eq_false',Int.not_lt,Int.not_le];rfl)|rfl) (eX:X=X':=by exact fm) (eY:Y=Y':=by exact fm):rD b X Y d d':=⟨fun h=>eX ▸ ht (et ▸ h),fun h=>eY ▸ hf (ef ▸ h)⟩
def CF(A:AS)(l0:TD):List TQ->Prop
 |[]=>True
 |(i,r)::l=>(A.1.contains i=true\/aA l0 i=some r)/\CF A l0 l
theorem EA{A:AS}{l0:TD}:∀{l:TD},CF A l0 l->∀{i:Nat},(ids l).contains i=true->A.1.contains i=true\/∃r,aA l i=some r/\aA l0 i=some r
 |[],_,i,h=>by simp[ids]at h
 |(j,r)::l,hk,i,h=>by
  by_cases e:i=j
  ·subst e;rcases hk.1 with g|g
   ·exact .inl g
   ·exact .inr ⟨r,by simp[aA],g⟩
  ·have h:(ids l).contains i=true:=by
    simp only[ids,List.map_cons,List.contains_cons,Bool.or_eq_true,beq_iff_eq]at h;rcases h with h|h
    ·exact(e h).elim
    ·exact h
   rcases EA hk.2 h with g|⟨s,g1,g2⟩
   ·exact .inl g
   ·exact .inr ⟨s,by simp only[aA,if_neg e];exact g1,g2⟩
def G0{P:TO}{A:AS}{H:Hp}{f:FuncId}{args:TE}{g:TB}{d:im fun r H'=>eJ A H H'/\g r H'}{l0:TD}{r0:AV}(hc:ab P f args l fun r l'=>r=r0/\l'=l0)(k:q)(hA:CF A l0 l:=by(repeat' (first|exact jI|exact Or.inl rfl|exact Or.inr rfl|refine jA ?_ ?_)))(h1:ra l H:=by exact dv)(h0:aU P f=true:=by exact dv)(h2:aX (fun i=>(ids l).contains i) args=true:=by exact dv)(h3:rK (fun i=>(ids l).contains i) l:=by exact dv)
 (h4:oC (ids l) H l0:=by exact dv) (h5:(ids l0).Nodup:=by exact dv) (e:g r0 ⟨H.B,gx H.l l0⟩=q:=by exact fm):fa P (.raw (.func (.func f) #[] #[])) args H (AP (fun r H'=>eJ A H H'/\g r H') d):=
 have hx:eJ A H ⟨H.B,gx H.l l0⟩:=fun i r hi hr=>by
  left
  show aA (gx H.l l0) i=some r;rw[ux _ _ _ (fun _ _ _=>trivial) h5];cases e':aA l0 i with|none=>exact hr|some x=>
   rcases y5 h4 i x e' with h|h
   ·rcases EA hA h with g|⟨s,g1,g2⟩
    ·rw[g]at hi;cases hi
    ·rw[g2]at e';cases e';rw[zY h1 i _ g1]at hr;cases hr;rfl
   ·rw[hr]at h;cases h
 nQ h0 (vW (K:=AP (fun r H'=>eJ A H H'/\g r H') d) hc h1 h2 h3 h4 h5 ⟨hx,e ▸ k⟩)
variable {P:TO}{H:Hp}
def KF{e:TJ}{d:Nat}{x:AV}{c:Prop}{css ys:TC}(k:q)(hd:H.get d=some (.aG e sz css):=by(simp(disch:=first|omega|assumption|fail) only[go_sem,sH,↓reduceIte,Int.reduceEq,Int.reduceLE,Int.reduceLT,Int.reduceNe,Int.reduceToNat,Nat.reduceMul,Nat.reduceAdd,Nat.reduceLeDiff,Nat.reduceSub,Nat.reduceEqDiff,Nat.reduceBEq,List.nodup_cons,List.nodup_nil,List.mem_cons,List.not_mem_nil,List.mem_nil_iff];first|rfl|exact⟨rfl,rfl⟩|exact⟨rfl,rfl,rfl⟩))(ht:ik P t=some e:=by first|(simp only[go_sem];done)|(simp only[go_sem];rfl))(Vg:cZ P e=some sz:=by(simp only[go_sem];done))(W5:dN P e=some zs:=by first|(simp only[go_sem];done)|(simp only[go_sem];rfl))(VX:zs.length=sz:=by rfl)(h0:0<sz:=by decide)(hn:css.length=n:=by first|rfl|exact List.length_replicate|exact dv)(V3:tQ H x=some (c,ys):=by rfl)(hc:c:=by trivial)(hg:Good sz ys:=by exact dv)(XE:ys.length<=n:=by first|assumption|(simp only[List.length_map];omega)|exact dv)
  (he:K (.raw (.int .i64 (ys.length:Nat))) (H.put d (.aG e sz (du css 0 ys)))=q:=by exact fm):pU P .copy [t,t] [.rs d n sz n,x] H K:=by
 subst hn;have hk:=he ▸ k;intro w vs ty cs hw hr;obtain⟨vd,vx,rfl⟩:∃vd vx,vs=[vd,vx]:=by
  have:=hr.1;match vs,this with
  |[vd,vx],_=>exact⟨vd,vx,rfl⟩
 have hu:=tq ht;obtain⟨i,z,hi,Ub,VP,Xl,Xy⟩:=tY Vg W5 VX;obtain⟨A',cx,news,rfl,Ud,UP⟩:=yq hw (hr.2 1 _ vx rfl rfl) V3 hc hg;have VI:ax w (.rs d css.length sz css.length) vd:=hr.2 0 _ vd rfl rfl;have UU:ys.flatten.length=ys.length*sz:=gl fun y hy=>(hg y hy).1
 have Vx:news.length=ys.length*sz:=by rw[<-Ud.1,UU]
 have Vj:cI ys.flatten=true:=by simp only[cI,List.all_eq_true];intro u W6;obtain⟨y,hy,XX⟩:=List.mem_flatten.1 W6;have:=(hg y hy).2;simp only[cI,List.all_eq_true]at this;exact this u XX
 have hf:(Builtin.firstCells i.size ys.length (.slice A' ys.length cx)).run P w.toWorld=.ok news.toArray w.toWorld:=by
  by_cases h0:ys.length=0
  ·have:news=[]:=by have:=Vx;rw[h0,Nat.zero_mul]at this;simpa using this
   subst this;rw[h0];cases A'<;>simp[Builtin.firstCells,loadCells,loadCellsFrom]
  ·obtain⟨ad,rfl,D'⟩:=UP jB;exact run_firstCells_some (P:=P) w.toWorld i.size ys.length ad ys.length cx news (by rw[Ub];exact Vx) D'
 rw[Ub]at hf;have hok:=(hw.rows d _ hd).1;have T6:∀cs∈du css 0 ys,cs.length=sz:=fun cs h=>by
  unfold du at h;rcases List.mem_append.1 h with h|h
  ·rcases List.mem_append.1 h with h|h
   ·exact hok.2 _ (List.mem_of_mem_take h)
   ·exact(hg cs h).1
  ·exact hok.2 _ (List.mem_of_mem_drop h)
 have VC:=gl hok.2;have Tz:=tz (css:=css) ys (Nat.zero_le _);have hmn:Nat.min ys.length css.length=ys.length:=Nat.min_eq_left XE;generalize hN:css.length=N at VI;cases VI with
 |iE _ _ _ A TV=>
  have XF:ys=[]:=List.length_eq_zero_iff.1 jB;subst XF;refine⟨w,_,_,.int .i64 0,?_,hk,?_,.raw _,?_⟩
  ·have Xo:news=[]:=by simpa using Vx
   subst Xo;have hN':Nat.min ([]:TC).length 0=0:=rfl;have hf:(Builtin.firstCells sz 0 (.slice A' 0 cx)).run P w.toWorld=.ok #[] w.toWorld:=hf;cases A<;>simp[builtin,Builtin.copy_,run_underlying hu,Builtin.lenOf,sizeOf,typeInfo,hi,Ub,hf,storeCells,goInt]
  ·refine{ hw with rows:=fun j r hj=>?_,df:=fun j q z hz=>?_ }
   ·rw[Hp.bj]at hj;split at hj
    ·rename_i e;subst e;exact hw.rows j r (by rw[hd];exact hj)
    ·exact hw.rows j r hj
   ·rw[Hp.bj];split
    ·rename_i e;subst e;obtain⟨r,g1,g2⟩:=hw.df j q z hz;rw[hd]at g1;cases g1;exact⟨_,rfl,g2⟩
    ·exact hw.df j q z hz
  ·exact{ Ext.refl w H with base:=rfl }
 |rs _ _ _ _ b t' cap TV Vb T3 U'=>
  subst hN;obtain⟨_,z',Um,T2⟩:=hw.rows d _ hd;have:z'=.at b t' sz:=by have Um:w.nm d css.length=some z':=Um;rw[TV]at Um;cases Um;rfl
  subst this;obtain⟨_,cur,hh,⟨UD,Tx⟩,V4⟩:=T2;have Tx:css.flatten.length<=t':=Tx;have Ww:css.length<=cap:=by rw[VC,<-Vb]at Tx;exact Nat.le_of_mul_le_mul_right Tx h0
  have U9:0+ys.flatten.length<=t':=by rw[UU,Nat.zero_add,<-Vb];exact Nat.mul_le_mul_right _ (Nat.le_trans XE Ww)
  obtain⟨w',B',g1,g2,g3⟩:=sG (P:=P) (off:=0) (r':=.aG e sz (du css 0 ys)) hw hd TV Ud Vj U9 rfl rfl rfl rfl (by show css.length<=(du css 0 ys).length;rw[Tz];omega) ⟨h0,T6⟩ (by show(du css 0 ys).flatten.length<=t';rw[gl T6,Tz,<-Vb];exact Nat.mul_le_mul_right _ (Nat.max_le.2 ⟨Ww,jB⟩)) (fun p u hp=>by
   have hp:(du css 0 ys).flatten[p]?=some u:=hp;unfold du at hp;rw[List.flatten_append,List.flatten_append]at hp;show if _ then _ else css.flatten[p]?=some u
   simp only[List.take_zero,List.flatten_nil,List.nil_append,Nat.zero_add]at hp;rcases Nat.lt_or_ge p (0+ys.flatten.length)with h'|h'
   ·rw[if_pos ⟨Nat.zero_le _,h'⟩];rw[List.getElem?_append_left jB]at hp;exact hp
   ·rw[jN];rw[List.getElem?_append_right jB]at hp;have e2:css.flatten=(css.take ys.length).flatten++(css.drop ys.length).flatten:=by rw[<-List.flatten_append,List.take_append_drop]
    have e3:(css.take ys.length).flatten.length=ys.flatten.length:=by rw[gl fun c hc=>hok.2 c (List.mem_of_mem_take hc),List.length_take,Nat.min_eq_left XE,UU]
    rw[e2,List.getElem?_append_right jB,e3];exact hp)
  refine⟨w',_,_,.int .i64 ys.length,?_,hk,g1,.raw _,g2⟩;simp[builtin,Builtin.copy_,run_underlying hu,Builtin.lenOf,sizeOf,typeInfo,hi,Ub,hmn,hf,B',goInt]
mutual
def AV.bT(f:Nat->Nat):AV->AV
 |.raw v=>.raw v
 |.any=>.any
 |.agg cs=>.agg (ff f cs)
 |.aQ cs=>.aQ (ff f cs)
 |.sl x sz css d=>.sl x sz css d
 |.ip cs=>.ip cs
 |.gd p v=>.gd p (v.bT f)
 |.dP g cs=>.dP g (ff f cs)
 |.pt i m k j=>.pt (f i) m k j
 |.rs i m sz n=>.rs (f i) m sz n
 |.rc i m sz n=>.rc (f i) m sz n
 |.rv i m sz o n=>.rv (f i) m sz o n
 |.mr i=>.mr (f i)
 |.bd g fs=>.bd g (ff f fs)
 |.iG t v=>.iG t (v.bT f)
 |.mv m v=>.mv m (v.bT f)
def ff(f:Nat->Nat):TE->TE
 |[]=>[]
 |a::l=>a.bT f::ff f l
end
theorem o0(f:Nat->Nat):∀(l:TE) (i:Nat),(ff f l)[i]?=(l[i]?).map (AV.bT f)
 |[],i=>by simp[ff]
 |a::l,0=>by simp[ff]
 |a::l,i+1=>by simp only[ff,List.getElem?_cons_succ];exact o0 f l i
theorem mn(f:Nat->Nat):∀l:TE,(ff f l).length=l.length
 |[]=>rfl
 |a::l=>by simp only[ff,List.length_cons,mn f l]
theorem Jf(f:Nat->Nat):∀l m:TE,ff f (l++m)=ff f l++ff f m
 |[],m=>rfl
 |a::l,m=>by simp only[List.cons_append,ff,Jf f l m]
def Row.bT(f:Nat->Nat):Row->Row
 |.var t cs=>.var t (ff f cs)
 |.aG e sz css=>.aG e sz (css.map (ff f))
 |.mp ks vs=>.mp ks (ff f vs)
def Row.jM(f:Nat->Nat)(r:Row):(r.bT f).fN=r.fN:=by cases r<;>simp[Row.bT,Row.fN]
def Row.jU(f:Nat->Nat)(r:Row):(r.bT f).bB=r.bB:=by cases r<;>rfl
def Row.gH(f:Nat->Nat)(r:Row):(r.bT f).cells=ff f r.cells:=by
 cases r with
 |var t cs=>rfl
 |aG e sz css=>
  show(css.map (ff f)).flatten=ff f css.flatten;induction css with
  |nil=>rfl
  |cons c css ih=>simp only[List.map_cons,List.flatten_cons,ih,Jf]
 |mp ks vs=>rfl
def Row.nN(f:Nat->Nat)(r:Row)(cur:TL):(r.bT f).obj cur=r.obj cur:=by cases r<;>rfl
def Row.nS(f:Nat->Nat)(r:Row)(n t:Nat):(r.bT f).fit n t=r.fit n t:=by
 have h:=r.gH f;cases r with
 |var ty cs=> show(n=t/\(Row.var ty (ff f cs)).cells.length<=t)=_;have h:(Row.var ty (ff f cs)).cells=ff f (Row.var ty cs).cells:=h;rw[h,mn];rfl
 |aG e sz css=> show(n=t/\(Row.aG e sz (css.map (ff f))).cells.length<=t)=_;have h:(Row.aG e sz (css.map (ff f))).cells=ff f (Row.aG e sz css).cells:=h;rw[h,mn];rfl
 |mp ks vs=>show(n=(ff f vs).length)=_;rw[mn];rfl
variable{f:Nat->Nat}{r:Row}
def Row.tP(h:r.ok):(r.bT f).ok:=by
 cases r with
 |var t cs=>trivial
 |aG e sz css=> refine⟨h.1,fun cs UD=>?_⟩;obtain⟨c,hc,rfl⟩:=List.mem_map.1 UD;rw[mn];exact h.2 c hc
 |mp ks vs=>show ks.length=(ff f vs).length;rw[mn];exact h
def lf(f:Nat->Nat)(l:TD):TD:=l.map fun x=>(f x.1,x.2.bT f)
def zK(f:Nat->Nat)(l:TD):ids (lf f l)=(ids l).map f:=by unfold ids lf;simp[List.map_map,Function.comp_def]
theorem yI{f g:Nat->Nat}(hf:∀i,g (f i)=i):∀(l:TD) (i:Nat),aA (lf f l) (f i)=(aA l i).map (Row.bT f)
 |[],i=>rfl
 |(j,r)::l,i=>by
  show(if f i=f j then some (r.bT f)else aA (lf f l) (f i))=((if i=j then some r else aA l i):Option Row).map _;by_cases h:i=j
  ·subst h;rw[if_pos rfl,if_pos rfl];rfl
  ·rw[if_neg h,if_neg (fun e=>h (by rw[<-hf i,<-hf j,e])),yI hf l i]
variable{l:TD}{j:Nat}
def xg{g:Nat->Nat}(hf:∀i,g (f i)=i)(h:aA (lf f l) j=some r):∃i r0,j=f i/\r=r0.bT f/\aA l i=some r0:=by
 induction l with
 |nil=>cases h
 |cons x l ih=>
  obtain⟨k,s⟩:=x;have h:(if j=f k then some (s.bT f)else aA (lf f l) j)=some r:=h;by_cases e:j=f k
  ·rw[if_pos e]at h;cases h;exact⟨k,s,e,rfl,by simp[aA]⟩
  ·rw[if_neg e]at h;obtain⟨i,r0,h1,h2,h3⟩:=ih h;refine⟨i,r0,h1,h2,?_⟩;show(if i=k then some s else aA l i)=_;rw[if_neg (fun e'=>e (by rw[h1,e']))];exact h3
@[reducible] def NW.pull(f:Nat->Nat)(w:NW):NW:={ w with nm:=fun i m=>w.nm (f i) m }
@[reducible] def NW.push(f g:Nat->Nat)(w:NW):NW:={ w with nm:=fun j m=>if f (g j)=j then w.nm (g j) m else none }
def NW.oh{g:Nat->Nat}(hf:∀i,g (f i)=i)(w:NW):(w.push f g).pull f=w:=by
 obtain⟨W,O,nm⟩:=w;show NW.mk W O _=NW.mk W O nm;congr 1
 funext i m
 show(if f (g (f i))=f i then nm (g (f i)) m else none)=nm i m;rw[hf,if_pos rfl]
def Il{a:AV}{v:Value}{w0:NW}(h:ax w0 a v):∀w:NW,w0=w.pull f->ax w (a.bT f) v:=by
 induction h with
 |raw v=>intro w e;simp only[AV.bT];exact .raw v
 |any v=>intro w e;simp only[AV.bT];exact .any v
 |agg cs vs hl _ ih=>
  intro w e;simp only[AV.bT];refine .agg _ vs (by rw[mn];exact hl) fun i a v h1 h2=>?_
  rw[o0]at h1;cases hc:cs[i]? with
  |none=>rw[hc]at h1;cases h1
  |some b=>rw[hc]at h1;cases h1;exact ih i b v hc h2 w e
 |aQ cs vs hl _ ih=>
  intro w e;simp only[AV.bT];refine .aQ _ vs (by rw[mn];exact hl) fun i a v h1 h2=>?_
  rw[o0]at h1;cases hc:cs[i]? with
  |none=>rw[hc]at h1;cases h1
  |some b=>rw[hc]at h1;cases h1;exact ih i b v hc h2 w e
 |gu x sz A c hx=>intro w e;simp only[AV.bT];exact .gu x sz A c hx
 |sl x sz css a c vs hn hc hx TU hb hH D' UW _=>intro w e;subst e;simp only[AV.bT];exact .sl x sz css a c vs hn hc hx TU hb hH D' UW
 |ip cs a vs hb hH D' UW _=>intro w e;subst e;simp only[AV.bT];exact .ip cs a vs hb hH D' UW
 |gd p a v _ hu ih=>intro w e;simp only[AV.bT];exact .gd p _ v (fun hp=>ih hp w e) hu
 |dP g cs vs hl _ ih=>
  intro w e;simp only[AV.bT];refine .dP g _ vs (by rw[mn];exact hl) fun i a v h1 h2=>?_
  rw[o0]at h1;cases hc:cs[i]? with
  |none=>rw[hc]at h1;cases h1
  |some b=>rw[hc]at h1;cases h1;exact ih i b v hc h2 w e
 |pt i m k j b t s h=>intro w e;subst e;simp only[AV.bT];exact .pt (f i) m k j b t s h
 |iE i m sz A h=>intro w e;subst e;simp only[AV.bT];exact .iE (f i) m sz A h
 |rs i m sz n b t c h hc hn hs=>intro w e;subst e;simp only[AV.bT];exact .rs (f i) m sz n b t c h hc hn hs
 |rc i m sz n b t h hc hn hs=>intro w e;subst e;simp only[AV.bT];exact .rc (f i) m sz n b t h hc hn hs
 |jb i m sz o c A=>intro w e;simp only[AV.bT];exact .jb (f i) m sz o c A
 |rv i m sz o n b t c h hn=>intro w e;subst e;simp only[AV.bT];exact .rv (f i) m sz o n b t c h hn
 |mr i b t s h=>intro w e;subst e;simp only[AV.bT];exact .mr (f i) b t s h
 |bd g fs vs hl _ ih=>
  intro w e;simp only[AV.bT];refine .bd g _ vs (by rw[mn];exact hl) fun i a v h1 h2=>?_
  rw[o0]at h1;cases hc:fs[i]? with
  |none=>rw[hc]at h1;cases h1
  |some b=>rw[hc]at h1;cases h1;exact ih i b v hc h2 w e
 |iG t a v _ ih=>intro w e;simp only[AV.bT];exact .iG t _ v (ih w e)
 |mv m a v _ ih=>intro w e;simp only[AV.bT];exact .mv m _ v (ih w e)
mutual
theorem vU{f:Nat->Nat}{w:NW}:∀(a:AV) (v:Value),ax w (a.bT f) v->ax (w.pull f) a v
 |.raw x,v,h=>by simp only[AV.bT]at h;cases h;exact .raw _
 |.any,v,h=>.any v
 |.agg cs,v,h=>by
  simp only[AV.bT]at h;cases h with
  |agg _ vs hl hh=>exact .agg cs vs (by rw[mn]at hl;exact hl) fun i a u h1 h2=>wJ cs i a h1 u (hh i _ u (by rw[o0,h1];rfl) h2)
 |.aQ cs,v,h=>by
  simp only[AV.bT]at h;cases h with
  |aQ _ vs hl hh=>exact .aQ cs vs (by rw[mn]at hl;exact hl) fun i a u h1 h2=>wJ cs i a h1 u (hh i _ u (by rw[o0,h1];rfl) h2)
 |.sl x sz css d,v,h=>by
  simp only[AV.bT]at h;cases h with
  |gu _ _ A c hx=>exact .gu x sz A c hx
  |sl _ _ _ a c vs hn hc hx TU hb hH D' UW=>exact .sl x sz css a c vs hn hc hx TU hb hH D' UW
 |.ip cs,v,h=>by
  simp only[AV.bT]at h;cases h with
  |ip _ a vs hb hH D' UW=>exact .ip cs a vs hb hH D' UW
 |.gd p x,v,h=>by
  simp only[AV.bT]at h;cases h with
  |gd _ _ _ h1 hu=>exact .gd p x v (fun hp=>vU x v (h1 hp)) hu
 |.dP g cs,v,h=>by
  simp only[AV.bT]at h;cases h with
  |dP _ _ vs hl hh=>exact .dP g cs vs (by rw[mn]at hl;exact hl) fun i a u h1 h2=>wJ cs i a h1 u (hh i _ u (by rw[o0,h1];rfl) h2)
 |.pt i m k j,v,h=>by
  simp only[AV.bT]at h;cases h with
  |pt _ _ _ _ b t s hn=>exact .pt i m k j b t s hn
 |.rs i m sz n,v,h=>by
  simp only[AV.bT]at h;cases h with
  |iE _ _ _ A hn=>exact .iE i m sz A hn
  |rs _ _ _ _ b t c hn h1 h2 h3=>exact .rs i m sz n b t c hn h1 h2 h3
 |.rc i m sz n,v,h=>by
  simp only[AV.bT]at h;cases h with
  |rc _ _ _ _ b t hn h1 h2 h3=>exact .rc i m sz n b t hn h1 h2 h3
 |.rv i m sz o n,v,h=>by
  simp only[AV.bT]at h;cases h with
  |jb _ _ _ _ c A=>exact .jb i m sz o c A
  |rv _ _ _ _ _ b t c hn h1=>exact .rv i m sz o n b t c hn h1
 |.mr i,v,h=>by
  simp only[AV.bT]at h;cases h with
  |mr _ b t s hn=>exact .mr i b t s hn
 |.bd g fs,v,h=>by
  simp only[AV.bT]at h;cases h with
  |bd _ _ vs hl hh=>exact .bd g fs vs (by rw[mn]at hl;exact hl) fun i a u h1 h2=>wJ fs i a h1 u (hh i _ u (by rw[o0,h1];rfl) h2)
 |.iG t x,v,h=>by
  simp only[AV.bT]at h;cases h with
  |iG _ _ u h1=>exact .iG t x u (vU x u h1)
 |.mv m x,v,h=>by
  simp only[AV.bT]at h;cases h with
  |mv _ _ u h1=>exact .mv m x u (vU x u h1)
theorem wJ{f:Nat->Nat}{w:NW}:∀(l:TE) (i:Nat) (a:AV),l[i]?=some a->∀v,ax w (a.bT f) v->ax (w.pull f) a v
 |[],i,a,h,v,hv=>by simp at h
 |x::l,0,a,h,v,hv=>by
  have e:x=a:=by simpa using h
  rw[<-e]at hv ⊢;exact vU x v hv
 |x::l,i+1,a,h,v,hv=>wJ l i a (by simpa using h) v hv
end
variable{w:NW}
def KS{z:Rz}(h:gq (w.pull f) r z):gq w (r.bT f) z:=by
 cases z with
 |nil=> obtain⟨e,sz,rfl⟩:=h;exact⟨e,sz,rfl⟩
 |«at» b t s=>
  obtain⟨h1,cur,h2,h3,h4⟩:=h;refine⟨h1.trans (r.jU f).symm,cur,by rw[Row.nN];exact h2,by rw[Row.nS];exact h3,fun i a v h5 h6=>?_⟩;rw[Row.gH,o0]at h5;cases hc:r.cells[i]? with
  |none=>rw[hc]at h5;cases h5
  |some c=>rw[hc]at h5;cases h5;exact Il (h4 i c v hc h6) w rfl
def P3{z:Rz}(h:gq w (r.bT f) z):gq (w.pull f) r z:=by
 cases z with
 |nil=>
  obtain⟨e,sz,h⟩:=h;cases r with
  |var t cs=>cases h
  |aG e' sz' css=>
   have h:Row.aG e' sz' (css.map (ff f))=Row.aG e sz []:=h;cases css with
   |nil=>exact⟨e',sz',rfl⟩
   |cons c css=>cases h
  |mp ks vs=>cases h
 |«at» b t s=> obtain⟨h1,cur,h2,h3,h4⟩:=h;rw[Row.nN]at h2;rw[Row.nS]at h3;refine⟨h1.trans (r.jU f),cur,h2,h3,fun i a v h5 h6=>?_⟩;exact vU a v (h4 i (a.bT f) v (by rw[Row.gH,o0,h5];rfl) h6)
theorem ab.bT{P:TO}{fn:FuncId}{args:TE}{l:TD}{R:AV->List TQ->Prop}{f g:Nat->Nat}(hf:∀i,g (f i)=i)(hc:ab P fn args l R) :
  ab P fn (ff f args) (lf f l) fun r l'=>∃r0 l0,r=AV.bT f r0/\l'=lf f l0/\R r0 l0:=fun w vs hw hv=>by
 have inj:∀{i j},f i=f j->i=j:=fun{i j} e=>by rw[<-hf i,<-hf j,e]
 have hW:aJ (w.pull f) (entry l):={
  bX:=hw.bX
  rows:=fun i r hi=>by
   have hi:aA l i=some r:=hi;obtain⟨h1,z,h2,h3⟩:=hw.rows (f i) (r.bT f) (by show aA (lf f l) (f i)=_;rw[yI hf,hi];rfl);refine⟨?_,z,by rw[Row.jM]at h2;exact h2,P3 h3⟩;cases r with
   |var t cs=>trivial
   |aG e sz css=>exact⟨h1.1,fun cs UD=>by have:=h1.2 (ff f cs) (List.mem_map_of_mem UD);rw[mn]at this;exact this⟩
   |mp ks vs=>have h1:ks.length=(ff f vs).length:=h1;rw[mn]at h1;exact h1
  df:=fun i m z h=>by obtain⟨r,h1,h2⟩:=hw.df (f i) m z h;obtain⟨i',r0,e1,rfl,e3⟩:=xg hf h1;cases inj e1;exact⟨r0,e3,by rw[Row.jM]at h2;exact h2⟩
  inj:=fun i m j n b t s t' s' h1 h2=>inj (hw.inj _ _ _ _ _ _ _ _ _ h1 h2)
  own:=fun i m b t s h=>hw.own _ _ _ _ _ h
  fin:=hw.fin }
 have hV:bs (w.pull f) args vs:=⟨by have:=hv.1;rw[mn]at this;exact this,fun i a v h1 h2=>vU a v (hv.2 i _ v (by rw[o0,h1];rfl) h2)⟩;refine(hc (w.pull f) vs hW hV).mono ?_;rintro e W ⟨v,r,H',w',rfl,rfl,hR,h1,h2,h3⟩;have hp:=NW.oh hf w';refine⟨v,r.bT f,⟨H'.B.map f,lf f H'.l⟩,w'.push f g,rfl,rfl,⟨r,H'.l,rfl,rfl,hR⟩,?_,?_,?_⟩
 ·exact{
   bX:=h1.bX
   rows:=fun j r hj=>by obtain⟨i,r0,rfl,rfl,e3⟩:=xg hf hj;obtain⟨k1,z,k2,k3⟩:=h1.rows i r0 e3;refine⟨Row.tP k1,z,?_,KS (w:=w'.push f g) (by rw[hp];exact k3)⟩;show(if f (g (f i))=f i then w'.nm (g (f i)) (r0.bT f).fN else none)=some z;rw[hf,if_pos rfl,Row.jM];exact k2
   df:=fun j m z h=>by
    have h:(if f (g j)=j then w'.nm (g j) m else none)=some z:=h;split at h
    ·rename_i e;obtain⟨r0,k1,k2⟩:=h1.df _ _ _ h;refine⟨r0.bT f,?_,by rw[Row.jM];exact k2⟩;show aA (lf f H'.l) j=_;rw[<-e,yI hf];have k1:aA H'.l (g j)=some r0:=k1;rw[k1];rfl
    ·cases h
   inj:=fun i m j n b t s t' s' k1 k2=>by
    have k1:(if f (g i)=i then w'.nm (g i) m else none)=some _:=k1;have k2:(if f (g j)=j then w'.nm (g j) n else none)=some _:=k2;split at k1
    ·rename_i e1;split at k2
     ·rename_i e2;have:=h1.inj _ _ _ _ _ _ _ _ _ k1 k2;rw[<-e1,<-e2,this]
     ·cases k2
    ·cases k1
   own:=fun i m b t s k=>by
    have k:(if f (g i)=i then w'.nm (g i) m else none)=some _:=k;split at k
    ·exact h1.own _ _ _ _ _ k
    ·cases k
   fin:=h1.fin }
 ·exact Il (w0:=w') h2 (w'.push f g) hp.symm
 ·exact{
   size:=h3.size
   free:=h3.free
   names:=fun j m z hj hz=>by have hj:(ids (lf f l)).contains j=true:=hj;rw[zK]at hj;obtain⟨i,hi,rfl⟩:=List.mem_map.1 (List.contains_iff_mem.1 hj);have:=h3.names i m z (List.contains_iff_mem.2 hi) hz;show(if f (g (f i))=f i then w'.nm (g (f i)) m else none)=some z;rw[hf,if_pos rfl];exact this
   os:=h3.os,tape:=h3.tape,output:=h3.output
   rest:=fun b hb hO TS=>by
    obtain⟨k1,k2,k3⟩:=h3.rest b hb hO fun i m t s=>TS (f i) m t s
    refine⟨k1,k2,fun j m t s h=>?_⟩;have h:(if f (g j)=j then w'.nm (g j) m else none)=some _:=h;split at h
    ·exact k3 _ _ _ _ h
    ·cases h
   base:=by show H'.B.map f=ids (lf f l);rw[zK];have:H'.B=ids l:=h3.base;rw[this] }
section
variable {P:TO}{f:FuncId}{args fs:TE}{H:Hp}{K:TB}{q:Prop}
def bm{l l0:TD}{r0:AV}(hc:ab P f (fs++args) l fun r l'=>r=r0/\l'=l0)(k:q)(h1:ra l H:=by exact dv)(h0:aU P f=true:=by exact dv)(h2:aX (fun i=>(ids l).contains i) (fs++args)=true:=by exact dv)(h3:rK (fun i=>(ids l).contains i) l:=by exact dv)
 (h4:oC (ids l) H l0:=by exact dv) (h5:(ids l0).Nodup:=by exact dv) (e:K r0 ⟨H.B,gx H.l l0⟩=q:=by exact fm):fa P (.bd f fs) args H K:=.inl ⟨h0,by have:=vW hc h1 h2 h3 h4 h5 (e ▸ k:K r0 ⟨H.B,gx H.l l0⟩);simpa using this⟩
end
variable {P:TO}{H:Hp}
def Bh(w:NW)(v:Value)(k:Nat)(ys:TC):Prop:=∃A c news,v=.slice A k c/\ys.length<=k/\bY w ys.flatten news/\(0<ys.length->∃ad,A=some ad/\∀(j:Nat) u,news[j]?=some u->w.cell? (ad.add j)=some u)
variable{ys:TC}{sz:Nat}
def G6{H:Hp}{x:AV}{c:Prop}(h:tQ H x=some (c,ys))(hc:c)(hg:Good sz ys):∀(w:NW) vx,aJ w H->ax w x vx->Bh w vx ys.length ys:=fun w vx hw hx=>by obtain⟨A,c',news,e,h1,h2⟩:=yq hw hx h hc hg;exact⟨A,c',news,e,Nat.le_refl _,h1,h2⟩
variable{d m o n:Nat}{css:TC}
def Gf{k:Nat}{e:TJ}(hd:H.get d=some (.aG e sz css))(hm:m=css.length)(ho:o+k<=m)(hn:n<=k):∀(w:NW) vx,aJ w H->ax w (.rv d m sz o k) vx->Bh w vx k ((css.drop o).take n):=fun w vx hw hx=>by
 subst hm;obtain⟨hok,_⟩:=hw.rows d _ hd;have T7:=hok.2;have I':((css.drop o).take n).length=n:=by simp;omega
 cases hx with
 |jb _ _ _ _ c A=> have e0:n=0:=jB;subst e0;exact⟨A,c,[],rfl,jE,⟨rfl,fun i a v h=>by simp at h⟩,fun h=>by simp at h⟩
 |rv _ _ _ _ _ b t c TV T3=>
  by_cases h0:n=0
  ·subst h0;exact⟨_,c,[],rfl,jE,⟨rfl,fun i a v h=>by simp at h⟩,fun h=>by simp at h⟩
  have:=zc (w:=w) (sz:=sz) (c:=c) (ys:=(css.drop o).take n) (ad:=⟨b,o*sz,none⟩) (fun y hy=>T7 y (List.mem_of_mem_drop (List.mem_of_mem_take hy))) fun i' j Vt hj=>by obtain⟨_,_,_,v,h1,h2⟩:=sX hw hd TV (k:=o+i') (j:=j) jB hj;refine⟨v,by rw[jf,<-Nat.add_assoc,<-Nat.add_mul];exact h1,fun u hu=>h2 u ?_⟩;rw[<-hu];simp[List.getElem?_take,show i'<n from jB]
  obtain⟨A,c',news,e,h1,h2⟩:=this;cases e;exact⟨_,c,news,rfl,jB,h1,h2⟩
def AJ(hc:∀c∈css,c.length=sz)(hy:∀c∈ys,c.length=sz)(ho:o+ys.length<=css.length){p:Nat}{u:AV}(hp:(du css o ys).flatten[p]?=some u):if o*sz<=p/\p<o*sz+ys.flatten.length then ys.flatten[p-o*sz]?=some u else css.flatten[p]?=some u:=by
 have h1:(css.take o).flatten.length=o*sz:=by rw[gl fun c h=>hc c (List.mem_of_mem_take h),List.length_take,Nat.min_eq_left jB]
 have e2:css.flatten=(css.take o).flatten++((css.drop o).take ys.length).flatten++(css.drop (o+ys.length)).flatten:=by
  rw[<-List.flatten_append,<-List.flatten_append];congr 1
  rw[List.append_assoc,<-List.drop_drop,List.take_append_drop,List.take_append_drop]
 have h3:((css.drop o).take ys.length).flatten.length=ys.flatten.length:=by rw[gl fun c h=>hc c (List.mem_of_mem_drop (List.mem_of_mem_take h)),gl hy,List.length_take,List.length_drop,Nat.min_eq_left jB]
 unfold du at hp;rw[List.flatten_append,List.flatten_append]at hp;generalize (css.take o).flatten=T at*;generalize ((css.drop o).take ys.length).flatten=M at*;generalize (css.drop (o+ys.length)).flatten=D at*;generalize ys.flatten=Y at*;rcases Nat.lt_or_ge p T.length with h|h
 ·rw[jN,e2,List.append_assoc,List.getElem?_append_left h];rw[List.append_assoc,List.getElem?_append_left h]at hp;exact hp
 ·rw[List.append_assoc,List.getElem?_append_right h]at hp;rcases Nat.lt_or_ge (p-T.length) Y.length with h'|h'
  ·rw[List.getElem?_append_left h']at hp;rw[if_pos ⟨jB,jB⟩,<-hp,h1]
  ·rw[List.getElem?_append_right h']at hp;rw[jN,e2,List.append_assoc,List.getElem?_append_right h,List.getElem?_append_right jB,<-hp,h3]
variable{t:TJ}{zs:TM}{K:TB}
def zV{e:TJ}{k:Nat}{x:AV}(hd:H.get d=some (.aG e sz css))(hm:m=css.length)(ht:ik P t=some e)(Vg:cZ P e=some sz)(W5:dN P e=some zs)(VX:zs.length=sz)(h0:0<sz)(Yw:o+n<=m)(Xp:0<n)
  (V3:∀(w:NW) vx,aJ w H->ax w x vx->Bh w vx k ys) (hg:Good sz ys) (XG:Nat.min k n=ys.length)
  (hk:K (.raw (.int .i64 (ys.length:Nat))) (H.put d (.aG e sz (du css o ys)))):pU P .copy [t,t] [.rv d m sz o n,x] H K:=by
 subst hm;intro w vs ty cs hw hr;obtain⟨vd,vx,rfl⟩:∃vd vx,vs=[vd,vx]:=by
  have:=hr.1;match vs,this with
  |[vd,vx],_=>exact⟨vd,vx,rfl⟩
 have hu:=tq ht;obtain⟨i,z,hi,Ub,VP,Xl,Xy⟩:=tY Vg W5 VX;obtain⟨A',cx,news,rfl,hyk,Ud,UP⟩:=V3 w vx hw (hr.2 1 _ vx rfl rfl);have VI:ax w (.rv d css.length sz o n) vd:=hr.2 0 _ vd rfl rfl;have hyn:ys.length<=n:=by rw[<-XG];exact Nat.min_le_right _ _
 have UU:ys.flatten.length=ys.length*sz:=gl fun y hy=>(hg y hy).1
 have Vx:news.length=ys.length*sz:=by rw[<-Ud.1,UU]
 have Vj:cI ys.flatten=true:=by simp only[cI,List.all_eq_true];intro u W6;obtain⟨y,hy,XX⟩:=List.mem_flatten.1 W6;have:=(hg y hy).2;simp only[cI,List.all_eq_true]at this;exact this u XX
 have hf:(Builtin.firstCells i.size ys.length (.slice A' k cx)).run P w.toWorld=.ok news.toArray w.toWorld:=by
  by_cases h0:ys.length=0
  ·have:news=[]:=by have:=Vx;rw[h0,Nat.zero_mul]at this;simpa using this
   subst this;rw[h0];cases A'<;>simp[Builtin.firstCells,loadCells,loadCellsFrom]
  ·obtain⟨ad,rfl,D'⟩:=UP jB;exact run_firstCells_some (P:=P) w.toWorld i.size ys.length ad k cx news (by rw[Ub];exact Vx) D'
 rw[Ub]at hf;have hok:=(hw.rows d _ hd).1;have T6:∀cs∈du css o ys,cs.length=sz:=fun cs h=>by
  unfold du at h;rcases List.mem_append.1 h with h|h
  ·rcases List.mem_append.1 h with h|h
   ·exact hok.2 _ (List.mem_of_mem_take h)
   ·exact(hg cs h).1
  ·exact hok.2 _ (List.mem_of_mem_drop h)
 have VC:=gl hok.2;have Tz:(du css o ys).length=css.length:=by rw[tz ys jB,Nat.max_eq_left jB]
 cases VI with
 |jb _ _ _ _ _ A=>omega
 |rv _ _ _ _ _ b t' cap TV T3=>
  obtain⟨_,z',Um,T2⟩:=hw.rows d _ hd;have:z'=.at b t' sz:=by have Um:w.nm d css.length=some z':=Um;rw[TV]at Um;cases Um;rfl
  subst this;obtain⟨_,cur,hh,⟨UD,Tx⟩,V4⟩:=T2;have Tx:css.flatten.length<=t':=Tx;have hmul:(o+ys.length)*sz<=css.length*sz:=Nat.mul_le_mul_right _ jB;rw[Nat.add_mul]at hmul;have U9:o*sz+ys.flatten.length<=t':=jB;obtain⟨w',B',g1,g2,g3⟩:=sG (P:=P) (off:=o*sz) (r':=.aG e sz (du css o ys)) hw hd TV Ud Vj U9 rfl rfl rfl rfl (by show css.length<=(du css o ys).length;rw[Tz];exact Nat.le_refl _) ⟨h0,T6⟩ (by show(du css o ys).flatten.length<=t';rw[gl T6,Tz];omega) (fun p u hp=>AJ hok.2 (fun c hc=>(hg c hc).1) jB hp);refine⟨w',_,_,.int .i64 ys.length,?_,hk,g1,.raw _,g2⟩;have ZQ:Nat.min n k=ys.length:=(Nat.min_comm n k).trans XG;simp[builtin,Builtin.copy_,run_underlying hu,Builtin.lenOf,sizeOf,typeInfo,hi,Ub,XG,ZQ,hf,B',goInt]
variable{f:FuncId}
def Ko  {fn : Func} {tR e:TypeId}   {dd : List AV} {K : AV → Hp → Prop} (hf : P.funcs[f]? = some fn) (Wd : (fn.name == "runtime.NumGoroutine") = false) (hbn : fn.body.isNone = true) (hn : Extern.findNext fn = none)
  (he:Extern.find fn=some (Extern.SlicesOverlaps.overlaps #[t,t] #[tR])) (ht:ik P t=some e) (TU:cZ P e=some sz) (hd:H.get d=some (.aG e sz css)) (hm:m=css.length) (Xp:0<n) (Yw:o+n<=m) (hy:0<ys.length) (hk:K (.raw (.bool false)) H) :
  ur P f [.sl true sz ys dd,.rv d m sz o n] H K:=by
 subst hm;have hu:=tq ht;intro w vs hw hr;obtain⟨vd,vx,rfl⟩:∃vd vx,vs=#[vd,vx]:=by
  have:=hr.1;match vs,this with
  |⟨[vd,vx]⟩,_=>exact⟨vd,vx,rfl⟩
 have h2:=hr.2 1 _ vx rfl rfl;have h1:=hr.2 0 _ vd rfl rfl;cases h2 with
 |jb _ _ _ _ _ A=>omega
 |rv _ _ _ _ _ b t' cap TV T3=>
  obtain⟨hok,z',Um,T2⟩:=hw.rows d _ hd;have:z'=.at b t' sz:=by have Um:w.nm d css.length=some z':=Um;rw[TV]at Um;cases Um;rfl
  subst this;obtain⟨_,cur,hh,⟨UD,Tx⟩,V4⟩:=T2;have Tx:css.flatten.length<=t':=Tx;have hh:w.heap[b]?=some (.cells cur e (0,0)):=hh;rw[gl hok.2]at Tx;have U2:0<css.length*sz:=Nat.mul_pos jB hok.1;have hO:w.O b:=hw.own _ _ _ _ _ TV;cases h1 with
  |gu=>simp at hy
  |sl _ _ _ ad c' vs' _ _ hx _ ZR hH _ _=>
   obtain⟨_,cu,el,Ws⟩:=hx rfl;have B':=Lib.run_overlaps_apart (P:=P) w.toWorld t tR e hu sz (fun _=>lC TU) ad ⟨b,o*sz,none⟩ ys.length c' n cap (fun e=>hH (by rw[e];exact hO)) el e cu.size cur.size
    (by simp[World.shape?,Ws]) (by simp[World.shape?,hh]) jB (by simp[World.frozen?,Ws]) (by simp[World.frozen?,Ws])
   refine⟨_,w,_,H,?_,hk,hw,.raw _,Ext.refl w H⟩;rw[run_callFunc_extern hf Wd hbn hn he,B'];rfl
def Er(z:TL)(m:Nat):(Builtin.zeroCells z m).toList=(List.replicate m z.toList).flatten:=by
 induction m with
 |zero=>simp[Builtin.zeroCells]
 |succ m ih=>
  rw[List.replicate_succ',List.flatten_append,<-ih];apply List.ext_getElem
  ·simp[Builtin.zeroCells,Nat.add_mul]
  ·intro i h1 h2;simp only[Builtin.zeroCells,Array.toList_map,Array.toList_range,List.getElem_map,List.getElem_range]at h1 ⊢;rcases Nat.lt_or_ge i (m*z.size)with h|h
   ·rw[List.getElem_append_left (by simpa using h)];simp
   ·rw[List.getElem_append_right (by simpa using h)];simp only[List.length_map,List.length_range,Array.size_range]at*;simp only[List.length_map,List.length_range,Nat.add_mul,Nat.one_mul]at h1;have hi:i % z.size=i-m*z.size:=by
     have:i=(i-m*z.size)+m*z.size:=jB;rw[this,Nat.add_mul_mod_self_right,Nat.mod_eq_of_lt jB];omega
    rw[hi];simp[getElem!_pos,show i-m*z.size<z.size from jB]
variable{i:Nat}
def Ta{t' e:TJ}{k:Nat}{q:Int}(ht:ik P t=some e)(W6:∃d,P.underlying t'=some (.int d))(TU:cZ P e=some sz)(hz:dN P e=some zs)(VX:zs.length=sz)(h0:0<sz)
  (hd:H.get d=some (.aG e sz css)) (hm:m=css.length) (hi:i<=m) (hc:m<i+k) (UQ:room (kj P e) (i+k)) (hq:q=k) (hj:H.get j=none) (hn:n=i+k)
  (hk:K (.rs j n sz n) (H.put j (.aG e sz (css.take i++List.replicate k (zs.map .raw))))):qx P t t' (.rc d m sz i) (.raw (.int .i64 q)) H K:=by
 subst hm hq hn;have hu:=tq ht;intro w va vx ty hw VI YS;have:=dc YS;subst this;obtain⟨dk,Ya⟩:=W6;obtain⟨inf,z,Vt,Ub,VP,Xl,Xy⟩:=tY TU hz VX;obtain⟨VT,Xb⟩:=UQ;rw[Xy]at VT;have WJ:z.cells.toList=zs:=by unfold dN at hz;rw[Vt]at hz;simp only[Option.bind_some,VP,Option.map_some,Option.some.injEq]at hz;exact hz
 have VJ:i+k<=grownCap w.toWorld (i+k) css.length e:=by unfold grownCap Question.cut;simp
 have hok:=(hw.rows d _ hd).1;have T6:∀cs∈css.take i++List.replicate k (zs.map AV.raw),cs.length=sz:=fun cs h=>by
  rcases List.mem_append.1 h with h|h
  ·exact hok.2 cs (List.mem_of_mem_take h)
  ·rw[List.eq_of_mem_replicate h];simpa using VX
 have Tz:(css.take i++List.replicate k (zs.map AV.raw)).length=i+k:=by simp;omega
 have VC:=gl hok.2;have Ud:bY w (List.replicate k (zs.map AV.raw)).flatten (List.replicate k zs).flatten:=by
  have:(List.replicate k (zs.map AV.raw)).flatten=((List.replicate k zs).flatten).map .raw:=by simp[List.map_flatten]
  rw[this];exact zn _
 generalize haq:css.length=L at VI hc VJ VC hi;cases VI with
 |rc _ _ _ _ b t' TV Vb T3 U'=>
  obtain⟨_,z',Um,T2⟩:=hw.rows d _ hd;have:z'=.at b t' sz:=by have Um:w.nm d css.length=some z':=Um;rw[haq,TV]at Um;cases Um;rfl
  subst this;obtain⟨_,cur,hh,⟨UD,Tx⟩,V4⟩:=T2;have hh:w.heap[b]?=some (.cells cur e (0,0)):=hh;have Tx:css.flatten.length<=t':=Tx;have V4:∀(x:Nat) a v,css.flatten[x]?=some a->cur[x]?=some v->ax w a v:=V4;have hmul:=Nat.mul_le_mul_right sz hi;have VK:(css.take i).flatten=css.flatten.take (i*sz):=by
   have e1:css.flatten=(css.take i).flatten++(css.drop i).flatten:=by rw[<-List.flatten_append,List.take_append_drop]
   have e2:(css.take i).flatten.length=i*sz:=by rw[gl fun c h=>hok.2 c (List.mem_of_mem_take h),List.length_take,Nat.min_eq_left jB]
   have e3:=congrArg (List.take (i*sz)) e1;rw[List.take_append_of_le_length jB,List.take_of_length_le (l:=(css.take i).flatten) jB]at e3;exact e3.symm
  have hold:bY w (css.take i).flatten (cur.toList.take (i*sz)):=by
   rw[VK];refine⟨by simp only[List.length_take,Array.length_toList];omega,fun x a v ha hv=>?_⟩;rw[List.getElem?_take]at ha hv;split at ha
   ·rename_i h;rw[if_pos h]at hv;exact V4 x a v ha (by simpa using hv)
   ·cases ha
  have T7:=hold.append Ud;rw[<-List.flatten_append]at T7;have Yy:∀q,w.nm j q=none:=fun q=>by
   cases e:w.nm j q with
   |none=>rfl
   |some z=>obtain⟨r,h1,_⟩:=hw.df j q z e;rw[hj]at h1;cases h1
  obtain⟨w',e1,g1,g2,g3⟩:=td (i:=j) (e:=e) (cap:=grownCap w.toWorld (i+k) L e) (css:=css.take i++List.replicate k (zs.map AV.raw)) (rest:=Builtin.zeroCells z.cells (grownCap w.toWorld (i+k) L e-(i+k))) hw h0 T6 T7 (by rw[Tz];exact VJ) (by rw[Tz];simp[Builtin.zeroCells,Xl]) (Yy _) (fun r hr=>by rw[hj]at hr;cases hr);rw[Tz]at g3;refine⟨w',_,_,_,?_,hk,g1,g3,g2⟩;rw[e1];have WA:(Builtin.firstCells inf.size i (.slice (some ⟨b,0,none⟩) i L)).run P w.drew=.ok (cur.toList.take (i*sz)).toArray w.drew:=by
   refine run_firstCells_some (P:=P) w.drew inf.size i ⟨b,0,none⟩ i L _ (by rw[Ub];simp only[List.length_take,Array.length_toList];omega) (fun x v h=>?_);rw[List.getElem?_take]at h;split at h
   ·rw[jf,sT (w:=w.drew) b _ cur e (0,0) hh,Nat.zero_add];simpa using h
   ·cases h
  have Xq:IntKind.i64.wrap (k:Int)=k:=sH jB;have Vm:¬(281474976710656<(k:Int)*inf.bytes):=by have:k*inf.bytes<=(i+k)*inf.bytes:=Nat.mul_le_mul_right _ jB;have h2:((k*inf.bytes:Nat):Int)<=140737488355328:=jB;rw[Int.natCast_mul]at h2;omega
  have UB:¬(i+k<=L):=jB;have VM:¬(9223372036854775807<(i:Int)+(k:Int)):=jB;have WB:¬((k:Int)<0):=jB;have ZS:=growslice_fits (bytes:=inf.bytes) (old:=L) (show L<i+k from jB) VT;have VG:¬(281474976710656<Builtin.nextslicecap (i+k) L*inf.bytes):=jB;have hkz:¬(k*inf.size=0):=by rw[Ub];exact Nat.ne_of_gt (Nat.mul_pos jB h0)
  simp[Builtin.append_,run_underlying hu,run_underlying Ya,sizeOf,typeInfo,zeroValue,Vt,VP,asInt,asIntOf,Xq,Vm,VG,UB,VM,WB,hkz,Question.forced,WA,newRow,grownCap];have:Builtin.zeroCells z.cells k=(List.replicate k zs).flatten.toArray:=by apply Array.ext';rw[Er,WJ]
  rw[this];congr 2
  apply Array.ext';simp
def DS{e:TJ}(hd:H.get d=some (.aG e sz css))(hm:m=css.length)(ht:ik P t=some e)(Vg:cZ P e=some sz)(W5:dN P e=some zs)(VX:zs.length=sz)(h0:0<sz)(Uv:cI (zs.map .raw)=true)(Yw:o+n<=m)
  (hk:K (.raw (.tuple #[])) (H.put d (.aG e sz (du css o (List.replicate n (zs.map .raw)))))):pU P .clear [t] [.rv d m sz o n] H K:=by
 subst hm;have hu:=tq ht;intro w vs ty cs hw hr;obtain⟨vd,rfl⟩:∃vd,vs=[vd]:=by
  have:=hr.1;match vs,this with
  |[vd],_=>exact⟨vd,rfl⟩
 obtain⟨i,z,hi,Ub,VP,Xl,Xy⟩:=tY Vg W5 VX;have WJ:z.cells.toList=zs:=by unfold dN at W5;rw[hi]at W5;simp only[Option.bind_some,VP,Option.map_some,Option.some.injEq]at W5;exact W5
 have VI:ax w (.rv d css.length sz o n) vd:=hr.2 0 _ vd rfl rfl;have hok:=(hw.rows d _ hd).1;by_cases Xp:n=0
 ·subst Xp;have WK:du css o (List.replicate 0 (zs.map AV.raw))=css:=by simp[du]
  rw[WK]at hk;have Xw:aJ w (H.put d (.aG e sz css)):={ hw with rows:=fun j r hj=>?_,df:=fun j q z hz=>?_ };rotate_left
  ·rw[Hp.bj]at hj;split at hj
   ·rename_i e;subst e;exact hw.rows j r (by rw[hd];exact hj)
   ·exact hw.rows j r hj
  ·rw[Hp.bj];split
   ·rename_i e;subst e;obtain⟨r,g1,g2⟩:=hw.df j q z hz;rw[hd]at g1;cases g1;exact⟨_,rfl,g2⟩
   ·exact hw.df j q z hz
  have hv:∃A c,vd=.slice A 0 c:=by
   generalize hq:(0:Nat)=q at VI;cases VI with
   |jb _ _ _ _ c A=>exact⟨A,c,rfl⟩
   |rv _ _ _ _ _ b t' cap TV T3=>subst hq;exact⟨_,_,rfl⟩
  obtain⟨A,c,rfl⟩:=hv;refine⟨w,_,_,.tuple #[],?_,hk,Xw,.raw _,{ Ext.refl w H with base:=rfl }⟩;cases A<;>simp[builtin,Builtin.clear_,run_underlying hu]
 generalize ZO:n=n' at VI;cases VI with
 |jb _ _ _ _ _ A=>omega
 |rv _ _ _ _ _ b t' cap TV T3=>
  subst ZO;obtain⟨_,z',Um,T2⟩:=hw.rows d _ hd;have:z'=.at b t' sz:=by have Um:w.nm d css.length=some z':=Um;rw[TV]at Um;cases Um;rfl
  subst this;obtain⟨_,cur,hh,⟨UD,Tx⟩,V4⟩:=T2;have Tx:css.flatten.length<=t':=Tx;have VC:=gl hok.2;have T8:bY w (List.replicate n (zs.map AV.raw)).flatten (List.replicate n zs).flatten:=by
   have:(List.replicate n (zs.map AV.raw)).flatten=((List.replicate n zs).flatten).map .raw:=by simp[List.map_flatten]
   rw[this];exact zn _
  have hyl:∀c∈List.replicate n (zs.map AV.raw),c.length=sz:=fun c hc=>by rw[List.eq_of_mem_replicate hc];simpa using VX
  have Zr:(List.replicate n (zs.map AV.raw)).length=n:=List.length_replicate;have UU:(List.replicate n (zs.map AV.raw)).flatten.length=n*sz:=by rw[gl hyl,Zr]
  have T6:∀cs∈du css o (List.replicate n (zs.map AV.raw)),cs.length=sz:=fun cs h=>by
   unfold du at h;rcases List.mem_append.1 h with h|h
   ·rcases List.mem_append.1 h with h|h
    ·exact hok.2 _ (List.mem_of_mem_take h)
    ·exact hyl cs h
   ·exact hok.2 _ (List.mem_of_mem_drop h)
  have Tz:(du css o (List.replicate n (zs.map AV.raw))).length=css.length:=by rw[tz _ jB,Zr,Nat.max_eq_left jB]
  have hmul:(o+n)*sz<=css.length*sz:=Nat.mul_le_mul_right _ jB;rw[Nat.add_mul]at hmul;obtain⟨w',B',g1,g2,g3⟩:=sG (P:=P) (off:=o*sz) (r':=.aG e sz (du css o (List.replicate n (zs.map AV.raw)))) hw hd TV T8 (by simp only[cI,List.all_eq_true]at Uv ⊢;intro u W6;obtain⟨y,hy,XX⟩:=List.mem_flatten.1 W6;rw[List.eq_of_mem_replicate hy]at XX;exact Uv u XX) (by rw[UU];omega) rfl rfl rfl rfl (by show css.length<=(du css o _).length;rw[Tz];exact Nat.le_refl _) ⟨h0,T6⟩ (by show(du css o _).flatten.length<=t';rw[gl T6,Tz];omega) (fun p u hp=>AJ hok.2 hyl (by rw[Zr];omega) hp)
  refine⟨w',_,_,.tuple #[],?_,hk,g1,.raw _,g2⟩;obtain⟨k,rfl⟩:∃k,n=k+1:=⟨n-1,jB⟩;simp[builtin,Builtin.clear_,run_underlying hu,zeroValue,typeInfo,hi,VP,Er,WJ,B']
def gf(sz k:Nat):TC:=List.replicate k (List.replicate sz AV.any)
def zM{k:Nat}:(gf sz k).length=k:=List.length_replicate
def Gg{w':NW}(e:w'.toWorld=w.toWorld)(hO:∀b,w'.O b=w.O b){q:TN}(hn:∀i m z,q i=true->w.nm i m=some z->w'.nm i m=some z):Keep q w w':=
 ⟨by rw[e];exact Nat.le_refl _,fun b _ h=>⟨by rw[e],by rw[hO];exact h⟩,hn⟩
def gq.sn{w':NW}{z:Rz}{q:TN}(h:gq w r z)(e:w'.toWorld=w.toWorld)(k:Keep q w w')(hq:aX q r.cells=true):gq w' r z:=by
 cases z with
 |nil=>exact h
 |«at» b t s=> obtain⟨h1,cur,h2,h3,h5⟩:=h;exact⟨h1,cur,by rw[e];exact h2,h3,fun i a v ha hv=>(h5 i a v ha hv).aZ k (lm hq ha)⟩
theorem EQ{r s:Row}{i:Nat}:∀{l:TD},aA l i=some s->ids (bh l i r)=ids l
 |[],h=>by cases h
 |(j,t)::l,h=>by
  simp only[aA]at h;simp only[bh];split
  ·rename_i e;subst e;rfl
  ·rename_i e;rw[if_neg e]at h;have:=EQ (r:=r) h;simp only[ids,List.map_cons]at this ⊢;rw[this]
variable{X:TC}{rest:TE}
def ab.sD{e:TJ}{N q:Nat}(hn:0<css.length)(hl:aA l i=some (.aG e sz css))(Xo:n=css.length)(hq:∀k r,aA l k=some r->k≠i->aX (fun j=>(ids l).contains j && !(j == i)) r.cells=true)(hX:X.length=N)(hnN:n<=N)(Y2:aX (fun j=>(ids l).contains j && !(j == i)) X.flatten=true)(Y3:∀x∈X,x.length=sz)
  (h:∀c,n<=c->ab P f (.rc i c sz n::rest) (bh l i (.aG e sz (css++gf sz (c-n)))) fun r l'=>(N<=c/\r=.rc i c sz q/\l'=bh l i (.aG e sz (X++gf sz (c-N))))\/((n<N/\0<q)/\c=n/\∃j,aA l j=none/\r=.rs j N sz q/\l'=l++[(j,.aG e sz X)])) :
  ab P f (.rs i n sz n::rest) l fun r l'=>r=.rs i N sz q/\l'=bh l i (.aG e sz X):=fun w vs hw hv=>by
 obtain⟨v0,vr,rfl⟩:∃v0 vr,vs=(v0::vr).toArray:=by
  have:=hv.1;obtain⟨vl⟩:=vs;match vl,this with
  |v0::vr,_=>exact⟨v0,vr,rfl⟩
 have h0:ax w (.rs i n sz n) v0:=hv.2 0 _ v0 rfl rfl;have T2:=hw.rows i _ hl;obtain⟨⟨U',T7⟩,z,hz,hrw⟩:=T2;have hz:w.nm i css.length=some z:=hz;rw[<-Xo]at hz;generalize hn':n=n' at h0;cases h0 with
 |iE _ _ _ A TV=>omega
 |rs _ _ _ _ b t c TV Vb T3 _=>
  subst hn';have:z=.at b t sz:=by rw[TV]at hz;cases hz;rfl
  subst this;obtain⟨_,cur,hh,⟨UD,Tx⟩,V4⟩:=hrw;have Tx:css.flatten.length<=t:=Tx;have V4:∀(x:Nat) a v,css.flatten[x]?=some a->cur[x]?=some v->ax w a v:=V4
  -- the names, with one more
  let w1:NW:={ w with nm:=fun k m=>if k=i/\m=c then some (.at b t sz)else w.nm k m }
  have Ue:∀k m z,w.nm k m=some z->w1.nm k m=some z:=fun k m z Uv=>by
   show(if k=i/\m=c then _ else _)=_;by_cases hc:k=i/\m=c
   ·rw[if_pos hc];rw[hc.1,hc.2]at Uv;obtain⟨r,g1,g2⟩:=hw.df _ _ _ Uv;have g1:aA l i=some r:=g1;rw[hl]at g1;cases g1;have g2:c<=css.length:=g2;have e2:c=n:=jB;rw[e2,TV]at Uv;exact Uv
   ·rw[if_neg hc];exact Uv
  have Vm:∀{k m b' t' s'},w1.nm k m=some (.at b' t' s')->w.nm k m=some (.at b' t' s')\/(k=i/\m=c/\b'=b/\t'=t/\s'=sz):=fun{k m b' t' s'} h=>by
   have h:(if k=i/\m=c then some (.at b t sz)else w.nm k m)=some (.at b' t' s'):=h;split at h
   ·rename_i hc;cases h;exact .inr ⟨hc.1,hc.2,rfl,rfl,rfl⟩
   ·exact .inl h
  have K1:Keep rM w w1:=Gg (w:=w) (w':=w1) rfl (fun _=>rfl) fun k m z _ Uv=>Ue k m z Uv
  have XH:(css++gf sz (c-n)).length=c:=by rw[List.length_append,zM];omega
  have hfl1:(css++gf sz (c-n)).flatten.length=c*sz:=by
   rw[gl (sz:=sz),XH];intro x hx;rcases List.mem_append.1 hx with hx|hx
   ·exact T7 x hx
   ·rw[List.eq_of_mem_replicate hx];simp
  have Y4:ids (bh l i (.aG e sz (css++gf sz (c-n))))=ids l:=EQ hl;have W1:aJ w1 (entry (bh l i (.aG e sz (css++gf sz (c-n))))):={
   bX:=hw.bX
   rows:=fun k r hk=>by
    have hk:aA (bh l i (.aG e sz (css++gf sz (c-n)))) k=some r:=hk;rw[bO]at hk;by_cases e1:k=i
    ·rw[if_pos e1]at hk;have hk:=Option.some.inj hk;subst hk;subst e1;refine⟨⟨U',fun x hx=>?_⟩,.at b t sz,?_,rfl,cur,hh,⟨UD,by show(css++gf sz (c-n)).flatten.length<=t;omega⟩,fun x a v ha hv=>?_⟩
     ·rcases List.mem_append.1 hx with hx|hx
      ·exact T7 x hx
      ·rw[List.eq_of_mem_replicate hx];simp
     ·show(if _ then _ else _)=_;rw[if_pos ⟨rfl,XH⟩]
     ·have ha:(css++gf sz (c-n)).flatten[x]?=some a:=ha;rw[List.flatten_append]at ha;rcases Nat.lt_or_ge x css.flatten.length with hx|hx
      ·rw[List.getElem?_append_left hx]at ha;exact(V4 x a v ha hv).aZ K1 (ny a)
      ·rw[List.getElem?_append_right hx]at ha;have:a=.any:=by
        have:=List.mem_of_getElem? ha;obtain⟨y,hy,hay⟩:=List.mem_flatten.1 this;rw[List.eq_of_mem_replicate hy]at hay;exact List.eq_of_mem_replicate hay
       subst this;exact .any v
    ·rw[if_neg e1]at hk;obtain⟨g1,z,g2,g3⟩:=hw.rows k r hk;refine⟨g1,z,Ue _ _ _ g2,?_⟩;exact g3.sn rfl K1 (uS _)
   df:=fun k m z hk=>by
    have hk:(if k=i/\m=c then some (.at b t sz)else w.nm k m)=some z:=hk;show∃r,aA (bh l i _) k=some r/\m<=r.fN;rw[bO];split at hk
    ·rename_i hc;rw[if_pos hc.1];exact⟨_,rfl,by show m<=(css++gf sz (c-n)).length;rw[XH,hc.2];exact Nat.le_refl _⟩
    ·obtain⟨r,g1,g2⟩:=hw.df k m z hk;split
     ·rename_i e1;subst e1;have g1:aA l k=some r:=g1;rw[hl]at g1;cases g1;have g2:m<=css.length:=g2;exact⟨_,rfl,by show m<=(css++gf sz (c-n)).length;omega⟩
     ·exact⟨r,g1,g2⟩
   inj:=fun k m j q b' t1 s1 t2 s2 h1 h2=>by
    rcases Vm h1 with h1|⟨a1,_,a2,_,_⟩<;>rcases Vm h2 with h2|⟨c1,_,c2,_,_⟩
    ·exact hw.inj _ _ _ _ _ _ _ _ _ h1 h2
    ·rw[c1];exact hw.inj _ _ _ _ _ _ _ _ _ h1 (c2 ▸ TV)
    ·rw[a1];exact hw.inj _ _ _ _ _ _ _ _ _ (a2 ▸ TV) h2
    ·rw[a1,c1]
   own:=fun k m b' t1 s1 h1=>by
    rcases Vm h1 with h1|⟨_,_,a2,_,_⟩
    ·exact hw.own _ _ _ _ _ h1
    ·rw[a2];exact hw.own _ _ _ _ _ TV
   fin:=hw.fin }
  have V1:bs w1 (.rc i c sz n::rest) (.slice (some ⟨b,0,none⟩) n c::vr).toArray:=by
   refine⟨hv.1,fun k a v ha T'=>?_⟩;cases k with
   |zero=> cases ha;cases T';exact .rc i c sz n b t (by show(if _ then _ else _)=_;rw[if_pos ⟨rfl,rfl⟩]) Vb T3 U'
   |succ k=>exact(hv.2 (k+1) a v ha T').aZ K1 (ny a)
  refine((h c jB) w1 _ W1 V1).mono ?_;rintro ex W ⟨v,r,H2,w2,rfl,rfl,hR,g1,g2,g3⟩;have hB:H2.B=ids l:=g3.base.trans Y4;have hN2:∀k m z,(ids l).contains k=true->w.nm k m=some z->w2.nm k m=some z:=fun k m z hk hz=>g3.names k m z (by show(ids (bh l i _)).contains k=true;rw[Y4];exact hk) (Ue k m z hz)
  have hiL:(ids l).contains i=true:=rX hl;have T5:∀b',b'<w.heap.size->w.O b'->(∀k m t s,w.nm k m≠some (.at b' t s))->w2.heap[b']?=w.heap[b']?/\w2.O b'/\∀k m t s,w2.nm k m≠some (.at b' t s):=fun b' h1 h2 h3=>g3.rest b' h1 h2 fun k m t1 s1 h4=>by
   rcases Vm h4 with h4|⟨_,_,a2,_,_⟩
   ·exact h3 _ _ _ _ h4
   ·exact h3 _ _ _ _ (a2 ▸ TV)
  have Y5:∀m z,w.nm i m=some z->m<=n:=fun m z hz=>by obtain⟨r,q1,q2⟩:=hw.df _ _ _ hz;have q1:aA l i=some r:=q1;rw[hl]at q1;cases q1;have q2:m<=css.length:=q2;omega
  have fin:∀(jj cc b3 t3 c3:Nat) (sp:TC),(jj=i\/aA l jj=none)->aA H2.l jj=some (.aG e sz (X++sp))->w2.nm jj (X++sp).length=some (.at b3 t3 sz)->(N=n->b3=b/\t3=t)->c3*sz=t3->q<=c3->v=.slice (some ⟨b3,0,none⟩) q c3->(∀k,k≠i->k≠jj->aA H2.l k=aA l k)->
    ∃v' r' H' w',w2.toWorld=NW.toWorld w'/\Ending.returned v=.returned v'/\(r'=.rs i N sz q/\Hp.l H'=bh l i (.aG e sz X))/\aJ w' H'/\ax w' r' v'/\fO w (entry l) w' H':=fun jj _ b3 t3 c3 sp hjj hg WB Yb hc3 har ev ZT=>by
   have Yy:∀k,(ids l).contains k=true->k≠i->k≠jj:=fun k hk Vl e1=>by
    rcases hjj with e2|e2
    ·exact Vl (e1.trans e2)
    ·obtain⟨r,hr⟩:=yv hk;rw[e1,e2]at hr;cases hr
   let w3:NW:={ w2 with nm:=fun k m=>if k=i then(if m=N then some (.at b3 t3 sz)else if m<=n then w.nm i m else none)else if k=jj then none else w2.nm k m }
   have n1:∀{m},m<=n->w.nm i m≠none->w3.nm i m=w.nm i m:=fun{m} hm UK=>by
    show(if i=i then(if m=N then _ else if m<=n then _ else _)else _)=_;rw[if_pos rfl];by_cases e1:m=N
    ·have e2:N=n:=jB;obtain⟨rfl,rfl⟩:=Yb e2;rw[if_pos e1,e1,e2,TV]
    ·rw[if_neg e1,if_pos hm]
   have n2:w3.nm i N=some (.at b3 t3 sz):=by show(if i=i then(if N=N then _ else _)else _)=_;rw[if_pos rfl,if_pos rfl]
   have n3:∀{k m},k≠i->k≠jj->w3.nm k m=w2.nm k m:=fun{k m} h1 h2=>by show(if k=i then _ else if k=jj then _ else _)=_;rw[if_neg h1,if_neg h2]
   have n4:∀{k m z},w3.nm k m=some z->(k≠i/\k≠jj/\w2.nm k m=some z)\/(k=i/\m<=n/\w.nm i m=some z)\/(k=i/\m=N/\z=.at b3 t3 sz):=fun{k m z} Uv=>by
    have Uv:(if k=i then(if m=N then some (.at b3 t3 sz)else if m<=n then w.nm i m else none)else if k=jj then none else w2.nm k m)=some z:=Uv;by_cases e1:k=i
    ·rw[if_pos e1]at Uv;by_cases e3:m=N
     ·rw[if_pos e3]at Uv;cases Uv;exact .inr (.inr ⟨e1,e3,rfl⟩)
     ·rw[if_neg e3]at Uv;by_cases e2:m<=n
      ·rw[if_pos e2]at Uv;exact .inr (.inl ⟨e1,e2,Uv⟩)
      ·rw[if_neg e2]at Uv;cases Uv
    ·rw[if_neg e1]at Uv;by_cases e2:k=jj
     ·rw[if_pos e2]at Uv;cases Uv
     ·rw[if_neg e2]at Uv;exact .inl ⟨e1,e2,Uv⟩
   have n5:∀{m z},w.nm i m=some z->w2.nm i m=some z:=fun{m z} Uv=>hN2 i m z hiL Uv
   have K3:Keep (fun j=>(ids l).contains j && !(j == i)) w2 w3:=Gg (w:=w2) (w':=w3) rfl (fun _=>rfl) fun k m z hk Uv=>by simp at hk;rw[n3 hk.2 (Yy k (by simpa using hk.1) hk.2)];exact Uv
   obtain⟨_,z4,Zs,hau⟩:=g1.rows jj _ hg;have:z4=.at b3 t3 sz:=by have Zs:w2.nm jj (X++sp).length=some z4:=Zs;rw[WB]at Zs;cases Zs;rfl
   subst this;obtain⟨_,cur4,hh4,⟨hav,Y6⟩,Y7⟩:=hau;have Y6:(X++sp).flatten.length<=t3:=Y6;have Y7:∀(x:Nat) a v,(X++sp).flatten[x]?=some a->cur4[x]?=some v->ax w2 a v:=Y7;refine⟨v,_,⟨ids l,bh l i (.aG e sz X)⟩,w3,rfl,rfl,⟨rfl,rfl⟩,?_,?_,?_⟩
   ·exact{
     bX:=g1.bX
     rows:=fun k r hk=>by
      have hk:aA (bh l i (.aG e sz X)) k=some r:=hk;rw[bO]at hk;by_cases e1:k=i
      ·rw[if_pos e1]at hk;have hk:=Option.some.inj hk;subst hk;subst e1;refine⟨⟨U',Y3⟩,.at b3 t3 sz,?_,rfl,cur4,hh4,⟨hav,?_⟩,fun x a v ha hv=>?_⟩
       ·show w3.nm k X.length=_;rw[hX];exact n2
       ·show X.flatten.length<=t3;rw[List.flatten_append,List.length_append]at Y6;omega
       ·have ha:X.flatten[x]?=some a:=ha;have O':=(List.getElem?_eq_some_iff.1 ha).1;refine(Y7 x a v ?_ hv).aZ K3 (lm Y2 ha);rw[List.flatten_append,List.getElem?_append_left O'];exact ha
      ·rw[if_neg e1]at hk;have hj:=Yy k (rX hk) e1;obtain⟨q1,z,q2,q3⟩:=g1.rows k r (by show aA H2.l k=_;rw[ZT k e1 hj];exact hk);exact⟨q1,z,by rw[n3 e1 hj];exact q2,q3.sn rfl K3 (hq k r hk e1)⟩
     df:=fun k m z Uv=>by
      show∃r,aA (bh l i _) k=some r/\m<=r.fN;rw[bO];rcases n4 Uv with⟨e1,e2,Uv⟩|⟨e1,e2,_⟩|⟨e1,e2,_⟩
      ·rw[if_neg e1];obtain⟨r,q1,q2⟩:=g1.df k m z Uv;have q1:aA H2.l k=some r:=q1;rw[ZT k e1 e2]at q1;exact⟨r,q1,q2⟩
      ·rw[if_pos e1];exact⟨_,rfl,by show m<=X.length;omega⟩
      ·rw[if_pos e1];exact⟨_,rfl,by show m<=X.length;omega⟩
     inj:=fun k m k' m' b' t1 s1 t2 s2 h1 h2=>by
      rcases n4 h1 with⟨a1,a2,h1⟩|⟨a1,a2,h1⟩|⟨a1,a2,h1⟩<;>rcases n4 h2 with⟨c1,c2,h2⟩|⟨c1,c2,h2⟩|⟨c1,c2,h2⟩
      ·exact g1.inj _ _ _ _ _ _ _ _ _ h1 h2
      ·rw[c1];exact g1.inj _ _ _ _ _ _ _ _ _ h1 (n5 h2)
      ·cases h2;exact(a2 (g1.inj _ _ _ _ _ _ _ _ _ h1 WB)).elim
      ·rw[a1];exact g1.inj _ _ _ _ _ _ _ _ _ (n5 h1) h2
      ·rw[a1,c1]
      ·rw[a1,c1]
      ·cases h1;exact(c2 (g1.inj _ _ _ _ _ _ _ _ _ h2 WB)).elim
      ·rw[a1,c1]
      ·rw[a1,c1]
     own:=fun k m b' t1 s1 h1=>by
      rcases n4 h1 with⟨a1,a2,h1⟩|⟨a1,a2,h1⟩|⟨a1,a2,h1⟩
      ·exact g1.own _ _ _ _ _ h1
      ·exact g1.own _ _ _ _ _ (n5 h1)
      ·cases h1;exact g1.own _ _ _ _ _ WB
     fin:=g1.fin }
   ·rw[ev];exact .rs i N sz q b3 t3 c3 n2 hc3 har U'
   ·exact{
     size:=g3.size
     free:=g3.free
     names:=fun k m z hk Uv=>by
      have hk:(ids l).contains k=true:=hk;by_cases e1:k=i
      ·subst e1;rw[n1 (Y5 m z Uv) (by rw[Uv];exact Option.some_ne_none _)];exact Uv
      ·rw[n3 e1 (Yy k hk e1)];exact hN2 k m z hk Uv
     os:=g3.os,tape:=g3.tape,output:=g3.output
     rest:=fun b' h1 h2 h3=>by
      obtain⟨q1,q2,q3⟩:=T5 b' h1 h2 h3;refine⟨q1,q2,fun k m t1 s1 h4=>?_⟩;rcases n4 h4 with⟨a1,a2,h4⟩|⟨a1,a2,h4⟩|⟨a1,a2,h4⟩
      ·exact q3 _ _ _ _ h4
      ·exact h3 _ _ _ _ h4
      ·cases h4;exact q3 _ _ _ _ WB
     base:=rfl }
  rcases hR with⟨hc,rfl,Tz⟩|⟨⟨O',hq0⟩,hc,j,hj,rfl,Tz⟩
  ·generalize WH:c=c' at g2;cases g2 with
   |rc _ _ _ _ b3 t3 q1 q2 q3 q4=>
    subst WH;have hlX:(X++gf sz (c-N)).length=c:=by rw[List.length_append,zM];omega
    have Yb:b3=b/\t3=t:=by have h9:w2.nm i c=some (.at b t sz):=g3.names i c _ (by show(ids (bh l i _)).contains i=true;rw[Y4];exact hiL) (by show(if i=i/\c=c then _ else _)=_;rw[if_pos ⟨rfl,rfl⟩]);rw[q1]at h9;cases h9;exact⟨rfl,rfl⟩
    refine fin i c b3 t3 c (gf sz (c-N)) (.inl rfl) ?_ (by rw[hlX];exact q1) (fun _=>Yb) q2 q3 rfl fun k h1 _=>?_
    ·rw[Tz,bO,if_pos rfl]
    ·rw[Tz,bO,if_neg h1]
  ·have Vz:j≠i:=fun e1=>by rw[e1,hl]at hj;cases hj
   have lget_app2:∀(l m:TD) (i:Nat),aA (l++m) i=(aA l i).or (aA m i):=fun l m i=>by
    induction l with
    |nil=>rfl
    |cons x l ih=>
     obtain⟨k,r⟩:=x;simp only[List.cons_append,aA];split
     ·rfl
     ·exact ih
   have hga:∀k,aA (l++[(j,Row.aG e sz X)]) k=(aA l k).or (if k=j then some (.aG e sz X)else none):=fun k=>by rw[lget_app2];rfl
   generalize haw:N=n1 at g2;cases g2 with
   |iE _ _ _ A q1=>omega
   |rs _ _ _ _ b3 t3 c3 q1 q2 q3 q4=>
    subst haw;refine fin j N b3 t3 c3 [] (.inr hj) ?_ (by rw[List.append_nil,hX];exact q1) (fun e9=>jB) q2 q3 rfl fun k h1 h2=>?_
    ·rw[Tz,hga,hj,if_pos rfl,List.append_nil];rfl
    ·rw[Tz,hga,if_neg h2];cases aA l k<;>rfl
def ab.room{e:TJ}(hn:0<css.length)(hl:aA l i=some (.aG e sz css))(Xo:n=css.length)(hq:∀k r,aA l k=some r->k≠i->aX (fun j=>(ids l).contains j && !(j == i)) r.cells=true)(hX:X.length=n+1)(Y2:aX (fun j=>(ids l).contains j && !(j == i)) X.flatten=true)(Y3:∀x∈X,x.length=sz)
  (h:∀c,n<=c->ab P f (.rc i c sz n::rest) (bh l i (.aG e sz (css++gf sz (c-n)))) fun r l'=>(n+1<=c/\r=.rc i c sz (n+1)/\l'=bh l i (.aG e sz (X++gf sz (c-(n+1)))))\/(c=n/\∃j,aA l j=none/\r=.rs j (n+1) sz (n+1)/\l'=l++[(j,.aG e sz X)])) :
  ab P f (.rs i n sz n::rest) l fun r l'=>r=.rs i (n+1) sz (n+1)/\l'=bh l i (.aG e sz X):=
 ab.sD (N:=n+1) (q:=n+1) hn hl Xo hq hX jB Y2 Y3 fun c hc=>(h c hc).mono fun r l' h=>h.imp id fun⟨a,b⟩=>⟨⟨jB,jB⟩,a,b⟩
def ab.wu{e:TJ}(j:Nat)(hn:0<css.length)(hl:aA l i=some (.aG e sz css))(Xo:n=css.length)(hq:∀k r,aA l k=some r->k≠i->aX (fun j=>(ids l).contains j && !(j == i)) r.cells=true)(hX:X.length=n+1)(Y2:aX (fun j=>(ids l).contains j && !(j == i)) X.flatten=true)(Y3:∀x∈X,x.length=sz)(hj:aA l j=none)
  (ha:ab P f (.rc i n sz n::rest) (bh l i (.aG e sz css)) fun r l'=>r=.rs j (n+1) sz (n+1)/\l'=l++[(j,.aG e sz X)])
  (hb:∀c,n+1<=c->ab P f (.rc i c sz n::rest) (bh l i (.aG e sz (css++gf sz (c-n)))) fun r l'=>r=.rc i c sz (n+1)/\l'=bh l i (.aG e sz (X++gf sz (c-(n+1))))) :
  ab P f (.rs i n sz n::rest) l fun r l'=>r=.rs i (n+1) sz (n+1)/\l'=bh l i (.aG e sz X):=ab.room hn hl Xo hq hX Y2 Y3 fun c hc=>by
 by_cases Xm:c=n
 ·subst Xm;rw[Nat.sub_self,show gf sz 0=[] from rfl,List.append_nil];exact ha.mono fun r l' h=>.inr ⟨rfl,j,hj,h.1,h.2⟩
 ·exact(hb c jB).mono fun r l' h=>.inl ⟨jB,h.1,h.2⟩
variable {P:TO}{H:Hp}
def PZ{e:TJ}{x:AV}{c:Prop}(hd:H.get d=some (.aG e sz css))(hm:m=css.length)(ht:ik P t=some e)(Vg:cZ P e=some sz)(W5:dN P e=some zs)(VX:zs.length=sz)(h0:0<sz)
  (V3:tQ H x=some (c,ys)) (hc:c) (hg:Good sz ys) (Ul:n+ys.length<=m) (hk:K (.rc d m sz (n+ys.length)) (H.put d (.aG e sz (du css n ys)))):qx P t t (.rc d m sz n) x H K:=by
 subst hm;intro w va vx ty hw VI YS;have hu:=tq ht;obtain⟨i,z,hi,Ub,VP,Xl,Xy⟩:=tY Vg W5 VX;obtain⟨A,cx,news,rfl,Ud,UP⟩:=yq hw YS V3 hc hg;have UU:ys.flatten.length=ys.length*sz:=gl fun y hy=>(hg y hy).1
 have Vx:news.length=ys.length*sz:=by rw[<-Ud.1,UU]
 have Vj:cI ys.flatten=true:=by simp only[cI,List.all_eq_true];intro u W6;obtain⟨y,hy,XX⟩:=List.mem_flatten.1 W6;have:=(hg y hy).2;simp only[cI,List.all_eq_true]at this;exact this u XX
 have hok:=(hw.rows d _ hd).1;have T6:∀cs∈du css n ys,cs.length=sz:=fun cs h=>by
  unfold du at h;rcases List.mem_append.1 h with h|h
  ·rcases List.mem_append.1 h with h|h
   ·exact hok.2 _ (List.mem_of_mem_take h)
   ·exact(hg cs h).1
  ·exact hok.2 _ (List.mem_of_mem_drop h)
 have Tz:(du css n ys).length=css.length:=by rw[tz ys jB,Nat.max_eq_left jB]
 have hf:(Builtin.firstCells i.size ys.length (.slice A ys.length cx)).run P w.toWorld=.ok news.toArray w.toWorld:=by
  by_cases h0:ys.length=0
  ·have:news=[]:=by have:=Vx;rw[h0,Nat.zero_mul]at this;simpa using this
   subst this;rw[h0];cases A<;>simp[Builtin.firstCells,loadCells,loadCellsFrom]
  ·obtain⟨ad,rfl,D'⟩:=UP jB;exact run_firstCells_some (P:=P) w.toWorld i.size ys.length ad ys.length cx news (by rw[Ub];exact Vx) D'
 rw[Ub]at hf;cases VI with
 |rc _ _ _ _ b t' TV Vb T3 U'=>
  obtain⟨_,z',Um,T2⟩:=hw.rows d _ hd;have:z'=.at b t' sz:=by have Um:w.nm d css.length=some z':=Um;rw[TV]at Um;cases Um;rfl
  subst this;obtain⟨_,cur,hh,⟨UD,Tx⟩,V4⟩:=T2;have U9:n*sz+ys.flatten.length<=t':=by rw[UU,<-Nat.add_mul,<-Vb];exact Nat.mul_le_mul_right _ Ul
  obtain⟨w',B',g1,g2,g3⟩:=sG (P:=P) (off:=n*sz) (r':=.aG e sz (du css n ys)) hw hd TV Ud Vj U9 rfl rfl rfl rfl (by show css.length<=(du css n ys).length;rw[Tz];exact Nat.le_refl _) ⟨h0,T6⟩ (by show(du css n ys).flatten.length<=t';rw[gl T6,Tz,Vb];exact Nat.le_refl _) (fun p u hp=>AJ hok.2 (fun c hc=>(hg c hc).1) jB hp);refine⟨w',_,_,.slice (some ⟨b,0,none⟩) (n+ys.length) css.length,?_,hk,g1,?_,g2⟩
  ·have W7:(⟨b,0,none⟩:Addr).add (n*sz)=⟨b,n*sz,none⟩:=by rw[jf];simp
   simp[Builtin.append_,run_underlying hu,sizeOf,typeInfo,hi,Builtin.lenOf,Ul,hf,Ub,W7,B']
  ·exact .rc d css.length sz _ b t' (by have g3:w'.nm d (du css n ys).length=some (.at b t' sz):=g3;rwa [Tz]at g3) Vb Ul U'
def ab.wV{e:TJ}{q:Nat}(hn:0<css.length)(hl:aA l i=some (.aG e sz css))(Xo:n=css.length)(hq:∀k r,aA l k=some r->k≠i->aX (fun j=>(ids l).contains j && !(j == i)) r.cells=true)(hX:X.length=n)(Y2:aX (fun j=>(ids l).contains j && !(j == i)) X.flatten=true)(Y3:∀x∈X,x.length=sz)
  (h:∀c,n<=c->ab P f (.rc i c sz n::rest) (bh l i (.aG e sz (css++gf sz (c-n)))) fun r l'=>r=.rc i c sz q/\l'=bh l i (.aG e sz (X++gf sz (c-n)))) :
  ab P f (.rs i n sz n::rest) l fun r l'=>r=.rs i n sz q/\l'=bh l i (.aG e sz X):=
 ab.sD (N:=n) (q:=q) hn hl Xo hq hX jl Y2 Y3 fun c hc=>(h c hc).mono fun r l' h=>.inl ⟨hc,h.1,h.2⟩
section
variable {P:TO}{H:Hp}
def yC(z:Value)(k:Nat):Builtin.zeroCells #[z] k=(List.replicate k z).toArray:=by
 apply Array.ext
 ·simp[Builtin.zeroCells]
 ·intro i h1 h2;simp[Builtin.zeroCells,Nat.mod_one]
def OI(w:NW)(z:Value):∀k,bY w (List.replicate k [AV.raw z]).flatten (List.replicate k z):=fun k=>by
 have:(List.replicate k [AV.raw z]).flatten=(List.replicate k z).map .raw:=by simp[List.flatten_replicate_singleton]
 rw[this];refine⟨jE,fun i a v ha hv=>?_⟩;rw[List.getElem?_map,hv]at ha;simp at ha;subst ha;exact .raw _
def Tm{t t' e:TJ}{d m n k:Nat}{z0:Value}{css:TC}{K:TB}(hu:P.underlying t=some (.slice e))(W6:∃d,P.underlying t'=some (.int d))(TU:cZ P e=some 1)(hz:dN P e=some [z0])(Uv:z0.oneCell'=true)
  (hd:H.get d=some (.aG e 1 css)) (hm:m=css.length) (hn:n=css.length) (UQ:room (kj P e) (css.length+k)) (hk:K (.rs d (css.length+k) 1 (css.length+k)) (H.put d (.aG e 1 (css++List.replicate k [.raw z0])))):qx P t t' (.rs d m 1 n) (.raw (.int .i64 k)) H K:=by
 subst hm hn;intro w va vx ty hw VI YS;have:=dc YS;subst this;obtain⟨dk,Ya⟩:=W6;obtain⟨i,z,hi,Ub,VP,Xl,Xy⟩:=tY TU hz rfl;obtain⟨VT,Xb⟩:=UQ;rw[Xy]at VT;have WJ:z.cells=#[z0]:=by unfold dN at hz;rw[hi]at hz;simp only[Option.bind_some,VP,Option.map_some,Option.some.injEq]at hz;rw[<-Array.toList_inj,hz]
 have VJ:∀need old,need<=grownCap w.toWorld need old e:=fun need old=>by unfold grownCap Question.cut;simp
 have ZU:∀m,(Builtin.zeroCells z.cells m).size=m*1:=fun m=>by rw[WJ,yC];simp
 have hok:=(hw.rows d _ hd).1;have T6:∀cs∈css++List.replicate k [AV.raw z0],cs.length=1:=fun cs h=>by
  rcases List.mem_append.1 h with h|h
  ·exact hok.2 cs h
  ·rw[List.eq_of_mem_replicate h];rfl
 have Ud:=OI w z0 k;have Xq:IntKind.i64.wrap (k:Int)=k:=by
  have:IntKind.i64.wrap (k:Int)=(k:Int):=by unfold IntKind.wrap;simp[IntKind.bits,IntKind.signed];omega
  exact this
 have Vm:¬(281474976710656<(k:Int)*i.bytes):=by have:k*i.bytes<=(css.length+k)*i.bytes:=Nat.mul_le_mul_right _ jB;have h2:((k*i.bytes:Nat):Int)<=140737488355328:=jB;rw[Int.natCast_mul]at h2;omega
 have WB:¬((k:Int)<0):=jB;have Tz:(css++List.replicate k [AV.raw z0]).length=css.length+k:=jE;have VC:=gl hok.2;generalize Zt:css.length=l at*;cases VI with
 |iE _ _ _ A TV=>
  obtain⟨_,z',Um,T2⟩:=hw.rows d _ hd;have:z'=.nil:=by have Um:w.nm d css.length=some z':=Um;rw[Zt,TV]at Um;cases Um;rfl
  subst this;obtain⟨e2,sz3,T2⟩:=T2;cases T2;simp only[List.length_nil]at Zt;by_cases TZ:k=0
  ·subst TZ;refine⟨w,_,_,.slice A 0 0,?_,hk,?_,.iE _ _ _ _ TV,?_⟩
   ·have Zu:IntKind.i64.wrap 0=0:=Xq;cases A<;>simp[Builtin.append_,run_underlying hu,run_underlying Ya,sizeOf,typeInfo,hi,asInt,asIntOf,Zu,storeCells]
   ·refine{ hw with rows:=fun j r hj=>?_,df:=fun j q z hz=>?_ }
    ·rw[Hp.bj]at hj;split at hj
     ·rename_i e;subst e;exact hw.rows j r (by rw[hd];exact hj)
     ·exact hw.rows j r hj
    ·rw[Hp.bj];split
     ·rename_i e;subst e;obtain⟨r,g1,g2⟩:=hw.df j q z hz;rw[hd]at g1;cases g1;exact⟨_,rfl,g2⟩
     ·exact hw.df j q z hz
   ·exact{ Ext.refl w H with base:=rfl }
  ·simp only[List.nil_append,Nat.zero_add]at hk T6 Tz VT Xb;obtain⟨w',e1,g1,g2,g3⟩:=td (i:=d) (e:=e) (cap:=grownCap w.toWorld k 0 e) (css:=List.replicate k [AV.raw z0]) (rest:=Builtin.zeroCells z.cells (grownCap w.toWorld k 0 e-k)) hw jC T6 Ud (by rw[Tz];exact VJ _ _) (by rw[Tz];exact ZU _) (hw.later hd (by show([]:TC).length<_;rw[Tz];simp;omega)) (fun r hr=>by rw[hd]at hr;cases hr;exact Nat.zero_le _);rw[Tz]at g3;refine⟨w',_,_,_,?_,by simpa using hk,g1,by simpa using g3,g2⟩;rw[e1];have UB:¬(k=0):=TZ;have VM:¬(9223372036854775807<(k:Int)):=jB;have VG:¬(281474976710656<Builtin.nextslicecap k 0*i.bytes):=by rw[nextslicecap_zero jB];omega
   cases A<;>simp[Builtin.append_,run_underlying hu,run_underlying Ya,sizeOf,typeInfo,zeroValue,hi,VP,Ub,asInt,asIntOf,Xq,Vm,VG,UB,VM,WB,Question.forced,newRow,grownCap,Builtin.firstCells,loadCells,loadCellsFrom,WJ,yC]
 |rs _ _ _ _ b t' cap TV Vb T3 U'=>
  obtain⟨_,z',Um,T2⟩:=hw.rows d _ hd;have:z'=.at b t' 1:=by have Um:w.nm d css.length=some z':=Um;rw[Zt,TV]at Um;cases Um;rfl
  subst this;obtain⟨_,cur,hh,⟨UD,Tx⟩,V4⟩:=T2;have hh:w.heap[b]?=some (.cells cur e (0,0)):=hh;have Tx:css.flatten.length<=t':=Tx;have Vj:cI (List.replicate k [AV.raw z0]).flatten=true:=by
   have:(List.replicate k [AV.raw z0]).flatten=(List.replicate k z0).map .raw:=by simp[List.flatten_replicate_singleton]
   rw[this];simp[cI,AV.one,Uv]
  have Vy:(List.replicate k [AV.raw z0]).flatten.length=k:=jE;by_cases Ul:l+k<=cap
  ·obtain⟨w',B',g1,g2,g3⟩:=sG (P:=P) (off:=l) (r':=.aG e 1 (css++List.replicate k [.raw z0])) hw hd (by show w.nm d css.length=_;rw[Zt];exact TV) Ud Vj (by rw[Vy];omega) rfl rfl rfl rfl (by show css.length<=(css++_).length;simp) ⟨jC,T6⟩ (by show(css++List.replicate k [AV.raw z0]).flatten.length<=t';rw[gl T6,Tz];omega) (fun p u hp=>by
     have hp:(css++List.replicate k [AV.raw z0]).flatten[p]?=some u:=hp;rw[List.flatten_append]at hp;show if _ then _ else css.flatten[p]?=some u
     rcases Nat.lt_or_ge p l with h|h
     ·rw[jN];rw[List.getElem?_append_left jB]at hp;exact hp
     ·rw[List.getElem?_append_right jB]at hp;have O':=(List.getElem?_eq_some_iff.1 hp).1;rw[if_pos ⟨h,jB⟩];rw[<-hp];congr 1;omega)
   refine⟨w',_,_,.slice (some ⟨b,0,none⟩) (l+k) cap,?_,hk,g1,?_,g2⟩
   ·have W7:(⟨b,0,none⟩:Addr).add l=⟨b,l,none⟩:=by rw[jf];simp
    by_cases TZ:k=0
    ·subst TZ;have Zu:IntKind.i64.wrap 0=0:=Xq;have ZV:(storeCells ⟨b,l,none⟩ []).run P w.toWorld=.ok () w'.toWorld:=B';have XE:l<=cap:=jB;simp[Builtin.append_,run_underlying hu,run_underlying Ya,sizeOf,typeInfo,hi,Ub,asInt,asIntOf,Zu,XE,W7,ZV]
    ·simp[Builtin.append_,run_underlying hu,run_underlying Ya,sizeOf,typeInfo,zeroValue,hi,VP,Ub,asInt,asIntOf,Xq,Vm,WB,Ul,TZ,W7,WJ,yC,B']
   ·have g3:w'.nm d (css++List.replicate k [AV.raw z0]).length=some (.at b t' 1):=g3;rw[Tz]at g3;exact .rs d _ 1 _ b t' cap g3 Vb Ul jC
  ·have hold:bY w css.flatten (cur.toList.take l):=by
    refine⟨by simp only[List.length_take,Array.length_toList];omega,fun j a v Yu hv=>?_⟩;rw[List.getElem?_take]at hv;split at hv
    ·exact V4 j a v Yu (by simpa using hv)
    ·cases hv
   have T7:=hold.append Ud;rw[<-List.flatten_append]at T7;obtain⟨w',e1,g1,g2,g3⟩:=td (i:=d) (e:=e) (cap:=grownCap w.toWorld (l+k) cap e) (css:=css++List.replicate k [AV.raw z0]) (rest:=Builtin.zeroCells z.cells (grownCap w.toWorld (l+k) cap e-(l+k))) hw jC T6 T7 (by rw[Tz];exact VJ _ _) (by rw[Tz];exact ZU _) (hw.later hd (by show css.length<_;rw[Tz];omega)) (fun r hr=>by rw[hd]at hr;cases hr;show css.length<=_;rw[Tz];omega);rw[Tz]at g3;refine⟨w',_,_,_,?_,hk,g1,g3,g2⟩;rw[e1];have WA:(Builtin.firstCells 1 l (.slice (some ⟨b,0,none⟩) l cap)).run P w.drew=.ok (cur.toList.take l).toArray w.drew:=by
    refine run_firstCells_some (P:=P) w.drew 1 l ⟨b,0,none⟩ l cap _ (by simp only[List.length_take,Array.length_toList];omega) (fun j v h=>?_);rw[List.getElem?_take]at h;split at h
    ·rw[jf,sT (w:=w.drew) b _ cur e (0,0) hh,Nat.zero_add];simpa using h
    ·cases h
   have UB:¬(l+k<=cap):=Ul;have VM:¬(9223372036854775807<(l:Int)+(k:Int)):=jB;have ZS:=growslice_fits (bytes:=i.bytes) (old:=cap) (show cap<l+k from jB) VT;have VG:¬(281474976710656<Builtin.nextslicecap (l+k) cap*i.bytes):=jB;have TZ:¬(k=0):=jB;simp[Builtin.append_,run_underlying hu,run_underlying Ya,sizeOf,typeInfo,zeroValue,hi,VP,Ub,asInt,asIntOf,Xq,Vm,VG,UB,VM,WB,TZ,Question.forced,WA,newRow,grownCap,WJ,yC];congr 2
   apply Array.ext';simp
end
abbrev sE:TI:=⟨#[]⟩
def vI(n:Int):aj:=⟨1,n,sE⟩
def vB(b:Bool):aj:=⟨2,if b=true then 1 else 0,sE⟩
def vT(s:TI):aj:=⟨3,0,s⟩
def vZ(t:Int):aj:=⟨t,0,sE⟩
def v0:aj:=⟨0,0,sE⟩
def lQ(v:aj):Bool:=
 if v.ty=1 then decide (v.s=sE)
 else if v.ty=2 then decide (v.s=sE) && (decide (v.n=0) || decide (v.n=1))
 else if v.ty=3 then decide (v.n=0) && decide ((v.s.size:Int)<=40)
 else if v.ty=4 then decide (v.s=sE) && decide (0<=v.n)
 else false
def uF(sign:TI)(a b:Int):aj×Int:=
 if sign=(⟨#[43]⟩:TI)then(vI (IntKind.i64.wrap (a+b)),0)
 else if sign=(⟨#[45]⟩:TI)then(vI (IntKind.i64.wrap (a-b)),0)
 else if sign=(⟨#[42]⟩:TI)then(vI (IntKind.i64.wrap (a*b)),0)
 else if sign=(⟨#[47]⟩:TI)then(if b=0 then(v0,1)else(vI (IntKind.i64.wrap (a.tdiv b)),0))
 else if sign=(⟨#[37]⟩:TI)then(if b=0 then(v0,1)else(vI (a.tmod b),0))
 else if sign=(⟨#[60]⟩:TI)then(vB (decide (a<b)),0)
 else if sign=(⟨#[60,61]⟩:TI)then(vB (decide (a<=b)),0)
 else(v0,0)
def qk(sign:TI)(a b:aj):aj×Int:=
 if a.ty≠b.ty\/a.ty<1\/4<a.ty then(v0,0)
 else if sign=(⟨#[61,61]⟩:TI)then(vB (decide (a.n=b.n) && decide (a.s=b.s)),0)
 else if sign=(⟨#[33,61]⟩:TI)then(vB (!(decide (a.n=b.n) && decide (a.s=b.s))),0)
 else if a.ty=1 then uF sign a.n b.n
 else if a.ty=2 then(if sign=(⟨#[124,124]⟩:TI)then(vB (decide (a.n=1) || decide (b.n=1)),0)else if sign=(⟨#[38,38]⟩:TI)then(vB (decide (a.n=1) && decide (b.n=1)),0)else(v0,0))
 else if a.ty=3 then(if sign=(⟨#[43]⟩:TI)then(if(a.s.size:Int)+b.s.size>40 then(v0,6)else(vT (a.s++b.s),0))else(v0,0))
 else(v0,0)
def mH(sign:TI)(a:aj):aj:=
 if sign=(⟨#[45]⟩:TI)/\a.ty=1 then vI (IntKind.i64.wrap (-a.n))
 else if sign=(⟨#[33]⟩:TI)/\a.ty=2 then vB (!decide (a.n=1))
 else v0
def j7(n:Int):Bool:=decide (48<=n) && decide (n<=57)
def wy(n:Int):Bool:=(decide (97<=n) && decide (n<=122)) || (decide (65<=n) && decide (n<=90))
def ww(s:TI):Bool:=decide ((s.size:Int)<19) || (decide ((s.size:Int)=19) && (Op.bytesLess s.toList (⟨#[57,50,50,51,51,55,50,48,51,54,56,53,52,55,55,53,56,48,55]⟩:TI).toList || decide (s=(⟨#[57,50,50,51,51,55,50,48,51,54,56,53,52,55,55,53,56,48,55]⟩:TI))))
def pg(s:TI):Nat->Int
 |0=>1
 |k+1=>if eG s k=10 then pg s k+1 else pg s k
theorem EX(s:TI):∀k,1<=pg s k/\pg s k<=k+1
 |0=>by simp[pg]
 |k+1=>by have:=EX s k;unfold pg;split<;>omega
def fU:List TI:=[(⟨#[102,110]⟩:TI),(⟨#[108,101,116]⟩:TI),(⟨#[105,102]⟩:TI),(⟨#[101,108,115,101]⟩:TI),(⟨#[119,104,105,108,101]⟩:TI),(⟨#[114,101,116,117,114,110]⟩:TI),(⟨#[112,114,105,110,116]⟩:TI),(⟨#[105,110,112,117,116]⟩:TI),(⟨#[110,101,119]⟩:TI),(⟨#[108,101,110]⟩:TI),(⟨#[116,114,117,101]⟩:TI),(⟨#[102,97,108,115,101]⟩:TI),(⟨#[105,110,116]⟩:TI),(⟨#[98,111,111,108]⟩:TI),(⟨#[116,101,120,116]⟩:TI),(⟨#[108,105,115,116]⟩:TI)]
def Om:fU.length=16:=rfl
def uW(s:TI):Bool:=fU.any fun t=>decide (t=s)
-- the first one
theorem zC{α:Type}[Inhabited α]{p:α->Bool}:∀{l:List α} {k:Nat},(∀j,j<k->p (nth l j)=false)->k<l.length->p (nth l k)=true->l.find? p=some (nth l k)
 |[],k,_,h,_=>by simp at h
 |x::l,0,_,_,hp=>by have:p x=true:=hp;rw[List.find?_cons,this];rfl
 |x::l,k+1,h,hk,hp=>by have h0:p x=false:=h 0 jB;rw[List.find?_cons,h0];exact zC (fun j hj=>h (j+1) jB) (by simpa using hk) hp
variable{α:Type}
def C3[Inhabited α]{p:α->Bool}{l:List α}(h:∀j,j<l.length->p (nth l j)=false):l.find? p=none:=by rw[List.find?_eq_none];intro x hx;obtain⟨j,hj,rfl⟩:=List.getElem_of_mem hx;have:=h j hj;rw[fP hj]at this;simp[this]
def Cg{k:Nat}(h:k<n):nth (List.range n) k=k:=by simp[nth,h]
-- bytes of which p holds
def pA(p:Int->Bool)(s:TI):Nat->Nat->Nat
 |0,i=>i
 |n+1,i=>if i<s.size/\p (eG s i)=true then pA p s n (i+1)else i
def iJ(p:Int->Bool)(s:TI)(i:Nat):Nat:=pA p s (s.size+1) i
theorem HM{p:Int->Bool}{s:TI}{k:Nat}(WR:¬(k<s.size/\p (eG s k)=true)):∀{n i:Nat},i<=k->k<n+i->(∀j,i<=j->j<k->j<s.size/\p (eG s j)=true)->pA p s n i=k
 |0,i,h1,h2,_=>by omega
 |n+1,i,h1,h2,h3=>by
  unfold pA;by_cases e:i=k
  ·subst e;rw[if_neg WR]
  ·rw[if_pos (h3 i jl jB)];exact HM WR jB jB fun j hj=>h3 j jB
variable{p:Int->Bool}{s:TI}
def y7{k:Nat}(WR:¬(k<s.size/\p (eG s k)=true))(h1:i<=k)(hk:k<=s.size)(h3:∀j,i<=j->j<k->p (eG s j)=true):iJ p s i=k:=
 HM WR h1 jB fun j hj YZ=>⟨jB,h3 j hj YZ⟩
theorem ze{p:Int->Bool}{s:TI}:∀{n i:Nat},i<=pA p s n i/\(i<=s.size->pA p s n i<=s.size)
 |0,i=>⟨Nat.le_refl _,id⟩
 |n+1,i=>by
  unfold pA;split
  ·have:=ze (p:=p) (s:=s) (n:=n) (i:=i+1);exact⟨jB,fun _=>this.2 jB⟩
  ·exact⟨Nat.le_refl _,id⟩
def we(h:i<=s.size):i<=iJ p s i/\iJ p s i<=s.size:=⟨ze.1,ze.2 h⟩
def xo(h:i<s.size)(hp:p (eG s i)=true):i<iJ p s i:=by unfold iJ;unfold pA;rw[if_pos ⟨h,hp⟩];have:=(ze (p:=p) (s:=s) (n:=s.size) (i:=i+1)).1;omega
theorem Jt{p:Int->Bool}{s:TI}:∀{n i j:Nat},i<=j->j<pA p s n i->p (eG s j)=true
 |0,i,j,h1,h2=>by unfold pA at h2;omega
 |n+1,i,j,h1,h2=>by
  unfold pA at h2;split at h2
  ·rename_i h;by_cases e:j=i
   ·subst e;exact h.2
   ·exact Jt jB h2
  ·omega
-- iW between tokens
def xP(c:Int):Bool:=decide (c=32) || decide (c=9) || decide (c=13) || decide (c=10)
def zz(s:TI)(i:Nat):Bool:=decide (eG s i=47) && decide (i+1<s.size) && decide (eG s (i+1:Nat)=47)
def tf(c:Int):Bool:=decide (c≠10)
def mh(s:TI)(i:Nat):Option Nat:=if i<s.size then(if xP (eG s i)=true then some (i+1)else if zz s i=true then some (iJ tf s i)else none)else none
def mT(s:TI):Nat->Nat->Nat
 |0,i=>i
 |n+1,i=>match mh s i with
  |some j=>mT s n j
  |none=>i
def yZ(h:mh s i=some j):i<j/\j<=s.size:=by
 unfold mh at h;split at h
 ·rename_i hi;split at h
  ·cases h;omega
  ·split at h
   ·rename_i hc;cases h;have UK:tf (eG s i)=true:=by
     simp only[zz,Bool.and_eq_true,decide_eq_true_eq]at hc;simp[tf,hc.1.1]
    exact⟨xo hi UK,(we jB).2⟩
   ·cases h
 ·cases h
theorem IU(s:TI):∀(n m i:Nat),s.size<n+i->s.size<m+i->mT s n i=mT s m i
 |0,0,i,_,_=>rfl
 |0,m+1,i,h,_=>by
  unfold mT;have:mh s i=none:=by unfold mh;rw[jN]
  rw[this]
 |n+1,0,i,_,h=>by
  unfold mT;have:mh s i=none:=by unfold mh;rw[jN]
  rw[this]
 |n+1,m+1,i,h1,h2=>by
  unfold mT;cases e:mh s i with
  |none=>rfl
  |some j=> have:=yZ e;exact IU s n m j jB jB
def ov(s:TI)(i:Nat):Nat:=mT s (s.size+1) i
def HQ(h:mh s i=some j):ov s i=ov s j:=by have:=yZ h;show mT s (s.size+1) i=mT s (s.size+1) j;rw[mT,h];exact IU s _ _ j jB jB
def Hr(h:mh s i=none):ov s i=i:=by show mT s (s.size+1) i=i;rw[mT,h]
theorem BT{s:TI}:∀{n i:Nat},i<=mT s n i/\(i<=s.size->mT s n i<=s.size)
 |0,i=>⟨Nat.le_refl _,id⟩
 |n+1,i=>by
  unfold mT;cases e:mh s i with
  |none=>exact⟨Nat.le_refl _,id⟩
  |some j=> have h1:=yZ e;have h2:=BT (s:=s) (n:=n) (i:=j);exact⟨by simp only;omega,fun _=>h2.2 h1.2⟩
def vt(h:i<=s.size):i<=ov s i/\ov s i<=s.size:=⟨BT.1,BT.2 h⟩
-- tokens
def tO(c:Int):Bool:=decide (32<=c) && decide (c<=126) && decide (c≠34)
def oO(s:TI)(a:Nat):TI×Int×Int:=
 let i:=iJ tO s (a+1)
 if i<s.size/\eG s i=34 then(if(i:Int)-a-1>12 then(⟨#[]⟩,a,4)else(s.extract (a+1) i,(i:Int)+1,0))else(⟨#[]⟩,a,11)
def jc:List TI:=[(⟨#[124,124]⟩:TI),(⟨#[38,38]⟩:TI),(⟨#[60,61]⟩:TI),(⟨#[61,61]⟩:TI),(⟨#[33,61]⟩:TI)]
def iu:TI:=(⟨#[40,41,123,125,91,93,44,59,61,60,43,45,42,47,37,33]⟩:TI)
def qa(s t:TI):Bool:=decide (2<=(s.size:Int)) && decide (s.extract 0 2=t)
def nO(s:TI):TI:=match jc.find? (qa s)with
 |some t=>t
 |none=>match (List.range 16).find? fun k:Nat=>decide (eG s 0=eG iu (k:Nat))with
  |some k=>iu.extract k (k+1)
  |none=>⟨#[]⟩
def oW(c:Int):Bool:=wy c || j7 c || decide (c=95)
def QD{b:TI}(h:b.size=0):b=⟨#[]⟩:=by obtain⟨d⟩:=b;have:d=#[]:=Array.size_eq_zero_iff.1 h;rw[this]
def u6:cz:=⟨0,⟨#[]⟩,0⟩
def ie(s:TI)(a:Nat):cz×Int×Int:=
 if j7 (eG s a)=true then
  (if ww (s.extract a (iJ j7 s a))=true then(⟨1,s.extract a (iJ j7 s a),a⟩,(iJ j7 s a:Nat),0)else(u6,a,12))
 else if wy (eG s a)=true then
  (if uW (s.extract a (iJ oW s a))=true then(⟨4,s.extract a (iJ oW s a),a⟩,(iJ oW s a:Nat),0)
  else if((s.extract a (iJ oW s a)).size:Int)>8 then(u6,a,13)else(⟨3,s.extract a (iJ oW s a),a⟩,(iJ oW s a:Nat),0))
 else if eG s a=34 then(⟨2,(oO s a).1,a⟩,(oO s a).2.1,(oO s a).2.2)
 else if nO (s.extract a s.size)=⟨#[]⟩then(u6,a,10)
 else(⟨5,nO (s.extract a s.size),a⟩,a+(nO (s.extract a s.size)).size,0)
def Qs(s:TI):(nO s).size<=2:=by
 unfold nO;cases h:jc.find? (qa s)with
 |some t=> have hm:=List.mem_of_find?_eq_some h;have:∀t∈jc,t.size<=2:=jC;exact this t hm
 |none=>
  cases h2:(List.range 16).find? fun k:Nat=>decide (eG s 0=eG iu (k:Nat))with
  |some k=> simp only;rw[ByteArray.size_extract];omega
  |none=>decide
variable{t:TI}
def Kw(h:jc.find? (qa s)=some t):t.size=2/\2<=s.size:=by have hm:=List.mem_of_find?_eq_some h;have hp:=List.find?_some h;have:∀t∈jc,t.size=2:=jC;simp only[qa,Bool.and_eq_true,decide_eq_true_eq]at hp;exact⟨this t hm,jB⟩
def MW(hs:0<s.size):(nO s).size<=s.size:=by
 unfold nO;cases h:jc.find? (qa s)with
 |some t=>have:=Kw h;simp only;omega
 |none=>
  cases h2:(List.range 16).find? fun k:Nat=>decide (eG s 0=eG iu (k:Nat))with
  |some k=> simp only;rw[ByteArray.size_extract];omega
  |none=>exact Nat.zero_le _
variable{a:Nat}
def yS(ha:a<s.size)(h:(ie s a).2.2=0):∃e:Nat,(ie s a).2.1=e/\a<e/\e<=s.size:=by
 unfold ie at h ⊢;split at h<;>rename_i h1
 ·rw[if_pos h1]at*;split at h<;>rename_i h2
  ·rw[if_pos h2];exact⟨_,rfl,xo ha h1,(we jB).2⟩
  ·cases h
 ·rw[if_neg h1]at*;split at h<;>rename_i h2
  ·rw[if_pos h2];have hw:oW (eG s a)=true:=by simp[oW,h2]
   split at h<;>rename_i h3
   ·rw[if_pos h3];exact⟨_,rfl,xo ha hw,(we jB).2⟩
   ·rw[if_neg h3];split at h<;>rename_i h4
    ·cases h
    ·rw[if_neg h4];exact⟨_,rfl,xo ha hw,(we jB).2⟩
  ·rw[if_neg h2];split at h<;>rename_i h3
   ·rw[if_pos h3];have hb:=we (p:=tO) (s:=s) (i:=a+1) jB;simp only[oO]at h ⊢;split at h<;>rename_i h4
    ·rw[if_pos h4];split at h<;>rename_i h5
     ·cases h
     ·rw[if_neg h5];exact⟨iJ tO s (a+1)+1,jE,jB,jB⟩
    ·cases h
   ·rw[if_neg h3];split at h<;>rename_i h4
    ·cases h
    ·rw[if_neg h4];have TU:(s.extract a s.size).size=s.size-a:=by rw[ByteArray.size_extract];omega
     have T3:=MW (s:=s.extract a s.size) jB;have U2:0<(nO (s.extract a s.size)).size:=by
      rcases Nat.eq_zero_or_pos (nO (s.extract a s.size)).size with e|e
      ·exact(h4 (QD e)).elim
      ·exact e
     exact⟨a+(nO (s.extract a s.size)).size,jE,jB,jB⟩
def lK(s:TI):Nat->Nat->List cz->List cz×Int×Int
 |0,_,out=>(out,0,0)
 |n+1,i,out=>if i<s.size then
   (if(ie s i).2.2=0 then lK s n (ov s (ie s i).2.1.toNat) (out++[(ie s i).1])else([],((i:Nat):Int),(ie s i).2.2))
  else(out++[⟨0,⟨#[]⟩,s.size⟩],0,0)
theorem IZ(s:TI):∀(n m i:Nat) (out:List cz),s.size<n+i->s.size<m+i->i<=s.size->lK s n i out=lK s m i out
 |0,_,i,_,h,_,h3=>by omega
 |_,0,i,_,_,h,h3=>jB
 |n+1,m+1,i,out,h1,h2,h3=>by
  unfold lK;split
  ·rename_i hi;split
   ·rename_i he;obtain⟨e,h4,h5,h6⟩:=yS hi he;rw[h4,Int.toNat_natCast];have:=vt (s:=s) (i:=e) h6;exact IZ s n m _ _ jB jB this.2
   ·rfl
  ·rfl
def u7(s:TI)(i:Nat)(out:List cz):List cz×Int×Int:=lK s (s.size+1) i out
variable{out:List cz}
def P7(hi:i<s.size)(he:(ie s i).2.2=0):u7 s i out=u7 s (ov s (ie s i).2.1.toNat) (out++[(ie s i).1]):=by show lK s (s.size+1) i out=lK s (s.size+1) _ _;rw[lK,if_pos hi,if_pos he];obtain⟨e,h4,h5,h6⟩:=yS hi he;rw[h4,Int.toNat_natCast];have:=vt (s:=s) (i:=e) h6;exact IZ s _ _ _ _ jB jB this.2
def L5(hi:i<s.size)(he:(ie s i).2.2≠0):u7 s i out=([],((i:Nat):Int),(ie s i).2.2):=by show lK s (s.size+1) i out=_;rw[lK,if_pos hi,if_neg he]
def Ml(hi:¬i<s.size):u7 s i out=(out++[⟨0,⟨#[]⟩,s.size⟩],0,0):=by show lK s (s.size+1) i out=_;rw[lK,if_neg hi]
def kR(s:TI):List cz×Int×Int:=if(s.size:Int)>600 then([],0,4)else u7 s (ov s 0) []
structure Rd where
 src:ByteArray
 l:List cz
 i:Int
 nodes:List br
 deep:Int
 e:Int
 at_:Int
 deriving Inhabited
namespace Rd
def tok(r:Rd):cz:=nth r.l r.i.toNat
def aE(r:Rd)(e:Int):Rd:=if r.e=0 then{ r with e:=e,at_:=r.tok.at_ }else r
def is(r:Rd)(t:TI):Bool:=decide (r.e=0) && (decide (r.tok.kind=5) || decide (r.tok.kind=4)) && decide (r.tok.text=t)
def kind(r:Rd)(k:Int):Bool:=decide (r.e=0) && decide (r.tok.kind=k)
def inc(r:Rd):Rd:={ r with i:=r.i+1 }
def av(r:Rd)(t:TI):Rd:=if r.is t=true then r.inc else r.aE 20
def name(r:Rd):Rd×TI:=if r.kind 3=true then(r.inc,r.tok.text)else(r.aE 20,⟨#[]⟩)
def cM(r:Rd):Int:=pg r.src (min r.src.size r.tok.at_.toNat)
def node(r:Rd)(n:br):Rd:={ r with nodes:=r.nodes++[n] }
def put(r:Rd)(k ln n:Int)(nm:TI)(L:TG):Rd×Int:=(r.node ⟨k,ln,n,nm,L⟩,r.nodes.length)
def down(r:Rd):Rd:={ (if 16<=r.deep then r.aE 21 else r)with deep:=r.deep+1 }
def up(r:Rd):Rd:={ r with deep:=r.deep-1 }
end Rd
def mZ(level:Int):List TI:=
 if level=0 then[(⟨#[124,124]⟩:TI)]else if level=1 then[(⟨#[38,38]⟩:TI)]else if level=2 then[(⟨#[60]⟩:TI),(⟨#[60,61]⟩:TI),(⟨#[61,61]⟩:TI),(⟨#[33,61]⟩:TI)]else if level=3 then[(⟨#[43]⟩:TI),(⟨#[45]⟩:TI)]else[(⟨#[42]⟩:TI),(⟨#[47]⟩:TI),(⟨#[37]⟩:TI)]
namespace Rd
section
variable (r:Rd)(e:Int)
@[go_sem] def Dk:(r.aE e).src=r.src:=by unfold aE;split<;>rfl
@[go_sem] def gL:(r.aE e).l=r.l:=by unfold aE;split<;>rfl
@[go_sem] def vp:(r.aE e).i=r.i:=by unfold aE;split<;>rfl
@[go_sem] def dG:(r.aE e).nodes=r.nodes:=by unfold aE;split<;>rfl
@[go_sem] def Pn:(r.aE e).deep=r.deep:=by unfold aE;split<;>rfl
end
section
variable (r:Rd)
@[go_sem] def j7v:(r.inc.src=r.src)/\(r.inc.l=r.l)/\(r.inc.i=r.i+1)/\(r.inc.nodes=r.nodes)/\(r.inc.deep=r.deep)/\(r.inc.e=r.e)/\(r.inc.at_=r.at_)/\(r.up.src=r.src)/\(r.up.l=r.l)/\(r.up.i=r.i)/\(r.up.nodes=r.nodes)/\(r.up.deep=r.deep-1)/\(r.up.e=r.e)/\(r.up.at_=r.at_):=by and_intros<;>(intros;rfl)
end
def next(r:Rd)(level:Int):TI:=match (mZ level).find? (fun s=>r.is s)with
 |some s=>s
 |none=>⟨#[]⟩
def nR(r:Rd):cz:=nth r.l (r.i+1).toNat
def calls(r:Rd):Bool:=r.kind 3 && decide (r.nR.kind=5) && decide (r.nR.text=(⟨#[40]⟩:TI))
def word(r:Rd):TI:=if r.kind 4=true then r.tok.text else⟨#[]⟩
end Rd
def wm(s:TI):Nat->Int
 |0=>0
 |k+1=>wm s k*10+(eG s k-48)
def pw(s:TI):Int:=wm s s.size
mutual
def qf:Nat->Rd->Rd×Int
 |0,r=>(r,0)
 |n+1,r=>
  if r.e≠0 then(r,0)
  else if r.tok.kind=1 then r.inc.put 1 r.cM (pw r.tok.text) ⟨#[]⟩ []
  else if r.tok.kind=2 then r.inc.put 3 r.cM 0 r.tok.text []
  else if r.tok.kind=3 then
   (if r.inc.is (⟨#[91]⟩:TI)=true then
    (((dO n 0 (r.inc.down.av (⟨#[91]⟩:TI))).1.av (⟨#[93]⟩:TI)).up).put 5 r.cM 0 r.tok.text [(dO n 0 (r.inc.down.av (⟨#[91]⟩:TI))).2]
   else r.inc.put 4 r.cM 0 r.tok.text [])
  else if r.is (⟨#[116,114,117,101]⟩:TI)=true then r.inc.put 2 r.cM 1 ⟨#[]⟩ []
  else if r.is (⟨#[102,97,108,115,101]⟩:TI)=true then r.inc.put 2 r.cM 0 ⟨#[]⟩ []
  else if r.is (⟨#[108,101,110]⟩:TI)=true then
   (if r.inc.is (⟨#[40]⟩:TI)=true then
    (((dO n 0 (r.inc.down.av (⟨#[40]⟩:TI))).1.av (⟨#[41]⟩:TI)).up).put 6 r.cM 0 ⟨#[]⟩ [(dO n 0 (r.inc.down.av (⟨#[40]⟩:TI))).2]
   else(r.inc.aE 20,0))
  else if r.is (⟨#[40]⟩:TI)=true then
   (((dO n 0 (r.down.av (⟨#[40]⟩:TI))).1.av (⟨#[41]⟩:TI)).up,(dO n 0 (r.down.av (⟨#[40]⟩:TI))).2)
  else(r.aE 20,0)
def iw:Nat->Rd->Rd×Int
 |0,r=>(r,0)
 |n+1,r=>
  if r.is (⟨#[45]⟩:TI)=true then((iw n r.down.inc).1.up).put 7 r.cM 0 ⟨#[]⟩ [(iw n r.down.inc).2]
  else if r.is (⟨#[33]⟩:TI)=true then((iw n r.down.inc).1.up).put 8 r.cM 0 ⟨#[]⟩ [(iw n r.down.inc).2]
  else qf n r
def dO:Nat->Nat->Rd->Rd×Int
 |0,_,r=>(r,0)
 |n+1,lv,r=>if lv=5 then iw n r else oL n lv r.cM (dO n (lv+1) r)
def oL:Nat->Nat->Int->Rd×Int->Rd×Int
 |0,_,_,p=>p
 |n+1,lv,ln,p=>
  if p.1.next lv=⟨#[]⟩then p
  else if lv=2 then((dO n (lv+1) p.1.inc).1).put 9 ln 0 (p.1.next lv) [p.2,(dO n (lv+1) p.1.inc).2]
  else oL n lv ln (((dO n (lv+1) p.1.inc).1).put 9 ln 0 (p.1.next lv) [p.2,(dO n (lv+1) p.1.inc).2])
end
-- what is kept
def Rd.rem(r:Rd):Nat:=if r.e=0 then(r.l.length-r.i).toNat else 0
def Rd.dI(r:Rd):Int:=r.nodes.length+3*(r.l.length-r.i)+if r.e=0 then 1 else 0
def rj(s:TI):Prop:=0<s.size/\ww s=true/\∀j,j<s.size->j7 (eG s j)=true
structure Rd.Inv(r:Rd):Prop where
 src:r.src.size<=1000
 pos:0<=r.i
 lt:r.i<r.l.length
 len:r.l.length<=2000
 num:∀k,k<r.l.length->(nth r.l k).kind=1->rj (nth r.l k).text
 tk:∀k,k<r.l.length->(nth r.l k).kind≠0->k+1<r.l.length
 oZ:0<=r.deep
 pW:r.deep<=17
 NO:r.e=0->r.deep<=16
 dI:r.dI<=8000
structure Rd.St(r r':Rd):Prop where
 src:r'.src=r.src
 l:r'.l=r.l
 deep:r'.deep=r.deep
 i:r.i<=r'.i
 lt:r'.i<r.l.length
 dI:r'.dI<=r.dI
 err:r.e≠0->r'.e≠0
variable{r r':Rd}
def Rd.St.inv(s:Rd.St r r')(h:r.Inv):r'.Inv:=by
 obtain⟨s1,s2,s3,s4,s5,s6,s7⟩:=s;obtain⟨h1,h2,h3,h4,hn,h5,h6,h7,h8,h9⟩:=h;exact⟨by rw[s1];exact h1,jB,by rw[s2];exact s5,by rw[s2];exact h4,by rw[s2];exact hn,by rw[s2];exact h5,jB,jB,fun h=>by rw[s3];exact h8 (Classical.byContradiction fun e=>s7 e h),jB⟩
def Rd.St.refl(h:r.Inv):Rd.St r r:=⟨rfl,rfl,rfl,Int.le_refl _,h.lt,Int.le_refl _,id⟩
theorem Rd.St.trans{a b c:Rd}(h:Rd.St a b)(k:Rd.St b c):Rd.St a c:=
 ⟨k.src.trans h.src,k.l.trans h.l,k.deep.trans h.deep,Int.le_trans h.i k.i,by have:=k.lt;rw[h.l]at this;exact this,Int.le_trans k.dI h.dI,fun e=>k.err (h.err e)⟩
theorem Rd.St.rem{r r':Rd}(s:Rd.St r r'):r'.rem<=r.rem:=by
 unfold Rd.rem;have h1:=s.i;have h2:=s.l;by_cases e:r.e=0
 ·rw[if_pos e,h2];split<;>omega
 ·rw[if_neg e,if_neg (s.err e)];exact Nat.le_refl _
def Rd.behind(h:r.Inv)(hk:r.tok.kind≠0):r.i+1<r.l.length:=by have:=h.tk r.i.toNat (by have:=h.lt;have:=h.pos;omega) hk;have:=h.pos;omega
def Rd.ba(h:r.is t=true):r.e=0/\r.tok.kind≠0:=by simp only[Rd.is,Bool.and_eq_true,Bool.or_eq_true,decide_eq_true_eq]at h;exact⟨h.1.1,by rcases h.1.2 with h|h<;>omega⟩
def Rd.dH{k:Int}(h:r.kind k=true)(h0:k≠0):r.e=0/\r.tok.kind≠0:=by simp only[Rd.kind,Bool.and_eq_true,decide_eq_true_eq]at h;exact⟨h.1,jB⟩
def Rd.fJ(h:r.Inv)(e:Int)(he:e≠0):Rd.St r (r.aE e):=by
 refine⟨Dk _ _,gL _ _,Pn _ _,by rw[vp];exact Int.le_refl _,by rw[vp];exact h.lt,?_,fun h1=>by unfold aE;rw[if_neg h1];exact h1⟩;unfold Rd.dI;rw[dG,gL,vp];by_cases e0:r.e=0
 ·have:(r.aE e).e=e:=by unfold aE;rw[if_pos e0]
  rw[this,if_pos e0,if_neg he];omega
 ·have:(r.aE e).e=r.e:=by unfold aE;rw[if_neg e0]
  rw[this];omega
def Rd.bt(h:r.Inv)(hk:r.tok.kind≠0):Rd.St r r.inc/\r.inc.dI=r.dI-3:=by
 have:=Rd.behind h hk;have e:r.inc.dI=r.dI-3:=by simp only[Rd.dI,Rd.inc];omega
 exact⟨⟨rfl,rfl,rfl,by simp only[Rd.inc];omega,by simp only[Rd.inc];omega,jB,id⟩,e⟩
def Rd.aK(h:r.Inv)(t:TI):Rd.St r (r.av t):=by
 unfold Rd.av;split
 ·rename_i hs;exact(Rd.bt h (Rd.ba hs).2).1
 ·exact Rd.fJ h 20 jC
def Rd.dq(h:r.Inv):Rd.St r r.name.1:=by
 unfold Rd.name;split
 ·rename_i hs;exact(Rd.bt h (Rd.dH hs jC).2).1
 ·exact Rd.fJ h 20 jC
def Rd.mm(r:Rd)(n:br):(r.node n).dI=r.dI+1:=by simp only[Rd.dI,Rd.node,List.length_append,List.length_cons,List.length_nil];omega
def Rd.cY(s:Rd.St r r')(hp:r'.dI+1<=r.dI)(k ln n:Int)(nm:TI)(L:TG):Rd.St r (r'.put k ln n nm L).1:=
 ⟨s.src,s.l,s.deep,s.i,s.lt,by show(r'.node _).dI<=_;rw[Rd.mm];exact hp,s.err⟩
def Rd.tI:r.down.e=(if 16<=r.deep then r.aE 21 else r).e:=rfl
def Rd.bL(h:r.Inv)(he:r.e=0):r.down.Inv/\r.down.dI<=r.dI/\r.down.i=r.i/\r.down.l=r.l/\r.down.src=r.src/\r.down.deep=r.deep+1:=by
 have hd:=h.NO he;have hi:r.down.i=r.i:=by unfold Rd.down;split<;>simp[vp]
 have hl:r.down.l=r.l:=by unfold Rd.down;split<;>simp[gL]
 have hs:r.down.src=r.src:=by unfold Rd.down;split<;>simp[Dk]
 have hn:r.down.nodes=r.nodes:=by unfold Rd.down;split<;>simp[dG]
 have hdd:r.down.deep=r.deep+1:=rfl;have hee:r.down.e=0->r.deep<16:=fun e=>by
  rw[Rd.tI]at e;split at e
  ·unfold aE at e;rw[if_pos he]at e;cases e
  ·omega
 have hp:r.down.dI<=r.dI:=by unfold Rd.dI;rw[hn,hl,hi,if_pos he];split<;>omega
 refine⟨⟨by rw[hs];exact h.src,by rw[hi];exact h.pos,by rw[hi,hl];exact h.lt,by rw[hl];exact h.len,by rw[hl];exact h.num,by rw[hl];exact h.tk,by have:=h.oZ;omega,jB,fun e=>by have:=hee e;omega,by have:=h.dI;omega⟩,hp,hi,hl,hs,hdd⟩
def Rd.fx(h:r.Inv)(he:r.e=0)(s:Rd.St r.down r'):Rd.St r r'.up:=by obtain⟨_,h1,h2,h3,h4,h5⟩:=Rd.bL h he;exact⟨s.src.trans h4,s.l.trans h3,by show r'.deep-1=_;rw[s.deep,h5];omega,by show r.i<=r'.i;rw[<-h2];exact s.i,by show r'.i<_;rw[<-h3];exact s.lt,by show r'.dI<=_;have:=s.dI;omega,fun e=>(e he).elim⟩
def Rd.lF{lv:Int}(h:r.next lv≠⟨#[]⟩):r.is (r.next lv)=true:=by
 unfold Rd.next at h ⊢;cases e:(mZ lv).find? (fun s=>r.is s)with
 |none=>rw[e]at h;exact(h rfl).elim
 |some s=>exact List.find?_some e
def Rd.de(h:r.Inv)(hk:r.e=0/\r.tok.kind≠0):r.inc.rem+1<=r.rem:=by have:=Rd.behind h hk.2;unfold Rd.rem;rw[if_pos hk.1,if_pos (show r.inc.e=0 from hk.1)];have:r.inc.i=r.i+1:=rfl;have:r.inc.l=r.l:=rfl;simp only[*];omega
theorem si:∀n,(∀r:Rd,r.Inv->Rd.St r (qf n r).1)/\(∀r:Rd,r.Inv->Rd.St r (iw n r).1)/\(∀lv (r:Rd),r.Inv->Rd.St r (dO n lv r).1)/\(∀lv ln (p:Rd×Int),p.1.Inv->Rd.St p.1 (oL n lv ln p).1)
 |0=>⟨fun r h=>by unfold qf;exact .refl h,fun r h=>by unfold iw;exact .refl h,fun lv r h=>by unfold dO;exact .refl h,fun lv ln p h=>by unfold oL;exact .refl h⟩
 |n+1=>by
  obtain⟨ia,lw,ic,il⟩:=si n
  -- a token, and what is behind it, deeper
  have deeper:∀(r:Rd) (t u:TI),r.Inv->r.e=0->Rd.St r ((dO n 0 (r.down.av t)).1.av u).up:=fun r t u h he=>by have h1:=(Rd.bL h he).1;have s1:=Rd.aK h1 t;have s2:=ic 0 _ (s1.inv h1);have s12:=s1.trans s2;have s3:=Rd.aK (s12.inv h1) u;exact Rd.fx h he (s12.trans s3)
  refine⟨fun r h=>?_,fun r h=>?_,fun lv r h=>?_,fun lv ln p h=>?_⟩
  ·unfold qf;split
   ·exact .refl h
   rename_i he;have he:r.e=0:=jB;split
   ·rename_i hk;obtain⟨s1,e1⟩:=Rd.bt h jB;exact Rd.cY s1 jB _ _ _ _ _
   split
   ·rename_i hk;obtain⟨s1,e1⟩:=Rd.bt h jB;exact Rd.cY s1 jB _ _ _ _ _
   split
   ·rename_i hk;obtain⟨s1,e1⟩:=Rd.bt h jB;split
    ·have s2:=deeper r.inc (⟨#[91]⟩:TI) (⟨#[93]⟩:TI) (s1.inv h) he;exact Rd.cY (s1.trans s2) (by have:=s2.dI;omega) _ _ _ _ _
    ·exact Rd.cY s1 jB _ _ _ _ _
   split
   ·rename_i hs;obtain⟨s1,e1⟩:=Rd.bt h (Rd.ba hs).2;exact Rd.cY s1 jB _ _ _ _ _
   split
   ·rename_i hs;obtain⟨s1,e1⟩:=Rd.bt h (Rd.ba hs).2;exact Rd.cY s1 jB _ _ _ _ _
   split
   ·rename_i hs;obtain⟨s1,e1⟩:=Rd.bt h (Rd.ba hs).2;split
    ·have s2:=deeper r.inc (⟨#[40]⟩:TI) (⟨#[41]⟩:TI) (s1.inv h) he;exact Rd.cY (s1.trans s2) (by have:=s2.dI;omega) _ _ _ _ _
    ·exact s1.trans (Rd.fJ (s1.inv h) 20 jC)
   split
   ·exact deeper r (⟨#[40]⟩:TI) (⟨#[41]⟩:TI) h he
   ·exact Rd.fJ h 20 jC
  ·unfold iw;have sg:∀t,r.is t=true->∀k ln nm,Rd.St r (((iw n r.down.inc).1.up).put k ln 0 nm [(iw n r.down.inc).2]).1:=fun t ht k ln nm=>by
    obtain⟨he,hk⟩:=Rd.ba ht;obtain⟨h1,h2,h3,h4,_⟩:=Rd.bL h he;have VK:r.down.tok=r.tok:=by unfold Rd.tok;rw[h3,h4]
    obtain⟨s1,e1⟩:=Rd.bt h1 (by rw[VK];exact hk);have s2:=lw _ (s1.inv h1);exact Rd.cY (Rd.fx h he (s1.trans s2)) (by have:=s2.dI;show(iw n r.down.inc).1.dI+1<=_;omega) _ _ _ _ _
   split
   ·rename_i ht;exact sg _ ht _ _ _
   split
   ·rename_i ht;exact sg _ ht _ _ _
   ·exact ia r h
  ·unfold dO;split
   ·exact lw r h
   ·have s1:=ic (lv+1) r h;exact s1.trans (il _ _ _ (s1.inv h))
  ·unfold oL;split
   ·exact .refl h
   rename_i hn;obtain⟨s1,e1⟩:=Rd.bt h (Rd.ba (Rd.lF hn)).2;have s2:=ic (lv+1) _ (s1.inv h);have s3:=fun L=>Rd.cY (s1.trans s2) (by have:=s2.dI;omega) 9 ln 0 (p.1.next lv) L
   split
   ·exact s3 _
   ·exact(s3 _).trans (il _ _ _ ((s3 _).inv h))
def db(r:Rd):Rd×Int:=dO (8*r.rem+8) 0 r
def mU:Nat->Bool->Rd->TG->Rd×TG
 |0,_,r,L=>(r,L)
 |_+1,false,r,L=>(r,L)
 |n+1,true,r,L=>if(db r).1.is (⟨#[44]⟩:TI)=true then mU n true (db r).1.inc (L++[(db r).2])else((db r).1,L++[(db r).2])
def more(r:Rd):Bool:=!(r.is (⟨#[41]⟩:TI)) && decide (r.e=0)
def o3(r:Rd):Rd:=r.name.1.av (⟨#[40]⟩:TI)
def nI(r:Rd):Rd×TG:=mU ((o3 r).rem+2) (more (o3 r)) (o3 r) []
def mJ(r:Rd):Rd×Int:=((nI r).1.av (⟨#[41]⟩:TI)).put 21 r.cM 0 r.name.2 (nI r).2
def lG(r:Rd):Rd×Int:=
 if r.is (⟨#[105,110,112,117,116]⟩:TI)=true then r.inc.put 19 r.cM 0 ⟨#[]⟩ []
 else if r.is (⟨#[110,101,119]⟩:TI)=true then((db (r.inc.av (⟨#[40]⟩:TI))).1.av (⟨#[41]⟩:TI)).put 20 r.cM 0 ⟨#[]⟩ [(db (r.inc.av (⟨#[40]⟩:TI))).2]
 else if r.calls=true then mJ r else db r
def o4(r:Rd):Rd×Int:=db (r.down.av (⟨#[91]⟩:TI))
def uG(r:Rd):Rd×Int:=db (((o4 r).1.av (⟨#[93]⟩:TI)).up.av (⟨#[61]⟩:TI))
def pO(r:Rd)(ln:Int):Rd×Int:=
 if r.calls=true then((mJ r).1.av (⟨#[59]⟩:TI)).put 13 ln 0 ⟨#[]⟩ [(mJ r).2]
 else if r.name.1.is (⟨#[91]⟩:TI)=true then((uG r.name.1).1.av (⟨#[59]⟩:TI)).put 12 ln 0 r.name.2 [(o4 r.name.1).2,(uG r.name.1).2]
 else((lG (r.name.1.av (⟨#[61]⟩:TI))).1.av (⟨#[59]⟩:TI)).put 11 ln 0 r.name.2 [(lG (r.name.1.av (⟨#[61]⟩:TI))).2]
mutual
def fZ:Nat->Rd->Rd×Int
 |0,r=>(r,0)
 |n+1,r=>
  if r.is (⟨#[123]⟩:TI)=true then((mF n (r.down.av (⟨#[123]⟩:TI)) []).1.av (⟨#[125]⟩:TI)).up.put 18 r.cM 0 ⟨#[]⟩ (mF n (r.down.av (⟨#[123]⟩:TI)) []).2
  else(r.aE 20,0)
def mF:Nat->Rd->TG->Rd×TG
 |0,r,L=>(r,L)
 |n+1,r,L=>if r.e=0/\r.is (⟨#[125]⟩:TI)=false then mF n (nL n r).1 (L++[(nL n r).2])else(r,L)
def nL:Nat->Rd->Rd×Int
 |0,r=>(r,0)
 |n+1,r=>
  if r.word=(⟨#[108,101,116]⟩:TI)then((lG (r.inc.name.1.av (⟨#[61]⟩:TI))).1.av (⟨#[59]⟩:TI)).put 10 r.cM 0 r.inc.name.2 [(lG (r.inc.name.1.av (⟨#[61]⟩:TI))).2]
  else if r.word=(⟨#[112,114,105,110,116]⟩:TI)then((db r.inc).1.av (⟨#[59]⟩:TI)).put 14 r.cM 0 ⟨#[]⟩ [(db r.inc).2]
  else if r.word=(⟨#[119,104,105,108,101]⟩:TI)then(fZ n (db r.inc).1).1.put 16 r.cM 0 ⟨#[]⟩ [(db r.inc).2,(fZ n (db r.inc).1).2]
  else if r.word=(⟨#[105,102]⟩:TI)then
   (if(fZ n (db r.inc).1).1.is (⟨#[101,108,115,101]⟩:TI)=true then(fZ n (fZ n (db r.inc).1).1.inc).1.put 15 r.cM 0 ⟨#[]⟩ [(db r.inc).2,(fZ n (db r.inc).1).2,(fZ n (fZ n (db r.inc).1).1.inc).2]
   else(fZ n (db r.inc).1).1.put 15 r.cM 0 ⟨#[]⟩ [(db r.inc).2,(fZ n (db r.inc).1).2])
  else if r.word=(⟨#[114,101,116,117,114,110]⟩:TI)then
   (if r.inc.is (⟨#[59]⟩:TI)=true then(r.inc.av (⟨#[59]⟩:TI)).put 17 r.cM 0 ⟨#[]⟩ []
   else((db r.inc).1.av (⟨#[59]⟩:TI)).put 17 r.cM 0 ⟨#[]⟩ [(db r.inc).2])
  else pO r r.cM
end
def oi(r:Rd):Rd×Int:=fZ (4*r.rem+4) r
def sN(w:TI):Int:=if w=(⟨#[105,110,116]⟩:TI)then 1 else if w=(⟨#[98,111,111,108]⟩:TI)then 2 else if w=(⟨#[116,101,120,116]⟩:TI)then 3 else if w=(⟨#[108,105,115,116]⟩:TI)then 4 else 0
def iP(r:Rd):Rd×Int:=if sN r.word=0 then(r.aE 20,0)else(r.inc,sN r.word)
def pz(r:Rd):Rd:=(iP r.name.1).1
def mq:Nat->Bool->Rd->List bK->Rd×List bK
 |0,_,r,L=>(r,L)
 |_+1,false,r,L=>(r,L)
 |n+1,true,r,L=>if(pz r).is (⟨#[44]⟩:TI)=true then mq n true (pz r).inc (L++[⟨r.name.2,(iP r.name.1).2⟩])else(pz r,L++[⟨r.name.2,(iP r.name.1).2⟩])
def mR(r:Rd):Rd:=(r.av (⟨#[102,110]⟩:TI)).name.1.av (⟨#[40]⟩:TI)
def rW(r:Rd):Rd×List bK:=mq ((mR r).rem+2) (more (mR r)) (mR r) []
def lA(r:Rd):Rd:=(rW r).1.av (⟨#[41]⟩:TI)
def l6(r:Rd):Rd×Int:=if(lA r).is (⟨#[123]⟩:TI)=true then(lA r,0)else iP (lA r)
def mz(r:Rd):Rd×bg:=((oi (l6 r).1).1,⟨(r.av (⟨#[102,110]⟩:TI)).name.2,r.cM,(rW r).2,(l6 r).2,(oi (l6 r).1).2⟩)
def p6:Nat->Rd->List bg->Rd×List bg
 |0,r,L=>(r,L)
 |n+1,r,L=>if r.e=0/\r.kind 0=false then p6 n (mz r).1 (L++[(mz r).2])else(r,L)
def od(s:TI):Rd:=⟨s,(kR s).1,0,[],0,0,0⟩
def nG(s:TI):Rd×List bg:=p6 ((od s).rem+1) (od s) []
def tW(t:List br)(L:List bg):Bool:=decide (300<t.length) || decide (6<L.length) || L.any fun f=>decide (3<f.params.length)
def gQ(s:TI):aH×Int×Int:=
 if(kR s).2.2≠0 then(⟨[],[]⟩,(kR s).2.1,(kR s).2.2)
 else if(nG s).1.e≠0 then(⟨[],[]⟩,(nG s).1.at_,(nG s).1.e)
 else if tW (nG s).1.nodes (nG s).2=true then(⟨[],[]⟩,0,4)
 else(⟨(nG s).1.nodes,(nG s).2⟩,0,0)
-- what is kept
def Rd.St.uq(s:Rd.St r r')(h:r.Inv)(he:r.e=0)(hi:r.i+1<=r'.i):r'.rem+1<=r.rem:=by have h1:=s.l;have h2:=s.lt;have h3:=h.pos;unfold Rd.rem;rw[if_pos he,h1];split<;>omega
def Rd.St.lp(h:r.Inv)(he:r.e=0)(hi:r'.e≠0):r'.rem+1<=r.rem:=by have h2:=h.lt;have h3:=h.pos;unfold Rd.rem;rw[if_pos he,if_neg hi];omega
def Rd.gO{e:Int}(he:e≠0):(r.aE e).e≠0:=by
 unfold Rd.aE;split
 ·exact he
 ·assumption
def Rd.nD(h:r.Inv)(he:r.e=0)(t:TI):(r.av t).rem+1<=r.rem/\(r.av t).dI+1<=r.dI:=by
 unfold Rd.av;split
 ·rename_i hs;have hk:=Rd.ba hs;exact⟨Rd.de h hk,by rw[(Rd.bt h hk.2).2];omega⟩
 ·have Ys:=Rd.gO (r:=r) (e:=20) jC;refine⟨Rd.St.lp h he Ys,?_⟩;unfold Rd.dI;rw[dG,gL,vp,if_pos he,if_neg Ys];omega
def Rd.qT(h:r.Inv)(he:r.e=0):r.name.1.rem+1<=r.rem/\r.name.1.dI+1<=r.dI:=by
 unfold Rd.name;split
 ·rename_i hs;have hk:=Rd.dH hs jC;exact⟨Rd.de h hk,by show r.inc.dI+1<=_;rw[(Rd.bt h hk.2).2];omega⟩
 ·have Ys:=Rd.gO (r:=r) (e:=20) jC;refine⟨Rd.St.lp h he Ys,?_⟩;show(r.aE 20).dI+1<=_;unfold Rd.dI;rw[dG,gL,vp,if_pos he,if_neg Ys];omega
def Rd.gK(h:r.Inv)(ht:r.is t=true):(r.down.av t).rem+1<=r.rem/\(r.down.av t).dI+1<=r.dI:=by
 obtain⟨he,hk⟩:=Rd.ba ht;obtain⟨h1,h2,h3,h4,h5,h6⟩:=Rd.bL h he;by_cases e:r.down.e=0
 ·obtain⟨a,b⟩:=Rd.nD h1 e t;have:r.down.rem<=r.rem:=by
   unfold Rd.rem;rw[if_pos he,if_pos e,h3,h4];exact Nat.le_refl _
  omega
 ·have hs:=Rd.aK h1 t;have e2:(r.down.av t).e≠0:=hs.err e;refine⟨Rd.St.lp h he e2,?_⟩;have:r.down.dI+1<=r.dI:=by
   have hn:r.down.nodes=r.nodes:=by unfold Rd.down;split<;>simp[dG]
   unfold Rd.dI;rw[hn,h4,h3,if_pos he,if_neg e];omega
  have:=hs.dI;omega
def ki(h:r.Inv):Rd.St r (db r).1:=(si _).2.2.1 0 r h
theorem BA:∀(n:Nat) (b:Bool) (r:Rd) (L:TG),r.Inv->Rd.St r (mU n b r L).1
 |0,_,r,L,h=>by unfold mU;exact .refl h
 |n+1,false,r,L,h=>by unfold mU;exact .refl h
 |n+1,true,r,L,h=>by
  have s1:=ki h;have h1:=s1.inv h;unfold mU;split
  ·rename_i hs;have s2:=(Rd.bt h1 (Rd.ba hs).2).1;exact(s1.trans s2).trans (BA n _ _ _ (s2.inv h1))
  ·exact s1
def yO(h:r.Inv):Rd.St r (o3 r):=(Rd.dq h).trans (Rd.aK ((Rd.dq h).inv h) _)
def BM(h:r.Inv):Rd.St r (nI r).1:=(yO h).trans (BA _ _ _ _ ((yO h).inv h))
def PU(h:r.Inv):Rd.St r ((nI r).1.av (⟨#[41]⟩:TI)):=(BM h).trans (Rd.aK ((BM h).inv h) _)
def Rd.jW(h:r.calls=true):r.kind 3=true:=by unfold Rd.calls at h;simp only[Bool.and_eq_true]at h;exact h.1.1
def BX(h:r.Inv)(hc:r.calls=true):Rd.St r (mJ r).1/\(mJ r).1.dI+2<=r.dI/\(mJ r).1.rem+1<=r.rem:=by
 have hk:=Rd.dH (Rd.jW hc) jC;have hn:r.name.1=r.inc:=by unfold Rd.name;rw[if_pos (Rd.jW hc)]
 obtain⟨s1,e1⟩:=Rd.bt h hk.2;have h1:=s1.inv h;have s2:Rd.St r.inc ((nI r).1.av (⟨#[41]⟩:TI)):=by
  have a1:Rd.St r.inc (o3 r):=by unfold o3;rw[hn];exact Rd.aK h1 _
  have a2:Rd.St r.inc (nI r).1:=a1.trans (BA _ _ _ _ (a1.inv h1));exact a2.trans (Rd.aK (a2.inv h1) _)
 have hp:=s2.dI;have s3:=Rd.cY (s1.trans s2) jB 21 r.cM 0 r.name.2 (nI r).2;refine⟨s3,?_,?_⟩
 ·show(((nI r).1.av (⟨#[41]⟩:TI)).node _).dI+2<=_;rw[Rd.mm];omega
 ·refine s3.uq h hk.1 ?_;have:=s2.i;exact this
def y9(h:r.Inv):Rd.St r (lG r).1:=by
 unfold lG;split
 ·rename_i hs;obtain⟨s1,e1⟩:=Rd.bt h (Rd.ba hs).2;exact Rd.cY s1 jB _ _ _ _ _
 split
 ·rename_i hs;obtain⟨s1,e1⟩:=Rd.bt h (Rd.ba hs).2;have h1:=s1.inv h;have s2:=Rd.aK h1 (⟨#[40]⟩:TI);have s3:=ki (s2.inv h1);have s23:=s2.trans s3;have s4:=s23.trans (Rd.aK (s23.inv h1) (⟨#[41]⟩:TI));exact Rd.cY (s1.trans s4) (by have:=s4.dI;omega) _ _ _ _ _
 split
 ·rename_i hc;exact(BX h hc).1
 ·exact ki h
def A1(h:r.Inv)(hs:r.is (⟨#[91]⟩:TI)=true):Rd.St r.down (o4 r).1/\Rd.St r ((o4 r).1.av (⟨#[93]⟩:TI)).up:=by have he:=(Rd.ba hs).1;have h1:=(Rd.bL h he).1;have s1:=Rd.aK h1 (⟨#[91]⟩:TI);have s2:=s1.trans (ki (s1.inv h1));exact⟨s2,Rd.fx h he (s2.trans (Rd.aK (s2.inv h1) _))⟩
def zW(h:r.Inv)(hs:r.is (⟨#[91]⟩:TI)=true):Rd.St r (((o4 r).1.av (⟨#[93]⟩:TI)).up.av (⟨#[61]⟩:TI))/\Rd.St r (uG r).1:=by have s1:=(A1 h hs).2;have s2:=s1.trans (Rd.aK (s1.inv h) (⟨#[61]⟩:TI));exact⟨s2,s2.trans (ki (s2.inv h))⟩
def Ma(h:r.Inv)(he:r.e=0)(ln:Int):Rd.St r (pO r ln).1/\(pO r ln).1.rem+1<=r.rem:=by
 unfold pO;have s0:=Rd.dq h;have h0:=s0.inv h;obtain⟨n1,n2⟩:=Rd.qT h he
 -- a name, and what is behind it
 have fin:∀(q:Rd) k L,Rd.St r.name.1 q->Rd.St r (q.put k ln 0 r.name.2 L).1/\(q.put k ln 0 r.name.2 L).1.rem+1<=r.rem:=fun q k L s=>by refine⟨Rd.cY (s0.trans s) (by have:=s.dI;omega) _ _ _ _ _,?_⟩;have:=s.rem;show q.rem+1<=_;omega
 split
 ·rename_i hc;obtain⟨s1,p1,r1⟩:=BX h hc;have s2:=Rd.aK (s1.inv h) (⟨#[59]⟩:TI);refine⟨Rd.cY (s1.trans s2) (by have:=s2.dI;omega) _ _ _ _ _,?_⟩;have:=s2.rem;show((mJ r).1.av (⟨#[59]⟩:TI)).rem+1<=_;omega
 split
 ·rename_i hs;have s1:=(zW h0 hs).2;exact fin _ _ _ (s1.trans (Rd.aK (s1.inv h0) _))
 ·have s1:=Rd.aK h0 (⟨#[61]⟩:TI);have s2:=s1.trans (y9 (s1.inv h0));exact fin _ _ _ (s2.trans (Rd.aK (s2.inv h0) _))
def Rd.gI{w:TI}(h:r.word=w)(h0:w≠⟨#[]⟩):r.kind 4=true:=by
 unfold Rd.word at h;split at h
 ·assumption
 ·exact absurd h.symm h0
theorem rY:∀n,(∀r:Rd,r.Inv->Rd.St r (fZ n r).1)/\(∀(r:Rd) L,r.Inv->Rd.St r (mF n r L).1)/\(∀r:Rd,r.Inv->r.e=0->0<n->Rd.St r (nL n r).1/\(nL n r).1.rem+1<=r.rem)
 |0=>⟨fun r h=>by unfold fZ;exact .refl h,fun r L h=>by unfold mF;exact .refl h,fun r h he hn=>by omega⟩
 |n+1=>by
  obtain⟨ib,is,it⟩:=rY n;refine⟨fun r h=>?_,fun r L h=>?_,fun r h he _=>?_⟩
  ·unfold fZ;split
   ·rename_i hs;have he:=(Rd.ba hs).1;have h1:=(Rd.bL h he).1;have s1:=Rd.aK h1 (⟨#[123]⟩:TI);have s2:=is _ [] (s1.inv h1);have s12:=s1.trans s2;have s3:=Rd.aK (s12.inv h1) (⟨#[125]⟩:TI);have hp:=(Rd.gK h hs).2;refine Rd.cY (Rd.fx h he (s12.trans s3)) ?_ _ _ _ _ _;have:=s2.dI;have:=s3.dI;show((mF n (r.down.av (⟨#[123]⟩:TI)) []).1.av (⟨#[125]⟩:TI)).dI+1<=_;omega
   ·exact Rd.fJ h 20 jC
  ·unfold mF;split
   ·rename_i hc;cases n with
    |zero=>unfold mF nL;exact .refl h
    |succ n=> have s1:=(it r h hc.1 jB).1;exact s1.trans (is _ _ (s1.inv h))
   ·exact .refl h
  ·-- a word, and what is behind it
   have fin:∀(w:TI) (q:Rd) k ln nm L,w≠⟨#[]⟩->r.word=w->(r.inc.Inv->Rd.St r.inc q)->Rd.St r (q.put k ln 0 nm L).1/\(q.put k ln 0 nm L).1.rem+1<=r.rem:=fun w q k ln nm L h0 hw s=>by have hk:=Rd.dH (Rd.gI hw h0) jC;obtain⟨s1,e1⟩:=Rd.bt h hk.2;have s2:=s (s1.inv h);refine⟨Rd.cY (s1.trans s2) (by have:=s2.dI;omega) _ _ _ _ _,?_⟩;have:=s2.rem;have:=Rd.de h hk;show q.rem+1<=_;omega
   unfold nL;split
   ·rename_i hw;refine fin _ _ _ _ _ _ jC hw fun h1=>?_
    have s1:=Rd.dq h1;have s2:=s1.trans (Rd.aK (s1.inv h1) (⟨#[61]⟩:TI));have s3:=s2.trans (y9 (s2.inv h1));exact s3.trans (Rd.aK (s3.inv h1) _)
   split
   ·rename_i hw;refine fin _ _ _ _ _ _ jC hw fun h1=>?_
    have s1:=ki h1;exact s1.trans (Rd.aK (s1.inv h1) _)
   split
   ·rename_i hw;refine fin _ _ _ _ _ _ jC hw fun h1=>?_
    have s1:=ki h1;exact s1.trans (ib _ (s1.inv h1))
   split
   ·rename_i hw;split
    ·rename_i hs;refine fin _ _ _ _ _ _ jC hw fun h1=>?_
     have s1:=ki h1;have s2:=s1.trans (ib _ (s1.inv h1));have h2:=s2.inv h1;have s3:=(Rd.bt h2 (Rd.ba hs).2).1;exact(s2.trans s3).trans (ib _ (s3.inv h2))
    ·refine fin _ _ _ _ _ _ jC hw fun h1=>?_
     have s1:=ki h1;exact s1.trans (ib _ (s1.inv h1))
   split
   ·rename_i hw;split
    ·exact fin _ _ _ _ _ _ jC hw fun h1=>Rd.aK h1 _
    ·refine fin _ _ _ _ _ _ jC hw fun h1=>?_
     have s1:=ki h1;exact s1.trans (Rd.aK (s1.inv h1) _)
   ·exact Ma h he _
def Cu(h:r.Inv):Rd.St r (oi r).1:=(rY _).1 r h
def LP(h:sN r.word≠0):r.e=0/\r.tok.kind≠0:=by refine Rd.dH (k:=4) (Rd.gI (r:=r) rfl fun e=>?_) jC;rw[e]at h;exact h jC
def GH(h:r.Inv):Rd.St r (iP r).1:=by
 unfold iP;split
 ·exact Rd.fJ h 20 jC
 ·rename_i ht;exact(Rd.bt h (LP ht).2).1
def ET(h:r.Inv):Rd.St r (pz r):=(Rd.dq h).trans (GH ((Rd.dq h).inv h))
theorem HP:∀(n:Nat) (b:Bool) (r:Rd) (L:List bK),r.Inv->Rd.St r (mq n b r L).1
 |0,_,r,L,h=>by unfold mq;exact .refl h
 |n+1,false,r,L,h=>by unfold mq;exact .refl h
 |n+1,true,r,L,h=>by
  have s1:=ET h;have h1:=s1.inv h;unfold mq;split
  ·rename_i hs;have s2:=(Rd.bt h1 (Rd.ba hs).2).1;exact(s1.trans s2).trans (HP n _ _ _ (s2.inv h1))
  ·exact s1
def qp(h:r.Inv):Rd.St r (r.av (⟨#[102,110]⟩:TI))/\Rd.St r (r.av (⟨#[102,110]⟩:TI)).name.1/\Rd.St r (mR r)/\Rd.St (r.av (⟨#[102,110]⟩:TI)) (mR r):=by have s1:=Rd.aK h (⟨#[102,110]⟩:TI);have h1:=s1.inv h;have s2:=Rd.dq h1;have s3:=s2.trans (Rd.aK (s2.inv h1) (⟨#[40]⟩:TI));exact⟨s1,s1.trans s2,s1.trans s3,s3⟩
def Bg(h:r.Inv):Rd.St (r.av (⟨#[102,110]⟩:TI)) (rW r).1:=(qp h).2.2.2.trans (HP _ _ _ _ ((qp h).2.2.1.inv h))
def yN(h:r.Inv):Rd.St (r.av (⟨#[102,110]⟩:TI)) (lA r):=(Bg h).trans (Rd.aK ((Bg h).inv ((qp h).1.inv h)) _)
def zb(h:r.Inv):Rd.St (r.av (⟨#[102,110]⟩:TI)) (l6 r).1:=by
 unfold l6;split
 ·exact yN h
 ·exact(yN h).trans (GH ((yN h).inv ((qp h).1.inv h)))
def F8(h:r.Inv):Rd.St r (mz r).1/\(r.e=0->(mz r).1.rem+1<=r.rem):=by have h1:=(qp h).1.inv h;have s:=(zb h).trans (Cu ((zb h).inv h1));refine⟨(qp h).1.trans s,fun he=>?_⟩;have:=(Rd.nD h he (⟨#[102,110]⟩:TI)).1;have:(oi (l6 r).1).1.rem<=_:=s.rem;show(oi (l6 r).1).1.rem+1<=_;omega
def Qf{e:Nat}(he:e<=s.size)(hj:a+j<e):eG (s.extract a e) (j:Nat)=eG s ((a+j:Nat):Int):=by unfold eG;have h1:(s.extract a e).data=s.data.extract a e:=jE;rw[h1];simp only[Int.toNat_natCast];have hs:e<=s.data.size:=he;rw[Array.getElem?_extract];rw[jP]
def RI(ha:a<s.size)(h:(ie s a).2.2=0):(ie s a).1.kind≠0/\((ie s a).1.kind=1->rj (ie s a).1.text):=by
 unfold ie at h ⊢;split at h<;>rename_i h1
 ·rw[if_pos h1];split at h<;>rename_i h2
  ·rw[if_pos h2];refine⟨fun e=>(by cases e),fun _=>?_⟩;have hb:=(we (p:=j7) (s:=s) (i:=a) jB).2;have hp:=xo ha h1;have TU:(s.extract a (iJ j7 s a)).size=iJ j7 s a-a:=by rw[ByteArray.size_extract];omega
   refine⟨by show 0<(s.extract a (iJ j7 s a)).size;omega,h2,fun j hj=>?_⟩;have hj:j<(s.extract a (iJ j7 s a)).size:=hj;show j7 (eG (s.extract a (iJ j7 s a)) j)=true;rw[Qf hb jB];exact Jt (n:=s.size+1) (i:=a) jB (by show _<iJ j7 s a;omega)
  ·cases h
 ·rw[if_neg h1];split at h<;>rename_i h2
  ·rw[if_pos h2];split at h<;>rename_i h3
   ·rw[if_pos h3];exact⟨fun e=>(by cases e),fun e=>(by cases e)⟩
   ·rw[if_neg h3];split at h<;>rename_i h4
    ·cases h
    ·rw[if_neg h4];exact⟨fun e=>(by cases e),fun e=>(by cases e)⟩
  ·rw[if_neg h2];split at h<;>rename_i h3
   ·rw[if_pos h3];exact⟨fun e=>(by cases e),fun e=>(by cases e)⟩
   ·rw[if_neg h3];split at h<;>rename_i h4
    ·cases h
    ·rw[if_neg h4];exact⟨fun e=>(by cases e),fun e=>(by cases e)⟩
def Cd(t:cz):Prop:=t.kind≠0/\(t.kind=1->rj t.text)
theorem Jl(s:TI):∀(n i:Nat) (out:List cz),s.size<n+i->i<=s.size->(lK s n i out).2.2=0->out.length<=i->(∀t∈out,Cd t)->∃ts,(lK s n i out).1=ts++[⟨0,⟨#[]⟩,s.size⟩]/\ts.length<=s.size/\∀t∈ts,Cd t
 |0,i,out,h1,h2,_,_,_=>by omega
 |n+1,i,out,h1,h2,he,hl,ho=>by
  unfold lK at he ⊢;split at he<;>rename_i hi
  ·rw[if_pos hi];split at he<;>rename_i h3
   ·rw[if_pos h3];obtain⟨e,h4,h5,h6⟩:=yS hi h3;rw[h4,Int.toNat_natCast]at he ⊢;have:=vt (s:=s) (i:=e) h6;refine Jl s n _ _ jB this.2 he (by rw[List.length_append];simp;omega) fun t ht=>?_
    rcases List.mem_append.1 ht with ht|ht
    ·exact ho t ht
    ·rw[List.mem_singleton.1 ht];exact RI hi h3
   ·exact(h3 he).elim
  ·rw[if_neg hi];exact⟨out,rfl,jB,ho⟩
def Nj(he:(kR s).2.2=0):s.size<=600/\∃ts,(kR s).1=ts++[⟨0,⟨#[]⟩,s.size⟩]/\ts.length<=s.size/\∀t∈ts,Cd t:=by
 unfold kR at he ⊢;split at he<;>rename_i h
 ·cases he
 ·rw[if_neg h];have h0:=vt (s:=s) (i:=0) (Nat.zero_le _);exact⟨jB,Jl s (s.size+1) _ _ jB h0.2 he jE fun t ht=>by simp at ht⟩
def LI[Inhabited α]{l m:List α}{k:Nat}(h:k<l.length):nth (l++m) k=nth l k:=by simp only[nth,List.getD_eq_getElem?_getD,List.getElem?_append_left h]
def fg[Inhabited α]{l:List α}{k:Nat}(h:k<l.length):nth l k∈l:=by rw[fP h];exact List.getElem_mem h
def II(he:(kR s).2.2=0):(od s).Inv:=by
 obtain⟨h0,ts,h1,h2,h3⟩:=Nj he;have hl:(od s).l=ts++[⟨0,⟨#[]⟩,s.size⟩]:=h1;have hn:(od s).l.length=ts.length+1:=by rw[hl];simp
 have TW:nth (ts++[⟨0,⟨#[]⟩,s.size⟩]:List cz) ts.length=⟨0,⟨#[]⟩,s.size⟩:=by simp[nth]
 refine⟨by show s.size<=1000;omega,Int.le_refl _,by show(0:Int)<_;omega,jB,fun k hk Ue=>?_,fun k hk Ue=>?_,Int.le_refl _,by show(0:Int)<=17;decide,fun _=>by show(0:Int)<=16;decide,?_⟩
 ·rw[hl]at Ue ⊢;by_cases e:k<ts.length
  ·rw[LI e]at Ue ⊢;exact(h3 _ (fg e)).2 Ue
  ·have:k=ts.length:=jB;subst this;rw[TW]at Ue;cases Ue
 ·by_cases e:k<ts.length
  ·omega
  ·have:k=ts.length:=jB;subst this;rw[hl,TW]at Ue;exact(Ue rfl).elim
 ·show((0:Nat):Int)+3*((od s).l.length-0)+1<=8000;omega
end Go.Gd
namespace Go.Proofs.YtjpcgmjaipfgdaaGreatDoor
open Go Go.Gd Tryz
@[go_sem] def qfc:cZ prog 3=some 1/\dz prog 3=some false/\dN prog 3=some [.int .i64 0]/\gW prog 3=false/\tu prog 3=false/\wH prog 3=false/\kj prog 3=8/\dz prog 4=some false/\gW prog 4=false/\tu prog 4=false/\wH prog 4=true/\cZ prog 5=some 1/\dz prog 5=some false/\cZ prog 9=some 1/\dz prog 9=some false/\dN prog 9=some [.string ⟨#[]⟩]/\tv prog 9=true/\kj prog 9=16/\cZ prog 22=some 1/\dz prog 22=some false/\dN prog 22=some [.slice none 0 0]/\ik prog 22=some 3/\iA prog 22=some 1/\gW prog 22=true:=by and_intros<;>kernel_rfl
@[go_sem] def qc7:kj prog 22=24/\cZ prog 27=some 1/\dz prog 27=some false/\ik prog 27=some 116/\iA prog 27=some 5/\gW prog 27=true/\cZ prog 28=some 1/\dz prog 28=some false/\ik prog 28=some 181/\iA prog 28=some 5/\gW prog 28=true/\cZ prog 30=some 2/\dz prog 30=some true/\dN prog 30=some [.slice none 0 0,.slice none 0 0]/\cF prog 30 0=some 0/\cF prog 30 1=some 1/\iW prog 30=some [(0,1),(1,1)]/\cZ prog 32=some 6/\dz prog 32=some true/\dN prog 32=some [.slice none 0 0,.slice none 0 0,.slice none 0 0,.slice none 0 0,.slice none 0 0,.slice none 0 0]/\cF prog 32 0=some 0/\cF prog 32 1=some 2/\cF prog 32 2=some 3/\cF prog 32 3=some 4:=by and_intros<;>kernel_rfl
@[go_sem] def j64:cF prog 32 4=some 5/\iW prog 32=some [(0,2),(2,1),(3,1),(4,1),(5,1)]/\cZ prog 33=some 1/\dz prog 33=some false/\cZ prog 41=some 1/\dz prog 41=some false/\ik prog 41=some 137/\iA prog 41=some 3/\gW prog 41=true/\ik prog 42=some 22/\cZ prog 43=some 1/\dz prog 43=some false/\ik prog 43=some 9/\iA prog 43=some 1/\gW prog 43=true/\cZ prog 45=some 7/\dz prog 45=some true/\dN prog 45=some [.slice none 0 0,.slice none 0 0,.int .i64 0,.slice none 0 0,.int .i64 0,.int .i64 0,.int .i64 0]/\cF prog 45 0=some 0/\cF prog 45 2=some 2/\cF prog 45 4=some 4/\cF prog 45 6=some 6/\vX prog 45 6=some (3,6)/\iW prog 45=some [(0,1),(1,1),(2,1),(3,1),(4,1),(5,1),(6,1)]:=by and_intros<;>kernel_rfl
@[go_sem] def qeP:cZ prog 50=some 1/\dz prog 50=some false/\ik prog 50=some 56/\iA prog 50=some 5/\gW prog 50=true/\cZ prog 52=some 4/\dz prog 52=some true/\dN prog 52=some [.string ⟨#[]⟩,.slice none 0 0,.slice none 0 0,.slice none 0 0]/\cF prog 52 0=some 0/\cF prog 52 1=some 1/\cF prog 52 2=some 2/\cF prog 52 3=some 3/\iW prog 52=some [(0,1),(1,1),(2,1),(3,1)]/\kj prog 52=88/\cZ prog 54=some 3/\dz prog 54=some true/\dN prog 54=some [.int .i64 0,.int .i64 0,.string ⟨#[]⟩]/\cF prog 54 0=some 0/\cF prog 54 1=some 1/\vX prog 54 1=some (3,1)/\cF prog 54 2=some 2/\iW prog 54=some [(0,1),(1,1),(2,1)]/\kj prog 54=32/\cZ prog 56=some 5:=by and_intros<;>kernel_rfl
@[go_sem] def qcX:dz prog 56=some true/\dN prog 56=some [.int .i64 0,.string ⟨#[]⟩,.int .i64 0,.int .i64 0,.string ⟨#[]⟩]/\cF prog 56 0=some 0/\cF prog 56 1=some 1/\cF prog 56 2=some 2/\iW prog 56=some [(0,1),(1,1),(2,3)]/\zr prog 56=some [.int .i64,.str,.int .i64,.int .i64,.str]/\kj prog 56=56/\iA prog 87=some 7/\gW prog 87=true/\cZ prog 88=some 1/\dz prog 88=some false/\ik prog 88=some 52/\iA prog 88=some 4/\gW prog 88=true/\cZ prog 90=some 3/\dz prog 90=some true/\dN prog 90=some [.slice none 0 0,.int .i64 0,.int .i64 0]/\cF prog 90 0=some 0/\cF prog 90 1=some 1/\cF prog 90 2=some 2/\iW prog 90=some [(0,1),(1,1),(2,1)]/\cZ prog 93=some 7/\dz prog 93=some true:=by and_intros<;>kernel_rfl
@[go_sem] def qe5:dN prog 93=some [.int .u8 0,.int .i64 0,.string ⟨#[]⟩,.string ⟨#[]⟩,.int .i64 0,.int .i64 0,.string ⟨#[]⟩]/\cF prog 93 0=some 0/\cF prog 93 1=some 1/\cF prog 93 2=some 2/\cF prog 93 3=some 3/\cF prog 93 4=some 4/\cZ prog 116=some 5/\dz prog 116=some true/\dN prog 116=some [.int .i64 0,.int .i64 0,.int .i64 0,.string ⟨#[]⟩,.slice none 0 0]/\cF prog 116 0=some 0/\cF prog 116 1=some 1/\cF prog 116 2=some 2/\cF prog 116 3=some 3/\cF prog 116 4=some 4/\vX prog 116 4=some (22,4)/\iW prog 116=some [(0,1),(1,1),(2,1),(3,1),(4,1)]/\kj prog 116=64/\cZ prog 119=some 1/\dz prog 119=some false/\cZ prog 135=some 1/\dz prog 135=some false/\ik prog 135=some 54/\iA prog 135=some 3/\gW prog 135=true:=by and_intros<;>kernel_rfl
@[go_sem] def j7D:tv prog 135=false/\cZ prog 137=some 3/\dN prog 137=some [.int .i64 0,.int .i64 0,.slice none 0 0]/\cF prog 137 1=some 1/\iW prog 137=some [(0,1),(1,1),(2,1)]/\kj prog 137=40/\cZ prog 172=some 1/\dz prog 172=some false/\ik prog 172=some 248/\iA prog 172=some 3/\dN prog 177=some [.string ⟨#[]⟩,.slice none 0 0,.int .i64 0,.slice none 0 0,.int .i64 0,.int .i64 0,.int .i64 0]/\cF prog 177 0=some 0/\cF prog 177 1=some 1/\cF prog 177 2=some 2/\cF prog 177 3=some 3/\cF prog 177 4=some 4/\cF prog 177 5=some 5/\cF prog 177 6=some 6/\iW prog 177=some [(0,1),(1,1),(2,1),(3,1),(4,1),(5,1),(6,1)]/\cZ prog 178=some 1/\dz prog 178=some false/\dN prog 178=some [.nilFunc]/\cZ prog 179=some 1/\dz prog 179=some false:=by and_intros<;>kernel_rfl
@[go_sem] def qaT:ik prog 179=some 254/\iA prog 179=some 2/\gW prog 179=true/\cZ prog 181=some 5/\dz prog 181=some true/\dN prog 181=some [.string ⟨#[]⟩,.int .i64 0,.slice none 0 0,.int .i64 0,.int .i64 0]/\cF prog 181 0=some 0/\cF prog 181 2=some 2/\cF prog 181 3=some 3/\cF prog 181 4=some 4/\iW prog 181=some [(0,1),(1,1),(2,1),(3,1),(4,1)]/\kj prog 181=64/\cZ prog 184=some 1/\dz prog 184=some false/\dN prog 184=some [.slice none 0 0]/\ik prog 184=some 258/\iA prog 184=some 3/\gW prog 184=true/\dN prog 186=some [.slice none 0 0,.slice none 0 0,.slice none 0 0,.slice none 0 0,.slice none 0 0,.slice none 0 0,.int .i64 0,.slice none 0 0,.int .i64 0,.int .i64 0,.int .i64 0]/\cF prog 186 0=some 0/\cF prog 186 1=some 6/\cF prog 186 2=some 7/\cF prog 186 3=some 8/\cF prog 186 4=some 9:=by and_intros<;>kernel_rfl
@[go_sem] def j5m:cF prog 186 5=some 10/\iW prog 186=some [(0,6),(6,1),(7,1),(8,1),(9,1),(10,1)]/\cZ prog 197=some 1/\dz prog 197=some false/\ik prog 197=some 219/\iA prog 197=some 4/\gW prog 197=true/\cZ prog 199=some 2/\dz prog 199=some true/\dN prog 199=some [.slice none 0 0,.slice none 0 0]/\cF prog 199 0=some 0/\cF prog 199 1=some 1/\iW prog 199=some [(0,1),(1,1)]/\cZ prog 201=some 1/\dz prog 201=some false/\cZ prog 203=some 1/\dz prog 203=some false/\ik prog 203=some 213/\iA prog 203=some 1/\gW prog 203=true/\dN prog 205=some [.slice none 0 0,.slice none 0 0,.slice none 0 0,.slice none 0 0,.slice none 0 0,.slice none 0 0,.slice none 0 0,.slice none 0 0,.slice none 0 0,.pointer none,.slice none 0 0,.int .i64 0,.int .i64 0,.int .i64 0,.int .i64 0]/\cF prog 205 0=some 0/\cF prog 205 1=some 6/\cF prog 205 2=some 8:=by and_intros<;>kernel_rfl
@[go_sem] def j5s:cF prog 205 3=some 9/\cF prog 205 4=some 10/\cF prog 205 5=some 11/\cF prog 205 6=some 12/\cF prog 205 7=some 13/\cF prog 205 8=some 14/\iW prog 205=some [(0,6),(6,2),(8,1),(9,1),(10,1),(11,1),(12,1),(13,1),(14,1)]/\cZ prog 213=some 1/\dz prog 213=some false/\dN prog 213=some [.pointer none]/\kj prog 213=8/\cF prog 215 0=some 0/\dN prog 217=some [.slice none 0 0,.int .i64 0,.int .i64 0,.int .i64 0,.slice none 0 0]/\cF prog 217 0=some 0/\cF prog 217 1=some 1/\cF prog 217 2=some 2/\cF prog 217 3=some 3/\cF prog 217 4=some 4/\iW prog 217=some [(0,1),(1,1),(2,1),(3,1),(4,1)]/\cZ prog 219=some 4/\dz prog 219=some true/\dN prog 219=some [.int .i64 0,.int .i64 0,.int .i64 0,.string ⟨#[]⟩]/\cF prog 219 0=some 0/\cF prog 219 1=some 1:=by and_intros<;>kernel_rfl
@[go_sem] def j5G:cF prog 219 2=some 2/\cF prog 219 3=some 3/\iW prog 219=some [(0,1),(1,1),(2,1),(3,1)]/\kj prog 219=40/\cZ prog 248=some 3/\dz prog 248=some true/\dN prog 248=some [.int .i64 0,.string ⟨#[]⟩,.int .i64 0]/\cF prog 248 0=some 0/\cF prog 248 1=some 1/\cF prog 248 2=some 2/\iW prog 248=some [(0,1),(1,1),(2,1)]/\kj prog 248=32/\cZ prog 254=some 2/\dz prog 254=some true/\dN prog 254=some [.string ⟨#[]⟩,.int .i64 0]/\cF prog 254 0=some 0/\cF prog 254 1=some 1/\iW prog 254=some [(0,1),(1,1)]/\kj prog 254=24/\cZ prog 258=some 3/\dz prog 258=some true/\dN prog 258=some [.string ⟨#[]⟩,.int .i64 0,.int .i64 0]/\cF prog 258 0=some 0/\cF prog 258 1=some 1:=by and_intros<;>kernel_rfl
@[go_sem] def j5P:cF prog 258 2=some 2/\iW prog 258=some [(0,1),(1,1),(2,1)]/\kj prog 258=32/\cZ prog 267=some 7/\dN prog 267=some [.slice none 0 0,.slice none 0 0,.slice none 0 0,.slice none 0 0,.slice none 0 0,.slice none 0 0,.slice none 0 0]/\cF prog 267 0=some 0/\cF prog 267 1=some 6/\iW prog 267=some [(0,6),(6,1)]/\dN prog 269=some [.slice none 0 0,.slice none 0 0]/\cF prog 269 0=some 0/\cF prog 269 1=some 1/\iW prog 269=some [(0,1),(1,1)]/\zJ prog 281=false/\dN prog 283=some [.slice none 0 0,.slice none 0 0,.slice none 0 0,.slice none 0 0,.slice none 0 0,.slice none 0 0,.pointer none,.slice none 0 0]/\cF prog 283 0=some 0/\cF prog 283 1=some 6/\cF prog 283 2=some 7/\iW prog 283=some [(0,6),(6,1),(7,1)]/\aU prog 13=true/\aU prog 24=true/\aU prog 27=true/\aU prog 28=true/\aU prog 29=true/\aU prog 35=true:=by and_intros<;>kernel_rfl
@[go_sem] def qdi:aU prog 36=true/\aU prog 37=true/\aU prog 38=true/\aU prog 39=true/\aU prog 40=true/\aU prog 41=true/\aU prog 42=true/\aU prog 43=true/\aU prog 44=true/\aU prog 46=true/\aU prog 47=true/\aU prog 48=true/\aU prog 49=true/\aU prog 52=true/\aU prog 53=true/\aU prog 55=true/\aU prog 56=true/\aU prog 58=true/\aU prog 63=true/\aU prog 67=true/\aU prog 68=true/\aU prog 69=true/\aU prog 70=true/\aU prog 71=true:=by and_intros<;>kernel_rfl
@[go_sem] def qdG:aU prog 74=true/\aU prog 75=true/\aU prog 76=true/\aU prog 82=true/\aU prog 84=true/\aU prog 85=true/\aU prog 86=true/\aU prog 87=true/\aU prog 88=true/\aU prog 89=true/\aU prog 90=true/\aU prog 91=true/\aU prog 92=true/\aU prog 93=true/\aU prog 94=true/\aU prog 95=true/\aU prog 96=true/\aU prog 97=true/\aU prog 98=true/\aU prog 100=true/\aU prog 101=true/\aU prog 102=true/\aU prog 103=true/\aU prog 104=true:=by and_intros<;>kernel_rfl
@[go_sem] def j8O:aU prog 105=true/\aU prog 110=true/\aU prog 111=true/\aU prog 112=true/\aU prog 113=true/\aU prog 114=true/\aU prog 116=true/\aU prog 117=true/\aU prog 118=true/\aU prog 119=true/\aU prog 120=true/\aU prog 123=true/\aU prog 124=true/\aU prog 125=true/\aU prog 126=true/\aU prog 127=true/\aU prog 129=true/\aU prog 130=true/\aU prog 131=true/\aU prog 137=true/\aU prog 138=true/\aU prog 142=true/\aU prog 143=true/\aU prog 144=true:=by and_intros<;>kernel_rfl
@[go_sem] def j9c:aU prog 145=true/\aU prog 146=true/\aU prog 147=true/\aU prog 148=true/\aU prog 149=true/\aU prog 150=true/\aU prog 151=true/\aU prog 152=true/\aU prog 159=true/\aU prog 160=true/\aU prog 161=true/\aU prog 162=true/\aU prog 163=true/\aU prog 164=true/\aU prog 165=true/\aU prog 166=true/\aU prog 167=true/\aU prog 168=true/\aU prog 169=true/\aU prog 171=true/\aU prog 172=true/\aU prog 173=true/\aU prog 174=true/\aU prog 175=true:=by and_intros<;>kernel_rfl
@[go_sem] def j9A:aU prog 177=true/\aU prog 184=true/\aU prog 185=true/\aU prog 186=true/\aU prog 187=true/\aU prog 188=true/\aU prog 189=true/\aU prog 190=true/\aU prog 191=true/\aU prog 192=true/\aU prog 193=true/\aU prog 194=true/\aU prog 195=true/\aU prog 196=true/\aU prog 197=true/\aU prog 200=true/\aU prog 201=true/\aU prog 202=true/\aU prog 203=true/\aU prog 204=true/\aU prog 205=true/\aU prog 206=true/\aU prog 207=true/\aU prog 208=true:=by and_intros<;>kernel_rfl
@[go_sem] def j9Y:aU prog 209=true/\aU prog 210=true/\aU prog 211=true/\aU prog 212=true/\aU prog 213=true/\aU prog 214=true/\aU prog 215=true/\aU prog 216=true/\aU prog 217=true/\aU prog 218=true/\aU prog 219=true/\aU prog 220=true/\aU prog 221=true/\aU prog 222=true/\aU prog 231=true/\aU prog 232=true/\aU prog 233=true/\aU prog 234=true/\aU prog 235=true/\aU prog 236=true/\aU prog 237=true/\aU prog 238=true/\aU prog 240=true/\aU prog 241=true:=by and_intros<;>kernel_rfl
@[go_sem] def qam:aU prog 242=true/\aU prog 243=true/\aU prog 244=true/\aU prog 245=true/\aU prog 246=true/\aU prog 254=true/\aU prog 255=true/\aU prog 256=true/\aU prog 257=true/\aU prog 258=true/\aU prog 259=true/\aU prog 260=true/\aU prog 261=true/\aU prog 262=true/\aU prog 269=true/\aU prog 270=true/\aU prog 271=true/\aU prog 272=true/\aU prog 273=true/\aU prog 276=true/\aU prog 277=true/\aU prog 280=true/\aU prog 309=true/\aU prog 310=true:=by and_intros<;>kernel_rfl
@[go_sem] def qaK:aU prog 311=true:=jG
def mixed:prog.follows .mixedOrders=true:=jG
def jK:qo prog 229=some (false,3):=jG
def qW:qo prog 354=some (true,3):=jG
end Go.Proofs.YtjpcgmjaipfgdaaGreatDoor