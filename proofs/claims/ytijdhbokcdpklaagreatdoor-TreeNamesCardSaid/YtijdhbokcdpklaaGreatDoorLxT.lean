/- Lemmas. No conditions. -/
import Derived.Test.YtijdhbokcdpklaaGreatDoorGdY
import Derived.ProofKit
import Derived.Deep.Slices
import Derived.Carry
import Derived.Laws.MakeOwn
import Derived.OpenShut
import Derived.MapKept
import Derived.Lib.Overlaps
import Derived.Test.YtijdhbokcdpklaaGreatDoorProg
import Derived.KernelRfl
set_option linter.all false
namespace Go.Gd
open Go Go.ChangeShapes Go.WideShapes Go.ChangeAt Go.RowKit Go.Deep
@[reducible] def n0(w:World):NW:={ toWorld:=w,O:=fun _=>False,nm:=fun _ _=>none }
def nF(P:UY)(t:US)(S:UM->Prop):Prop:=
 ∀(T:Type) (enc:US×Value->T) (w:World) (fuel:Nat) (cs:UW) (x:DataW T×List MemPlace),
  DataW.trod enc P w 0 (fun _=>true) true fuel t cs=some x->∃us,S us/\ci (n0 w) us cs
section
variable {P:UY}{t:US}
def nF.mono{S S':UM->Prop}(h:nF P t S)(hs:∀us,S us->S' us):nF P t S':=fun T enc w fuel cs x hx=>by obtain⟨us,h1,h2⟩:=h T enc w fuel cs x hx;exact⟨us,hs us h1,h2⟩
def wj{w:NW}{a:AV}{v:Value}(h:ax w a v):ci w [a] [v]:=⟨rfl,fun i b u hb hu=>by
 cases i with
 |zero=>simp at hb hu;subst hb hu;exact h
 |succ i=>simp at hb⟩
def HV{w:NW}{a:AV}{v:Value}{us:UM}{vs:UW}(h:ax w a v)(hs:ci w us vs):ci w (a::us) (v::vs):=⟨by simp[hs.1],fun i b u hb hu=>by
 cases i with
 |zero=>simp at hb hu;subst hb hu;exact h
 |succ i=>exact hs.2 i b u (by simpa using hb) (by simpa using hu)⟩
def xt{k:IntKind}(ht:P.underlying t=some (.int k)):nF P t (fun us=>∃n:Int,(Lit.int k n).wf=true/\us=[.raw (.int k n)]):=fun T enc w fuel cs x hx=>by obtain⟨n,rfl,_,hwf⟩:=DataW.trod_int ht hx;exact⟨_,⟨n,hwf,rfl⟩,wj (.raw _)⟩
def At(ht:P.underlying t=some .string):nF P t (fun us=>∃s:UR,us=[.raw (.string s)]):=fun T enc w fuel cs x hx=>by obtain⟨n,rfl,_,hwf⟩:=DataW.trod_string ht hx;exact⟨_,⟨n,rfl⟩,wj (.raw _)⟩
def By:List (UM->Prop)->UM->Prop
 |[],us=>us=[]
 |S::Ss,us=>∃a b,S a/\By Ss b/\us=a++b
def Dw(P:UY):List Field->List (UM->Prop)->Prop
 |[],[]=>True
 |f::l,S::Ss=>nF P f.type S/\Dw P l Ss
 |_,_=>False
def xU(P:UY):List Field->Nat->UX
 |[],o,n=>o == n
 |f::l,o,n=>f.offset == o && xU P l (o+P.cellsOf f.type) n
def Oe{w:NW}{us vs:UM}{cs:UW}{o n:Nat}(h1:ci w us ((cs.drop o).take n))(h2:ci w vs (cs.drop (o+n)))(hn:o+n<=cs.length):ci w (us++vs) (cs.drop o):=by
 have l1:us.length=n:=by rw[h1.1,List.length_take,List.length_drop];omega
 refine⟨by rw[List.length_append,l1,h2.1,List.length_drop,List.length_drop];omega,fun i a v ha hv=>?_⟩;by_cases hi:i<n
 ·rw[List.getElem?_append_left jB]at ha;exact h1.2 i a v ha (by rw[List.getElem?_take,if_pos hi];exact hv)
 ·rw[List.getElem?_append_right jB,l1]at ha;refine h2.2 (i-n) a v ha ?_;rw[List.getElem?_drop]at hv ⊢;rw[show o+n+(i-n)=o+i from jB];exact hv
theorem Jv{T:Type}{enc:US×Value->T}{w:World}{m:Nat}{cs:UW}:∀(l:List Field) (Ss:List (UM->Prop)) (o:Nat),Dw P l Ss->xU P l o cs.length=true->
  (∀f∈l,∃y,DataW.trod enc P w 0 (fun _=>true) true m f.type ((cs.drop f.offset).take (P.cellsOf f.type))=some y)->∃us,By Ss us/\ci (n0 w) us (cs.drop o)/\o<=cs.length
 |[],[],o,_,ho,_=>by simp only[xU,beq_iff_eq]at ho;subst ho;exact⟨[],rfl,by rw[List.drop_length];exact⟨rfl,fun i a v ha=>by simp at ha⟩,Nat.le_refl _⟩
 |f::l,S::Ss,o,hd,ho,hf=>by
  simp only[xU,Bool.and_eq_true,beq_iff_eq]at ho;obtain⟨y,hy⟩:=hf f jE;rw[ho.1]at hy;obtain⟨a,ha,W7⟩:=hd.1 T enc w m _ y hy;obtain⟨b,hb,hrb,U6⟩:=Jv l Ss _ hd.2 ho.2 fun g hg=>hf g (by simp[hg])
  exact⟨a++b,⟨a,b,ha,hb,rfl⟩,Oe W7 hrb U6,jB⟩
 |[],_::_,_,hd,_,_=>hd.elim
 |_::_,[],_,hd,_,_=>hd.elim
variable{fs:Array Field}
def AF{Ss:List (UM->Prop)}(ht:P.underlying t=some (.struct fs))(ho:xU P fs.toList 0 (P.cellsOf t)=true)(hd:Dw P fs.toList Ss):nF P t (By Ss):=fun T enc w fuel cs x hx=>by
 obtain⟨xs,n,rfl,rfl,hl,hn,hf⟩:=DataW.trod_struct ht hx;obtain⟨us,h1,h2,_⟩:=Jv (T:=T) (enc:=enc) (w:=w) (m:=n) (cs:=cs) fs.toList Ss 0 hd (by rw[hl];exact ho) fun f ZO=>by obtain⟨i,hi,e⟩:=List.getElem_of_mem ZO;have:=hf i f (by rw[<-Array.getElem?_toList,List.getElem?_eq_getElem hi,e]);rw[List.getElem?_eq_getElem (by rw[hn];simpa using hi)]at this;exact⟨_,this⟩
 exact⟨us,h1,by simpa using h2⟩
def Su{e:US}{α:Type}[Inhabited α]{ok:α->Prop}{encA:α->UM}{sz:Nat}(ht:P.underlying t=some (.slice e))(hc:P.cellsOf e=sz)(U':0<sz)(he:nF P e (fun us=>∃a,ok a/\us=encA a))(hl:∀a,(encA a).length=sz) :
  nF P t (fun us=>∃l:List α,((∀a∈l,ok a)/\l.length<=9223372036854775807)/\us=[aM encA sz l]):=fun T enc w fuel cs x hx=>by
 rcases open_slice ht hx with⟨rfl,_⟩|⟨a,len,cap,m,n,D,Pl,rfl,_,hlc,U7,hm,_,hr⟩
 ·exact⟨_,⟨[],⟨jE,jE⟩,rfl⟩,wj (.gz _ _ _ _ jE)⟩
 ·simp only[if_true]at hm;obtain rfl:cap=m:=hm.symm;have VL:∀i,i<len->∃g:α,ok g/\∃cs',w.cells? 0 (a.add (i*sz)) sz=some cs'/\ci (n0 w) (encA g) cs':=fun i hi=>by
   obtain⟨cs',h1,h2⟩:=hr i jB;rw[hc]at h1;obtain⟨us,⟨g,hok,rfl⟩,Vo⟩:=he T enc w n cs' _ h2;exact⟨g,hok,cs',h1,Vo⟩
  obtain⟨g,hg⟩:∃g:Nat->α,∀i,i<len->ok (g i)/\∃cs',w.cells? 0 (a.add (i*sz)) sz=some cs'/\ci (n0 w) (encA (g i)) cs':=by
   classical
   exact⟨fun i=>if h:i<len then(VL i h).choose else default,fun i hi=>by simp only[dif_pos hi];exact(VL i hi).choose_spec⟩
  have VU:((List.range len).map g).length=len:=jE;refine⟨_,⟨(List.range len).map g,⟨fun y hy=>?_,by rw[VU];have:cap<=9223372036854775807:=U7;omega⟩,rfl⟩,wj ?_⟩
  ·obtain⟨i,hi,rfl⟩:=List.mem_map.1 hy;exact(hg i (by simpa using hi)).1
  ·have U4:(((List.range len).map g).map encA).length=len:=jE;have hn:∀i,i<len->(((List.range len).map g).map encA).getD i []=encA (g i):=fun i hi=>by simp[List.getD_eq_getElem?_getD,hi]
   by_cases h0:len=0
   ·subst h0;exact .gz _ _ _ _ jE
   ·have D':∀i j,i<len->j<sz->∃v,w.cell? (a.add (i*sz+j))=some v/\∀u,(encA (g i))[j]?=some u->ax (n0 w) u v:=fun i j hi hj=>by
     obtain⟨_,cs',h1,h2⟩:=hg i hi;obtain⟨_,O',VF⟩:=World.cells?_some h1;have hv:cs'[j]?=some cs'[j]:=List.getElem?_eq_getElem jB;refine⟨cs'[j],?_,fun u hu=>h2.2 j u _ hu hv⟩;rw[<-xc,VF j hj,hv]
    have:=ax.sl (w:=n0 w) (d:=encA default) false sz (((List.range len).map g).map encA) a cap (fun k=>(w.cell? (a.add k)).getD undef) jB jB jE (fun cs VV=>by
     obtain⟨y,_,rfl⟩:=List.mem_map.1 VV;exact hl y) (by
     obtain⟨_,cs',h1,_⟩:=hg 0 jB;have:=World.cells?_block h1 U';rwa [qh]at this) (fun h=>h) (fun i j hi hj=>by
     obtain⟨v,hv,_⟩:=D' i j jB hj;rw[hv];rfl) (fun i j u hi hu=>by
     rw[hn i jB]at hu;have hj:j<sz:=by rw[<-hl (g i)];exact(List.getElem?_eq_some_iff.1 hu).1
     obtain⟨v,hv,Vo⟩:=D' i j jB hj;rw[hv];exact Vo u hu)
    rw[U4]at this;exact this
-- arguments
variable {T:Type}{enc:US×Value->T}{w:World}{v:Value}{d:DataW T}{ps:List MemPlace}{base:Nat}
def RF{S:UM->Prop}(ht:P.underlying t=some (.struct fs))(hd:nF P t S)(hv:Value.okWide P w .any base t v)(h:DataW.Trod enc P w 0 (fun _=>true) true t v d ps):∃us,S us/\ax (n0 w) (.agg us) v:=by unfold Value.okWide at hv;rw[ht]at hv;obtain⟨cs,rfl,_,_⟩:=hv;obtain⟨fuel,hf⟩:=h;obtain⟨us,hs,hr⟩:=hd T enc w fuel _ _ hf;exact⟨us,hs,.agg us cs (by rw[hr.1];rfl) fun i a u ha hu=>hr.2 i a u ha (by show cs.toList[i]?=_;rw[Array.getElem?_toList];exact hu)⟩
def Tt{S:AV->Prop}(hd:nF P t (fun us=>∃a,S a/\us=[a]))(hv:v.cells.toList=[v])(h:DataW.Trod enc P w 0 (fun _=>true) true t v d ps):∃a,S a/\ax (n0 w) a v:=by obtain⟨fuel,hf⟩:=h;rw[hv]at hf;obtain⟨us,⟨a,hs,rfl⟩,hr⟩:=hd T enc w fuel _ _ hf;exact⟨a,hs,hr.2 0 a v rfl rfl⟩
end
section
variable {P:UY}{T:Type}{enc:US×Value->T}
theorem Km(hl:laidOutB P=true){W W':World}(hb:Below W.heap.size W W'):∀(ts:List US) (vs:UW) (ds:List (DataW T)) (ps:List MemPlace),(∀t∈ts,P.readableRec t=true/\t<P.types.size)->
  DataW.TrodAll enc P W 0 (fun _=>true) true ts vs ds ps->(∀x∈ps,x.block<W.heap.size)->DataW.TrodAll enc P W' 0 (fun b=>decide (b<W.heap.size)) true ts vs ds ps
 |[],[],[],ps,_,h,_=>h
 |t::ts,v::vs,d::ds,ps,hr,h,I'=>by obtain⟨p,q,h1,h2,rfl⟩:=h;exact⟨p,q,Below.trod hl (hr t jE).1 (hr t jE).2 h1 hb fun x hx=>I' x (by simp[hx]),Km hl hb ts vs ds q (fun t ht=>hr t (by simp[ht])) h2 fun x hx=>I' x (by simp[hx]),rfl⟩
 |[],_::_,_,_,_,h,_=>h.elim
 |[],[],_::_,_,_,h,_=>h.elim
 |_::_,[],_,_,_,h,_=>h.elim
 |_::_,_::_,[],_,_,h,_=>h.elim
def LM{fn:Func}{s:ChangeSpec}{apart oJ handsOn:Bool}{W W':World}{args:UU}{ds:List (DataW T)}{before:List MemPlace}{tb:US}(hW:DataW.Whole enc P fn.params.toList s.vars apart W args.toList ds [] before)
  (hx:Below W.heap.size W W') (hl:laidOutB P=true) (hr:∀t∈fn.params.toList,P.readableRec t=true/\t<P.types.size) (hrt:fn.resultTypes=#[tb]) (hb:P.underlying tb=some .bool) (hv:s.vars=[])
  (e1:(s.fn T (ds++[])).results=[.lit (.bool true)]) (e2:(s.fn T (ds++[])).args=ds) (e3:(s.fn T (ds++[])).vars=[]):s.post enc P fn apart oJ handsOn false W args (.bool true) W':=by
 have hW':=hW;obtain⟨p,q,hA,hV,rfl,hfz,hnd⟩:=hW;rw[hv]at hV;have hq:q=[]:=hV;subst hq;refine⟨ds,[],_,[],p,[],hW',?_,?_,?_,hx.frame _,fun h=>by cases h⟩
 ·rw[hrt,e1];exact trodAll_mk1 (shut_bool hb true)
 ·rw[e2];exact Km hl hx _ _ _ _ hr hA fun x Vx=>by simpa using hW'.lt x (by simpa using Vx)
 ·rw[hv,e3];exact rfl
def JC(W:World)(hg:j6 (n0 W)):aJ (n0 W) (entry []):={
 cd:=hg
 rows:=fun i r h=>(by cases h)
 di:=fun i m z h=>(by cases h)
 inj:=fun i m j n b t s t' s' h _=>(by cases h)
 own:=fun i m b t s h=>(by cases h)
 fin:=fun b h=>h.elim }
def NU{f:FuncId}{avs:UM}{args:UU}{W:World}(hg:j6 (n0 W))(h:aB P f avs (.raw (.bool true)))(ha:ci (n0 W) avs args.toList):Calls P f args W fun e W'=>e=.returned (.bool true)/\Below W.heap.size W W':=by refine(h (n0 W) args (JC W hg) ⟨by rw[ha.1];simp,fun i a v h1 h2=>ha.2 i a v h1 (by rw[Array.getElem?_toList];exact h2)⟩).mono ?_;rintro e w' ⟨v,r,H',w2,rfl,rfl,⟨rfl,_⟩,_,g2,g3⟩;have:=df g2;subst this;exact⟨rfl,⟨g3.os,g3.tape,g3.output,g3.size,fun k hk=>(g3.free k hk (fun h=>h)).1⟩⟩
end
section
variable {P:UY}{f:FuncId}{args cs:UM}{H:Hp}{K:UJ}{q:Prop}
def cl{l l0:UL}{r0:AV}(hc:ab P f (args++cs) l fun r l'=>r=r0/\l'=l0)(k:q)(h1:rP l H:=by exact dD)(h0:aS P f=true:=by exact dD)(h2:aZ (fun i=>(ids l).contains i) (args++cs)=true:=by exact dD)(h3:rK (fun i=>(ids l).contains i) l:=by exact dD)
 (h4:oJ (ids l) H l0:=by exact dD) (h5:(ids l0).Nodup:=by exact dD) (e:K r0 ⟨H.B,gx H.l l0⟩=q:=by exact fm):fh P (.dW f cs) args H K:=Qq h0 (wA hc h1 h2 h3 h4 h5 (e ▸ k))
def cq{R:AV->Prop}{r0:AV}(hc:aB P f args r0)(k:q)(h0:aS P f=true:=by exact dD)(h2:aZ eJ args=true:=by exact dD)(e:R r0=q:=by exact fm) :
  ∃r,(fh P (.raw (.func (.func f) #[] #[])) args H fun r' H'=>r'=r/\H'=H)/\R r:=⟨r0,nQ h0 (yK hc h2 ⟨rfl,rfl⟩),e ▸ k⟩
end
def Sub(a' a:AV):Prop:=∀(w:NW) v,ax w a' v->ax w a v
def nn:UM->UM->Prop
 |[],[]=>True
 |a::l,b::m=>Sub a b/\nn l m
 |_,_=>False
def Sub.refl(a:AV):Sub a a:=fun _ _ h=>h
def Sub.nil(sz:Nat)(d:UM):Sub (.raw (.slice none 0 0)) (.sl false sz [] d):=fun w v h=>by have:=df h;subst this;exact .gz _ _ _ _ jE
def Sub.lit(sz:Nat)(css:UK)(d d':UM):Sub (.sl true sz css d) (.sl false sz css d'):=fun w v h=>by
 cases h with
 |gz _ _ A c _=>exact .gz _ _ _ _ jE
 |sl _ _ _ a c vs hn hc hx U' hb hH D' h=>exact .sl false sz css a c vs hn hc jE U' hb hH D' h
theorem nn.get:∀{l m:UM},nn l m->l.length=m.length/\∀(i:Nat) a b,l[i]?=some a->m[i]?=some b->Sub a b
 |[],[],_=>⟨rfl,fun i a b h=>by simp at h⟩
 |x::l,y::m,h=>by
  have ih:=nn.get h.2;refine⟨by simp[ih.1],fun i a b ha hb=>?_⟩;cases i with
  |zero=>simp at ha hb;subst ha hb;exact h.1
  |succ i=>exact ih.2 i a b (by simpa using ha) (by simpa using hb)
 |[],_::_,h=>h.elim
 |_::_,[],h=>h.elim
def D5{P:UY}{f:FuncId}{args args':UM}{r:AV}(hc:aB P f args r)(h:nn args' args):aB P f args' r:=fun w vs h1 h2=>hc w vs h1 ⟨h.get.1.symm.trans h2.1,fun i a v ha hv=>by
 have hi:i<args'.length:=by rw[h.get.1];exact(List.getElem?_eq_some_iff.1 ha).1
 exact h.get.2 i args'[i] a (List.getElem?_eq_getElem hi) ha w v (h2.2 i _ v (List.getElem?_eq_getElem hi) hv)⟩
end Go.Gd
namespace Go.Gd
open Go
variable{zs:UW}{n sz:Nat}
def TO{w:NW}{z:UU}(hz:z.toList=zs)(hl:zs.length=sz)(h0:0<sz)(k:Nat)(a:AV)(v:Value)(ha:(List.replicate n (zs.map AV.raw)).flatten[k]?=some a)(hv:(madeCells z (n*sz))[k]?=some v):ax w a v:=by
 have YA:z.size=sz:=by rw[<-hl,<-hz];simp
 have hk:k<n*sz:=by have:=(Array.getElem?_eq_some_iff.1 hv).1;rwa [size_madeCells]at this
 obtain⟨i,j,hi,hj,rfl⟩:=u0 hk;have VV:∀cs∈List.replicate n (zs.map AV.raw),cs.length=sz:=fun cs VV=>by rw[(List.mem_replicate.1 VV).2];simpa using hl
 have hg:=qH VV (i:=i) (j:=j) (by simpa using hi) hj;rw[hg]at ha;have:(List.replicate n (zs.map AV.raw)).getD i []=zs.map AV.raw:=by simp[List.getD_eq_getElem?_getD,hi]
 rw[this]at ha;simp only[List.getElem?_map,Option.map_eq_some_iff]at ha;obtain⟨x,hx,rfl⟩:=ha;have e:(i*sz+j) % sz=j:=by rw[Nat.add_comm,Nat.add_mul_mod_self_right];exact Nat.mod_eq_of_lt hj
 have:v=x:=by
  have YU:(madeCells z (n*sz))[i*sz+j]?=some (z[(i*sz+j) % z.size]!):=by simp[madeCells,hk]
  rw[YU]at hv;have hv:=Option.some.inj hv;rw[<-hv,YA,e];have hjz:j<z.size:=jB;rw[getElem!_pos z j hjz];have Vx:z.toList[j]?=some x:=by rw[hz];exact hx
  rw[Array.getElem?_toList]at Vx;exact Option.some.inj ((Array.getElem?_eq_getElem hjz).symm.trans Vx)
 subst this;exact .raw _
variable{K:UJ}{q:Prop}{t:US}
def SC{P:UY}{ev:UT}{H:Hp}{ty:US}(i:Nat){et:US}{l c:Operand}(k:q)(hl:ev l=.raw (.int .i64 (n:Int)):=by rfl)(hc:ev c=.raw (.int .i64 (n:Int)):=by rfl)(ht:iu P t=some et:=by(simp only[go_sem];rfl))(hs:dh P et=some sz:=by(simp only[go_sem];rfl))(hz:dR P et=some zs:=by(simp only[go_sem];rfl))(Xl:zs.length=sz:=by rfl)(h0:0<sz:=by decide)(hr:room (ku P et) n:=by(simp only[go_sem];omega))(hi:H.get i=none:=by rfl)
  (e:K (.rs i n sz n) (H.put i (.aG et sz (List.replicate n (zs.map .raw))))=q:=by exact fm):jV P (.makeSlice t l c) ty ev H K:=fun w ρ dst pos after guard hw hρ=>by
 have h1:=hρ l (by simp[Op.operands]);have h2:=hρ c (by simp[Op.operands]);rw[hl]at h1;rw[hc]at h2;have e1:=df h1;have e2:=df h2;have hu:P.underlying t=some (.slice et):=sW ht;unfold dh at hs;cases hf:P.info? et with
 |none=>rw[hf]at hs;cases hs
 |some inf=>
  rw[hf]at hs;have U':inf.size=sz:=by simpa using hs
  have Vz:=hz;unfold dR at Vz;rw[hf]at Vz;simp only[Option.bind_some,Option.map_eq_some_iff]at Vz;obtain⟨z,hzz,haZ⟩:=Vz;have YQ:ku P et=inf.bytes:=by unfold ku;rw[hf];rfl
  obtain⟨r1,r2⟩:=hr;rw[YQ]at r1;have B':=run_make (P:=P) w.toWorld t et inf z hu hf hzz .i64 .i64 (n:Int) (n:Int) jB jB (by have h:((n*inf.bytes:Nat):Int)<=140737488355328:=jB;rw[Int.natCast_mul,Int.mul_comm]at h;omega) jB
  simp only[Int.toNat_natCast]at B';rw[U']at B';have VV:∀cs∈List.replicate n (zs.map AV.raw),cs.length=sz:=fun cs VV=>by rw[(List.mem_replicate.1 VV).2];simpa using Xl
  have Wb:=gp VV;simp only[List.length_replicate]at Wb;obtain⟨q1,q2⟩:=wm (row:=.aG et sz (List.replicate n (zs.map AV.raw))) hw (hw.none hi _) (fun r' hr=>by rw[hi]at hr;cases hr) ⟨h0,VV⟩ (madeCells z.cells (n*sz)) ⟨rfl,by show(List.replicate n (zs.map AV.raw)).flatten.length<=_;rw[Wb,size_madeCells];exact Nat.le_refl _⟩ (fun k a v ha hv=>TO haZ Xl h0 k a v ha hv);refine⟨_,_,.rs i n sz n,e ▸ k,q1,q2,.inl ⟨.slice (some ⟨w.heap.size,0,none⟩) n n,?_,?_⟩⟩
  ·simp only[execOp,e1,e2];simp[B'];rfl
  ·have Vd:(((w.to (w.alloc (.cells (madeCells z.cells (n*sz)) et))).gg w.heap.size).name i n (.at w.heap.size (n*sz) sz)).nm i n=some (.at w.heap.size (n*sz) sz):=NW.cA _ _ _ _;have:=ax.rs (w:=((w.to (w.alloc (.cells (madeCells z.cells (n*sz)) et))).gg w.heap.size).name i n (.at w.heap.size (n*sz) sz)) i n sz n w.heap.size (n*sz) n Vd rfl jl h0;have e3:(Row.aG et sz (List.replicate n (zs.map AV.raw))).fW=n:=by show(List.replicate n (zs.map AV.raw)).length=n;simp
   have e4:(madeCells z.cells (n*sz)).size=n*sz:=size_madeCells _ _;rw[e3,e4];exact this
open Go.ChangeShapes Go.WideShapes Go.ChangeAt Go.RowKit
def gy(a k:Nat):Nat:=1000+(8*k+a)
def ze(a k:Nat):1000<=gy a k:=by unfold gy;omega
def yR{a b k j:Nat}(ha:a<8)(hb:b<8)(h:gy a k=gy b j):a=b/\k=j:=by unfold gy at h;omega
def oH(a:Nat)(f:UZ):Nat->Nat->List U0->UL
 |_,0,l=>l
 |k,n+1,l=>(gy a k,f k)::oH a f (k+1) n l
def iW(a n:Nat)(f:UZ)(l:UL):UL:=oH a f 0 n l
theorem DN(a:Nat)(ha:a<8)(f:UZ)(l:UL):∀(n k j:Nat),aC (oH a f k n l) (gy a j)=if k<=j/\j<k+n then some (f j)else aC l (gy a j)
 |0,k,j=>by unfold oH;rw[jN]
 |n+1,k,j=>by
  show(if gy a j=gy a k then some (f k)else aC (oH a f (k+1) n l) (gy a j))=_;by_cases e:j=k
  ·subst e;rw[if_pos rfl,jP]
  ·rw[if_neg (fun h=>e (yR ha ha h).2),DN a ha f l n (k+1) j];by_cases h:k+1<=j/\j<k+1+n
   ·rw[if_pos h,jP]
   ·rw[if_neg h,jN]
theorem Ag(a:Nat)(f:UZ)(l:UL)(i:Nat)(hi:∀k,i≠gy a k):∀(n k:Nat),aC (oH a f k n l) i=aC l i
 |0,k=>rfl
 |n+1,k=>by show(if i=gy a k then some (f k)else aC (oH a f (k+1) n l) i)=_;rw[if_neg (hi k)];exact Ag a f l i hi n (k+1)
@[go_sem] def vh(a n:Nat)(f:UZ)(l:UL)(i:Nat)(h:i<1000):aC (iW a n f l) i=aC l i:=Ag a f l i (fun k e=>by have:=ze a k;omega) n 0
@[go_sem] def rn(a n:Nat)(f:UZ)(l:UL)(b k:Nat)(ha:a<8)(hb:b<8)(h:a≠b):aC (iW a n f l) (gy b k)=aC l (gy b k):=Ag a f l _ (fun j e=>h (yR hb ha e).1.symm) n 0
@[go_sem] def tQ(a n:Nat)(f:UZ)(l:UL)(k:Nat)(ha:a<8)(h:k<n):aC (iW a n f l) (gy a k)=some (f k):=by unfold iW;rw[DN a ha,jP]
@[go_sem] def RR(a n:Nat)(f:UZ)(l:UL)(k:Nat)(ha:a<8)(h:n<=k):aC (iW a n f l) (gy a k)=aC l (gy a k):=by unfold iW;rw[DN a ha,jN]
def vk(a n:Nat)(ha:a<8)(f:UZ)(l:UL)(i:Nat):(∃k,k<n/\i=gy a k/\aC (iW a n f l) i=some (f k))\/((∀k,k<n->i≠gy a k)/\aC (iW a n f l) i=aC l i):=by
 by_cases h:∃k,i=gy a k
 ·obtain⟨k,rfl⟩:=h;by_cases hk:k<n
  ·exact .inl ⟨k,hk,rfl,tQ a n f l k ha hk⟩
  ·exact .inr ⟨fun j hj e=>hk ((yR ha ha e).2 ▸ hj),RR a n f l k ha jB⟩
 ·exact .inr ⟨fun k _ e=>h ⟨k,e⟩,Ag a f l i (fun k e=>h ⟨k,e⟩) n 0⟩
def yi{α:Type}(n:Nat)(f:Nat->α):List α:=(List.range n).map f
def Hk{q:UX}{f:Nat->UM}(h:∀k,k<n->aZ q (f k)=true):QL q (yi n f):=fun c hc=>by obtain⟨k,hk,rfl⟩:=List.mem_map.1 hc;exact h k (by simpa using hk)
variable{B:UQ}{l:UL}
def I0{r:AV}(l':UL)(h:∀i,aC l i=aC l' i):iD r ⟨B,l⟩ r ⟨B,l'⟩:=fun w v h1 h2=>by
 have hg:∀i,(Hp.mk B l').get i=(Hp.mk B l).get i:=fun i=>(h i).symm
 exact⟨w,rfl,{ rows:=fun i r hi=>h1.rows i r ((hg i) ▸ hi),di:=fun i m z hz=>by rw[hg];exact h1.di i m z hz,inj:=h1.inj,own:=h1.own,fin:=h1.fin,cd:=h1.cd },h2,{ ExtQ.refl _ w with base:=rfl }⟩
def Bv{w:NW}{l':UL}(h:∀i,aC l i=aC l' i)(h1:aJ w ⟨B,l⟩):aJ w ⟨B,l'⟩:=by
 have hg:∀i,(Hp.mk B l').get i=(Hp.mk B l).get i:=fun i=>(h i).symm
 exact{ rows:=fun i r hi=>h1.rows i r ((hg i) ▸ hi),di:=fun i m z hz=>by rw[hg];exact h1.di i m z hz,inj:=h1.inj,own:=h1.own,fin:=h1.fin,cd:=h1.cd }
structure Lays(E:List (Nat×Row)->List (Nat×Row))(tl:List (Nat×Row)):Prop where
 get:∀i,aC (E tl) i=(aC (E []) i).or (aC tl i)
 apart:∀i r,aC tl i=some r->aC (E []) i=none
def Cj{P:UY}{f:FuncId}{args:UM}{tl:UL}{E E':List U0->UL}{r0:AV}(hc:ab P f args (E []) fun r l'=>r=r0/\l'=E' [])(h1:Lays E tl)(h2:Lays E' tl)(h3:(ids (E' [])).Nodup)
  (ha:aZ (fun i=>(ids (E [])).contains i) args=true) (hr:∀i r,aC (E []) i=some r->aZ (fun i=>(ids (E [])).contains i) r.cells=true) (hk:K r0 ⟨B,E' tl⟩) (h4:∀i,aC (E []) i≠none->aC (E' []) i≠none):dm P f args ⟨B,E tl⟩ K:=fun w vs hw hv=>by
 refine(Ao (H:=⟨B,E tl⟩) (K:=fun r H'=>r=r0/\∃l',H'=⟨B,l'⟩/\∀i,aC l' i=aC (E' tl) i) hc (fun i r hi=>?_) ha hr (fun r l' ⟨e1,e2⟩=>⟨fun i s hs=>?_,by rw[e2];exact h3,e1,_,rfl,fun i=>?_⟩) hw hv).mono ?_
 ·show aC (E tl) i=some r;rw[h1.get,hi];rfl
 ·cases e:aC (E []) i with
  |some x=>exact .inl (sI e)
  |none=>
   right
   show aC (E tl) i=none;rw[h1.get,e,Option.none_or];cases e':aC tl i with
   |none=>rfl
   |some y=>rw[e2]at hs;have:=h2.apart i y e';rw[this]at hs;cases hs
 ·rw[e2,uR _ _ _ (fun _ _ _=>trivial) h3,h2.get,h1.get];cases e:aC (E' []) i with
  |some x=>rfl
  |none=>
   have:aC (E []) i=none:=Classical.byContradiction fun h=>h4 i h e
   rw[this];rfl
 ·rintro e W ⟨v,r,H',w',rfl,rfl,⟨rfl,l',rfl,hl⟩,g1,g2,g3⟩;exact⟨v,_,⟨B,E' tl⟩,w',rfl,rfl,hk,Bv hl g1,g2,{ g3 with base:=rfl }⟩
def cC{P:UY}(i:Nat){H:Hp}(k:q)(hi:H.get i=none:=by first|rfl|exact dD)(hz:dR P t=some zs:=by(simp only[go_sem];rfl))(e:K (.pt i 0 0 0) (H.put i (.var t (zs.map .raw)))=q:=by exact fm):nS P H t K:=yH i hz hi (e ▸ k)
def aV(i:Nat){x:AV}{H:Hp}(k:q)(hi:H.get i=none:=by first|rfl|exact dD)(ho:cQ x.cells=true:=by simp only[go_sem])(e:K (.pt i 0 0 0) (H.put i (.var t x.cells))=q:=by exact fm):rf H t x K:=zI i ho hi (e ▸ k)
section
variable {α:Type}[DecidableEq α]
def pI(n:α):List α->UM->Option AV
 |k::ks,v::vs=>if n=k then some v else pI n ks vs
 |_,_=>none
def nh(n:α)(x:AV):List α->UM->UM
 |k::ks,v::vs=>if n=k then x::vs else v::nh n x ks vs
 |_,_=>[x]
def np(n:α):List α->List α
 |k::ks=>if n=k then k::ks else k::np n ks
 |[]=>[n]
theorem Ki(n:α)(x:AV):∀(ks:List α) (vs:UM),ks.length=vs.length->(np n ks).length=(nh n x ks vs).length
 |[],[],_=>rfl
 |[],_::_,h=>by simp at h
 |_::_,[],h=>by simp at h
 |k::ks,v::vs,h=>by
  have h:ks.length=vs.length:=by simpa using h
  unfold np nh;split
  ·simp[h]
  ·simp[Ki n x ks vs h]
structure kj(P:Program)(kt:TypeId)(enc:α->Value):Prop where
 TH:∃d,P.underlying kt=some d/\∀a b,Instr.sameNow d (enc a) (enc b)=some (decide (a=b))
 yZ:∀(w:World) a e,(Instr.checkKey e 10000 kt (enc a)).run P w=.ok () w
 bits:∀a,Instr.sameBits 10000 (enc a) (enc a)=true
variable{P:UY}{kt:US}
def Qx(h:P.underlying kt=some (.int .i64)):kj P kt (Value.int .i64):=⟨⟨_,h,fun a b=>by simp[Instr.sameNow];rfl⟩,fun w a e=>MapKept.run_checkKey h (by simp[MapKept.IsKey]) e 9999,fun a=>by unfold Instr.sameBits;simp⟩
def Ue(h:P.underlying kt=some .string):kj P kt Value.string:=⟨⟨_,h,fun a b=>by
 have:(a == b)=decide (a=b):=by rw[Bool.eq_iff_iff,MapKept.bytes_beq];simp
 simp only[Instr.sameNow,this]⟩,fun w a e=>MapKept.run_checkKey h (by simp[MapKept.IsKey]) e 9999,fun a=>by unfold Instr.sameBits;exact(MapKept.bytes_beq a a).2 rfl⟩
def oo(n:α):List α->UW->Nat->Option (Nat×Value)
 |k::ks,v::vs,i=>if n=k then some (i,v)else oo n ks vs (i+1)
 |_,_,_=>none
theorem Fx{d:TypeDesc}{enc:α->Value}(h:∀a b,Instr.sameNow d (enc a) (enc b)=some (decide (a=b)))(n:α):∀(ks:List α) (vs:UW) (b i:Nat),Instr.findNow d (enc n) (iV b (ks.map enc) vs) i=some (oo n ks vs i)
 |[],vs,b,i=>by simp[iV,oo,Instr.findNow]
 |k::ks,[],b,i=>by simp[iV,oo,Instr.findNow]
 |k::ks,v::vs,b,i=>by
  simp only[List.map_cons,iV,oo,Instr.findNow,h];by_cases e:n=k
  ·simp[e]
  ·simp[e,Fx h n ks vs (b+1) (i+1)]
theorem A1{n:α}:∀{ks:List α} {vs:UW} {i j:Nat} {v:Value},oo n ks vs i=some (j,v)->∃k,j=i+k/\vs[k]?=some v/\ks[k]?=some n/\k<ks.length/\
  (∀zl:UM,zl.length=ks.length->pI n ks zl=zl[k]?/\(∀x,nh n x ks zl=zl.set k x))/\np n ks=ks
 |[],_,_,_,_,h=>by simp[oo]at h
 |_::_,[],_,_,_,h=>by simp[oo]at h
 |k::ks,v'::vs,i,j,v,h=>by
  unfold oo at h;split at h
  ·rename_i e;cases h;refine⟨0,rfl,rfl,by simp[e],jE,fun zl hl=>?_,by simp[np,e]⟩;cases zl with
   |nil=>simp at hl
   |cons a zl=>exact⟨by simp[pI,e],fun x=>by simp[nh,e]⟩
  ·rename_i e;obtain⟨q,h1,h2,h3,h5,h4,h6⟩:=A1 h;refine⟨q+1,jB,by simpa using h2,by simpa using h3,by simpa using h5,fun zl hl=>?_,by unfold np;rw[if_neg e,h6]⟩;cases zl with
   |nil=>simp at hl
   |cons a zl=> obtain⟨g1,g2⟩:=h4 zl (by simpa using hl);exact⟨by unfold pI;rw[if_neg e,g1];rfl,fun x=>by unfold nh;rw[if_neg e,g2];rfl⟩
theorem CR{n:α}:∀{ks:List α} {vs:UW} {i:Nat},ks.length=vs.length->oo n ks vs i=none->(∀zl:UM,zl.length=ks.length->pI n ks zl=none/\∀x,nh n x ks zl=zl++[x])/\np n ks=ks++[n]
 |[],_,_,_,_=>⟨fun zl hl=>by
   have:zl=[]:=by simpa using hl
   subst this;exact⟨rfl,fun x=>rfl⟩,rfl⟩
 |_::_,[],_,h,_=>by simp at h
 |k::ks,v'::vs,i,hl,h=>by
  unfold oo at h;split at h
  ·cases h
  ·rename_i e;obtain⟨g1,g2⟩:=CR (by simpa using hl) h;refine⟨fun zl XE=>?_,by unfold np;rw[if_neg e,g2];rfl⟩;cases zl with
   |nil=>simp at XE
   |cons a zl=> obtain⟨q1,q2⟩:=g1 zl (by simpa using XE);exact⟨by unfold pI;rw[if_neg e,q1],fun x=>by unfold nh;rw[if_neg e,q2];rfl⟩
theorem Ha:∀(b:Nat) (ks vs:UW) (k v:Value),ks.length=vs.length->iV b (ks++[k]) (vs++[v])=iV b ks vs++[⟨k,v,b+ks.length⟩]
 |b,[],[],k,v,_=>by simp[iV]
 |b,[],_::_,k,v,h=>by simp at h
 |b,_::_,[],k,v,h=>by simp at h
 |b,k'::ks,v'::vs,k,v,h=>by have:=Ha (b+1) ks vs k v (by simpa using h);simp only[List.cons_append,iV,this,List.length_cons];rw[show b+1+ks.length=b+(ks.length+1) from jB]
theorem FW:∀(b:Nat) (ks vs:UW) (j:Nat) (k v:Value),ks[j]?=some k->vs[j]?=some v->(iV b ks vs)[j]?=some ⟨k,v,b+j⟩
 |b,[],_,j,k,v,h,_=>by simp at h
 |b,_::_,[],j,k,v,_,h=>by simp at h
 |b,k'::ks,v'::vs,0,k,v,h1,h2=>by simp at h1 h2;subst h1 h2;rfl
 |b,k'::ks,v'::vs,j+1,k,v,h1,h2=>by have:=FW (b+1) ks vs j k v (by simpa using h1) (by simpa using h2);simp only[iV,List.getElem?_cons_succ,this];rw[show b+1+j=b+(j+1) from jB]
theorem FF:∀(b:Nat) (ks vs:UW) (j:Nat) (k v:Value),ks[j]?=some k->j<vs.length->iV b ks (vs.set j v)=(iV b ks vs).modify j fun e=>{ e with key:=k,val:=v }
 |b,[],_,j,k,v,h,_=>by simp at h
 |b,_::_,[],j,k,v,_,h=>by simp at h
 |b,k'::ks,v'::vs,0,k,v,h1,_=>by simp at h1;subst h1;simp[iV]
 |b,k'::ks,v'::vs,j+1,k,v,h1,h2=>by have:=FF (b+1) ks vs j k v (by simpa using h1) (by simpa using h2);simp[iV,this]
def IF{enc:α->Value}(K:kj P kt enc)(w:World)(n:α)(ks:List α)(vs:UW)(b:Nat):(Instr.findKey kt (enc n) (iV b (ks.map enc) vs)).run P w=.ok (oo n ks vs 0) w:=by obtain⟨d,h1,h2⟩:=K.TH;simp[Instr.findKey,run_underlying h1,Fx h2,Result.andThen]
end
section
variable {P:UY}{H:Hp}{α:Type}[DecidableEq α]
variable{i:Nat}{vs:UM}
def G1{w:NW}(hw:aJ w H){ks:UW}{b t s:Nat}(hi:H.get i=some (.mp ks vs))(hn:w.nm i 0=some (.at b t s)) :
  s=0/\ks.length=vs.length/\∃cur:UU,w.heap[b]?=some (.map (iV 0 ks cur.toList).toArray ks.length)/\cur.size=vs.length/\∀(k:Nat) a v,vs[k]?=some a->cur[k]?=some v->ax w a v:=by
 obtain⟨hok,z,hz,Vg⟩:=hw.rows _ _ hi;have:z=.at b t s:=by have hz:w.nm i 0=some z:=hz;rw[hn]at hz;cases hz;rfl
 subst this;obtain⟨h1,cur,hh,VB,hr⟩:=Vg;exact⟨h1,hok,cur,hh,VB,hr⟩
variable{ty t:US}{K:UJ}{q:Prop}
def tY(i:Nat){ev:UT}(k:q)(hi:H.get i=none:=by first|rfl|exact dD)(e:K (.mr i) (H.put i (.mp [] []))=q:=by exact fm):jV P (.makeMap t none) ty ev H K:=fun w ρ dst pos after guard hw hρ=>by
 obtain⟨q1,q2⟩:=wm (row:=.mp [] []) hw (hw.none hi _) (fun r' hr=>by rw[hi]at hr;cases hr) rfl #[] rfl (fun k a v ha hv=>by have ha:([]:UM)[k]?=some a:=ha;simp at ha)
 refine⟨_,_,.mr i,e ▸ k,q1,q2,.inl ⟨.map (some w.heap.size),?_,.mr _ _ _ _ (NW.cA _ _ _ _)⟩⟩;simp[execOp,Instr.makeMap,newObj,Result.andThen];rfl
variable{et:US}{om ox:Operand}{op:Op}{enc:α->Value}
def Fo{ev:UT}{kt:US}{ok:Operand}{ks:List α}{n:α}{x:AV}(W9:op=.insert t om ok ox\/op=.mapUpdate t om ok ox)(hK:kj P kt enc)(ht:P.underlying t=some (.map kt et))
  (hm:ev om=.mr i) (hk:ev ok=.raw (enc n)) (hx:ev ox=x) (hi:H.get i=some (.mp (ks.map enc) vs)) (k:q) (e:K .any (H.put i (.mp ((np n ks).map enc) (nh n x ks vs)))=q):jV P op ty ev H K:=fun w ρ dst pos after guard hw hρ=>by
 have ho:om∈op.operands.toList/\ok∈op.operands.toList/\ox∈op.operands.toList:=by rcases W9 with rfl|rfl<;>simp[Op.operands]
 have h1:=hρ om ho.1;have h2:=hρ ok ho.2.1;have h3:=hρ ox ho.2.2;rw[hm]at h1;rw[hk]at h2;rw[hx]at h3;have e2:=df h2;cases e1:ρ om with
 |map r=>
  rw[e1]at h1;cases h1 with
  |mr _ b u s hn=>
  obtain⟨rfl,hl,cur,hh,U',hr⟩:=G1 hw hi hn;have hl:ks.length=vs.length:=by simpa using hl
  have U4:ks.length=cur.toList.length:=by simp;omega
  have hb:b<w.heap.size:=hw.lt hn;have run:∀(vs':UW) (ks':List α),ks'.length=vs'.length->(nh n x ks vs).length=vs'.length->np n ks=ks'->
    (Instr.mapUpdate t (ρ om) (ρ ok) (ρ ox)).run P w.toWorld=.ok () { w.toWorld with heap:=w.heap.setIfInBounds b (.map (iV 0 (ks'.map enc) vs').toArray ks'.length) }->
    (∀(k:Nat) a v,(nh n x ks vs)[k]?=some a->vs'[k]?=some v->ax w a v)->∃(w':NW) (H':Hp) (r:AV),K r H'/\aJ w' H'/\Ext w H w' H'/\((∃v,(execOp ρ ⟨dst,op,ty,pos,after,guard⟩).run P w.toWorld=.ok (.value v) w'.toWorld/\ax w' r v)\/((execOp ρ ⟨dst,op,ty,pos,after,guard⟩).run P w.toWorld=.ok .skip w'.toWorld/\r=.any)):=fun vs' ks' Wk Ve XY B' Vo=>by
   obtain⟨g1,g2⟩:=Kn (W:={ w.toWorld with heap:=w.heap.setIfInBounds b (.map (iV 0 (ks'.map enc) vs').toArray ks'.length) }) (row:=.mp (ks.map enc) vs) (row':=.mp ((np n ks).map enc) (nh n x ks vs)) hw hi hn rfl jl (by show((np n ks).map enc).length=_;rw[List.length_map];exact Ki n x ks vs hl) rfl rfl rfl jE (fun c hc=>by
    show(w.heap.setIfInBounds b _)[c]?=_;rw[Array.getElem?_setIfInBounds,if_neg (fun h=>hc h.symm)]) vs'.toArray (by
    show(w.heap.setIfInBounds b _)[b]?=_;rw[Array.getElem?_setIfInBounds,if_pos rfl,if_pos hb,XY];simp[Row.obj]) (by show vs'.toArray.size=_;simp;omega) (fun k a v ha hv=>Vo k a v ha (by simpa using hv))
   refine⟨_,_,.any,e ▸ k,g1,g2,.inr ⟨?_,rfl⟩⟩;rcases W9 with rfl|rfl
   ·simp only[execOp,B'];simp[B',Result.andThen];rfl
   ·simp only[execOp,B'];simp[B',Result.andThen];rfl
  have V0:=IF hK w.toWorld n ks cur.toList 0;cases hf:oo n ks cur.toList 0 with
  |none=>
   obtain⟨f1,f2⟩:=CR U4 hf;obtain⟨f3,f4⟩:=f1 vs jB;refine run (cur.toList++[ρ ox]) (ks++[n]) jF (by rw[f4];simp;omega) f2 ?_ ?_
   ·rw[e1,e2];have es:=Ha 0 (ks.map enc) cur.toList (enc n) (ρ ox) (by simpa using U4);rw[Nat.zero_add,List.length_map]at es;rw[List.map_append,List.map_singleton,es];simp[Instr.mapUpdate,run_underlying ht,MapKept.run_getObj_map hh,hK.yZ,V0,hf,MapKept.run_setObj_map _ hh,Result.andThen]
   ·intro k a v ha hv;rw[f4]at ha;rcases Nat.lt_or_ge k vs.length with h|h
    ·rw[List.getElem?_append_left h]at ha;rw[List.getElem?_append_left jF]at hv;exact hr k a v ha (by simpa using hv)
    ·rw[List.getElem?_append_right h]at ha;rw[List.getElem?_append_right jF]at hv;have Vh:k-vs.length=0:=by
      have:=(List.getElem?_eq_some_iff.1 ha).1;simp at this;omega
     rw[Vh]at ha;rw[show k-cur.toList.length=0 by simp;omega]at hv;simp at ha hv;subst ha hv;exact h3
  |some jv=>
   obtain⟨j,v0⟩:=jv;obtain⟨k0,rfl,f2,f3,f5,f4,f6⟩:=A1 hf;rw[Nat.zero_add]at hf;obtain⟨f7,f8⟩:=f4 vs jB;refine run (cur.toList.set k0 (ρ ox)) ks jF (by rw[f8];simp;omega) f6 ?_ ?_
   ·rw[e1,e2];have Zi:(ks.map enc)[k0]?=some (enc n):=by simp[f3]
    have es:=FF 0 (ks.map enc) cur.toList k0 (enc n) (ρ ox) Zi jB;have eg:=FW 0 (ks.map enc) cur.toList k0 (enc n) v0 Zi f2;rw[es];have V4:∀g,(iV 0 (ks.map enc) cur.toList).toArray.modify k0 g=((iV 0 (ks.map enc) cur.toList).modify k0 g).toArray:=fun g=>jE
    simp[Instr.mapUpdate,run_underlying ht,MapKept.run_getObj_map hh,hK.yZ,V0,hf,MapKept.run_setObj_map _ hh,Result.andThen,eg,Instr.keyThatStays,hK.bits]
   ·intro k a v ha hv;rw[f8,List.getElem?_set]at ha;rw[List.getElem?_set]at hv;by_cases Vk:k0=k
    ·rw[if_pos Vk]at ha hv;split at ha
     ·split at hv
      ·cases ha;cases hv;exact h3
      ·cases hv
     ·cases ha
    ·rw[if_neg Vk]at ha hv;exact hr k a v ha (by simpa using hv)
 |_=>rw[e1]at h1;cases h1
def oG(n:α)(ks:List α)(vs:UM)(z:AV)(ok:Bool):AV:=if ok=true then(match pI n ks vs with|some v=>.aQ [v,.raw (.bool true)]|none=>.aQ [z,.raw (.bool false)])else(pI n ks vs).getD z
def HJ{ev:UT}{kt:US}{c:Bool}{ks:List α}{n:α}{z:Value}(hK:kj P kt enc)(ht:P.underlying t=some (.map kt et))(hz:(P.info? et).bind (·.zero)=some z)
  (hm:ev om=.mr i) (hk:ev ox=.raw (enc n)) (hi:H.get i=some (.mp (ks.map enc) vs)) (k:q) (e:K (oG n ks vs (.raw z) c) H=q):jV P (.lookup t om ox c) ty ev H K:=fun w ρ dst pos after guard hw hρ=>by
 have h1:=hρ om (by simp[Op.operands]);have h2:=hρ ox (by simp[Op.operands]);rw[hm]at h1;rw[hk]at h2;have e2:=df h2;cases e1:ρ om with
 |map r=>
  rw[e1]at h1;cases h1 with
  |mr _ b u s hn=>
  obtain⟨rfl,hl,cur,hh,U',hr⟩:=G1 hw hi hn;have hl:ks.length=vs.length:=by simpa using hl
  have U4:ks.length=cur.toList.length:=by simp;omega
  have V0:=IF hK w.toWorld n ks cur.toList 0;have hzr:(zeroValue et).run P w.toWorld=.ok z w.toWorld:=by
   cases Yd:P.info? et with
   |none=>rw[Yd]at hz;cases hz
   |some ti=>rw[Yd]at hz;simp only[Option.bind_some]at hz;simp[zeroValue,typeInfo,Yd,hz]
  cases hf:oo n ks cur.toList 0 with
  |none=>
   obtain⟨f1,f2⟩:=CR U4 hf;obtain⟨f3,_⟩:=f1 vs jB;refine⟨w,H,_,e ▸ k,hw,Ext.refl w H,.inl ⟨if c=true then .tuple #[z,.bool false]else z,?_,?_⟩⟩
   ·simp only[execOp,e1,e2];cases c<;>simp[Instr.lookup,run_underlying ht,MapKept.run_getObj_map hh,hK.yZ,V0,hf,hzr,Result.andThen]
   ·unfold oG;rw[f3];cases c
    ·exact .raw _
    ·exact .aQ _ _ rfl fun i a v ha hv=>by
      match i with
      |0=>simp at ha hv;subst ha hv;exact .raw _
      |1=>simp at ha hv;subst ha hv;exact .raw _
      |i+2=>simp at ha
  |some jv=>
   obtain⟨j,v0⟩:=jv;obtain⟨k0,rfl,f2,f3,f5,f4,f6⟩:=A1 hf;obtain⟨f7,_⟩:=f4 vs jB;have Vh:k0<vs.length:=jB;have hv0:ax w vs[k0] v0:=hr k0 _ v0 (List.getElem?_eq_getElem Vh) (by simpa using f2);refine⟨w,H,_,e ▸ k,hw,Ext.refl w H,.inl ⟨if c=true then .tuple #[v0,.bool true]else v0,?_,?_⟩⟩
   ·simp only[execOp,e1,e2];cases c<;>simp[Instr.lookup,run_underlying ht,MapKept.run_getObj_map hh,hK.yZ,V0,hf,Result.andThen]
   ·unfold oG;rw[f7,List.getElem?_eq_getElem Vh];cases c
    ·exact hv0
    ·exact .aQ _ _ rfl fun i a v ha hv=>by
      match i with
      |0=>simp at ha hv;subst ha hv;exact hv0
      |1=>simp at ha hv;subst ha hv;exact .raw _
      |i+2=>simp at ha
 |_=>rw[e1]at h1;cases h1
def qs(P:UY)(t:US):Option (Bool×US):=match P.underlying t with
 |some (.map k e)=>match P.underlying k with
  |some .string=>some (true,e)
  |some (.int .i64)=>some (false,e)
  |_=>none
 |_=>none
def GI{e:US}(h:qs P t=some (true,e)):∃k,P.underlying t=some (.map k e)/\kj P k Value.string:=by
 unfold qs at h;split at h
 ·rename_i k e' h1;split at h
  ·rename_i h2;cases h;exact⟨k,h1,Ue h2⟩
  ·cases h
  ·cases h
 ·cases h
def Hf{e:US}(h:qs P t=some (false,e)):∃k,P.underlying t=some (.map k e)/\kj P k (Value.int .i64):=by
 unfold qs at h;split at h
 ·rename_i k e' h1;split at h
  ·cases h
  ·rename_i h2;cases h;exact⟨k,h1,Qx h2⟩
  ·cases h
 ·cases h
def lb{ev:UT}{ok:Operand}{n:Int}(ks:UP)(hm0:qs P t=some (false,et))(k:q)(W9:op=.insert t om ok ox\/op=.mapUpdate t om ok ox:=by first|exact Or.inl rfl|exact Or.inr rfl)
  (hm:ev om=.mr i:=by rfl) (hk:ev ok=.raw (.int .i64 n):=by rfl) (hi:H.get i=some (.mp (ks.map (Value.int .i64)) vs):=by first|rfl|exact dD) (e:K .any (H.put i (.mp ((np n ks).map (Value.int .i64)) (nh n (ev ox) ks vs)))=q:=by exact fm):jV P op ty ev H K:=by
 obtain⟨kt,h1,h2⟩:=Hf hm0;exact Fo W9 h2 h1 hm hk rfl hi k e
def u6{ev:UT}{ok:Operand}{n:UR}(ks:List UR)(hm0:qs P t=some (true,et))(k:q)(W9:op=.insert t om ok ox\/op=.mapUpdate t om ok ox:=by first|exact Or.inl rfl|exact Or.inr rfl)
  (hm:ev om=.mr i:=by rfl) (hk:ev ok=.raw (.string n):=by rfl) (hi:H.get i=some (.mp (ks.map Value.string) vs):=by first|rfl|exact dD) (e:K .any (H.put i (.mp ((np n ks).map Value.string) (nh n (ev ox) ks vs)))=q:=by exact fm):jV P op ty ev H K:=by
 obtain⟨kt,h1,h2⟩:=GI hm0;exact Fo W9 h2 h1 hm hk rfl hi k e
def zq{ev:UT}{c:Bool}{n:Int}(ks:UP)(z:Value)(r:AV)(hm0:qs P t=some (false,et))(hz:(P.info? et).bind (·.zero)=some z)(hr:oG n ks vs (.raw z) c=r)(k:q)
  (hm:ev om=.mr i:=by rfl) (hk:ev ox=.raw (.int .i64 n):=by rfl) (hi:H.get i=some (.mp (ks.map (Value.int .i64)) vs):=by first|rfl|exact dD) (e:K r H=q:=by exact fm):jV P (.lookup t om ox c) ty ev H K:=by
 obtain⟨kt,h1,h2⟩:=Hf hm0;exact HJ h2 h1 hz hm hk hi k (hr ▸ e)
def p4{ev:UT}{c:Bool}{n:UR}(ks:List UR)(z:Value)(r:AV)(hm0:qs P t=some (true,et))(hz:(P.info? et).bind (·.zero)=some z)(hr:oG n ks vs (.raw z) c=r)(k:q)
  (hm:ev om=.mr i:=by rfl) (hk:ev ox=.raw (.string n):=by rfl) (hi:H.get i=some (.mp (ks.map Value.string) vs):=by first|rfl|exact dD) (e:K r H=q:=by exact fm):jV P (.lookup t om ox c) ty ev H K:=by
 obtain⟨kt,h1,h2⟩:=GI hm0;exact HJ h2 h1 hz hm hk hi k (hr ▸ e)
@[go_sem] def j2P{ev:UT}(t:US)(r:Option Operand):vc P ev H ty K (.makeMap t r)=jV P (.makeMap t r) ty ev H K:=by simp[vc,dt]
@[go_sem] def j5G{ev:UT}(t:US)(m k x:Operand):vc P ev H ty K (.insert t m k x)=jV P (.insert t m k x) ty ev H K:=by simp[vc,dt]
@[go_sem] def j5I{ev:UT}(t:US)(m k:Operand)(c:Bool):vc P ev H ty K (.lookup t m k c)=jV P (.lookup t m k c) ty ev H K:=by simp[vc,dt]
end
attribute [go_sem] nh np
-- what is new, in regions that leave their order open
section
variable {P:UY}{A:AS}{ev:UT}{H:Hp}
variable{K:UJ}
@[go_sem] def j7o(t:US)(l c:Operand):uG P A ev H K (.makeSlice t l c)=jV P (.makeSlice t l c) 0 ev H (AP (fun r H'=>eQ A H H'/\K r H') .mk):=(rfl)
variable{q:Prop}
def vn(i:Nat){t:US}{sz:Nat}{css:UK}(k:q)(h0:0<sz:=by decide)(hi:H.get i=none:=by first|rfl|exact dD)(e:K (.rs i css.length sz css.length) (H.put i (.aG t sz css))=q:=by exact fm):tN t sz css H K:=IB i h0 hi (e ▸ k)
def Uq(i:Nat){t et:US}{sz n:Nat}{zs:UW}{l c:Operand}{f:UJ}{d:iy fun r H'=>eQ A H H'/\f r H'}(k:q)(hl:ev l=.raw (.int .i64 (n:Int)):=by rfl)(hc:ev c=.raw (.int .i64 (n:Int)):=by rfl)(ht:iu P t=some et:=by(simp only[go_sem];rfl))(hs:dh P et=some sz:=by(simp only[go_sem];rfl))(hz:dR P et=some zs:=by(simp only[go_sem];rfl))(Xl:zs.length=sz:=by rfl)(h0:0<sz:=by decide)(hr:room (ku P et) n:=by(simp only[go_sem];omega))(hi:H.get i=none:=by first|rfl|exact dD)
  (e:f (.rs i n sz n) (H.put i (.aG et sz (List.replicate n (zs.map .raw))))=q:=by exact fm):jV P (.makeSlice t l c) 0 ev H (AP (fun r H'=>eQ A H H'/\f r H') d):=
 SC (K:=AP (fun r H'=>eQ A H H'/\f r H') d) (q:=eQ A H (H.put i (.aG et sz (List.replicate n (zs.map .raw))))/\q) i ⟨eQ.put hi,k⟩ hl hc ht hs hz Xl h0 hr hi (by show(eQ A H _/\f _ _)=_;rw[e])
variable{l0:UL}
def RL(h4:oJ [] H l0)(h5:(ids l0).Nodup):eQ A H ⟨H.B,gx H.l l0⟩:=fun i r _ hi=>by
 left
 show aC (gx H.l l0) i=some r;rw[uR _ _ _ (fun _ _ _=>trivial) h5];cases e:aC l0 i with
 |none=>exact hi
 |some x=>
  rcases Am h4 i x e with h|h
  ·simp at h
  ·rw[hi]at h;cases h
def cN{f:FuncId}{args:UM}{g:UJ}{d:iy fun r H'=>eQ A H H'/\g r H'}{r0:AV}(hc:ab P f args [] fun r l'=>r=r0/\l'=l0)(k:q)(h0:aS P f=true:=by exact dD)(h2:aZ eJ args=true:=by exact dD)
 (h4:oJ [] H l0:=by exact dD) (h5:(ids l0).Nodup:=by exact dD) (e:g r0 ⟨H.B,gx H.l l0⟩=q:=by exact fm):fh P (.raw (.func (.func f) #[] #[])) args H (AP (fun r H'=>eQ A H H'/\g r H') d):=
 nQ h0 (wA (K:=AP (fun r H'=>eQ A H H'/\g r H') d) hc trivial (by simpa[ids]using h2) trivial h4 h5 ⟨RL h4 h5,e ▸ k⟩)
end
attribute [go_sem] p6
variable{cs:UM}
def Nj{w:NW}{H:Hp}(r:aJ w H){D:UX}{j:Nat}{ds:UM}(hj:H.get j=some (.var t cs))(hD:D j=false)(hv:bt D H cs ds)(hB:H.B.all (im D)=true)(hl:iO D (p6 H.l j)) :
  aJ (w.cU D) ⟨H.B,bg (fB D H.l) j (.var t ds)⟩/\fS w H (w.cU D) ⟨H.B,bg (fB D H.l) j (.var t ds)⟩:=by
 have VJ:∀k n,(w.cU D).nm k n=if D k=true then none else w.nm k n:=fun _ _=>rfl
 have gE:∀k,(Hp.mk H.B (bg (fB D H.l) j (.var t ds))).get k=if k=j then some (.var t ds)else if D k=true then none else H.get k:=fun k=>by show aC _ _=_;rw[bS,CC];rfl
 obtain⟨O',VL⟩:=hv.get;refine⟨{ rows:=fun k s hk=>?_,di:=fun k n z hz=>?_,inj:=fun k n k' n' b t s t' s' h1 h2=>?_,own:=fun k n b t s h=>?_,fin:=fun b hb=>r.fin b hb.1,cd:=r.cd.aY (pN w D) },{ pN w D with names:=fun k n z hq h=>?_,os:=rfl,tape:=rfl,output:=rfl,rest:=fun b hb hO hn=>⟨rfl,⟨hO,fun k n t s _=>hn k n t s⟩,fun k n t s h=>?_⟩,base:=rfl }⟩
 ·rw[gE]at hk;by_cases e:k=j
  ·subst e;rw[if_pos rfl]at hk;cases hk;obtain⟨h1,z,h2,h3⟩:=r.rows k _ hj;refine⟨trivial,z,by rw[VJ,if_neg (by rw[hD];decide)];exact h2,?_⟩;cases z with
   |nil=>obtain⟨e,sz,h⟩:=h3;cases h
   |«at» b T st=>
    obtain⟨g1,cur,g2,g3,g5⟩:=h3;refine⟨g1,cur,g2,⟨g3.1,by show ds.length<=T;rw[<-O'];exact g3.2⟩,fun i d v hd Vq=>?_⟩;have hi:i<cs.length:=by rw[O'];exact(List.getElem?_eq_some_iff.1 hd).1
    have hc:cs[i]?=some cs[i]:=List.getElem?_eq_getElem hi;exact(VL i _ d hc hd).sound r (g5 i _ v hc Vq)
  ·rw[if_neg e]at hk;split at hk
   ·cases hk
   ·rename_i e2;obtain⟨h1,z,h2,h3⟩:=r.rows k s hk;refine⟨h1,z,by rw[VJ,if_neg e2];exact h2,?_⟩;cases z with
    |nil=>exact h3
    |«at» b T st=>
     obtain⟨g1,cur,g2,g3,g5⟩:=h3;have Vk:aC (p6 H.l j) k=some s:=by rw[Bm,if_neg e];exact hk
     exact⟨g1,cur,g2,g3,fun i a v ha hv=>(g5 i a v ha hv).aY (pN w D) (lz (Du hl Vk (by simpa using e2)) ha)⟩
 ·rw[VJ]at hz;split at hz
  ·cases hz
  ·rename_i e;obtain⟨s,h1,h2⟩:=r.di k n z hz;by_cases e2:k=j
   ·subst e2;rw[hj]at h1;cases h1;exact⟨.var t ds,by rw[gE,if_pos rfl],h2⟩
   ·exact⟨s,by rw[gE,if_neg e2,if_neg e];exact h1,h2⟩
 ·rw[VJ]at h1 h2;split at h1
  ·cases h1
  split at h2
  ·cases h2
  exact r.inj _ _ _ _ _ _ _ _ _ h1 h2
 ·rw[VJ]at h;split at h
  ·cases h
  rename_i e;refine⟨r.own _ _ _ _ _ h,fun i m t' s' hd h'=>?_⟩;have:=r.inj _ _ _ _ _ _ _ _ _ h h';subst this;exact e hd
 ·rw[VJ];have:=List.all_eq_true.1 hB k (List.contains_iff_mem.1 hq);unfold im at this;rw[if_neg (by intro e;rw[e]at this;cases this)];exact h
 ·rw[VJ]at h;split at h
  ·cases h
  ·exact hn k n t s h
variable{F:UM}
def dT.xG{F':UM}{H:Hp}(D:UX)(j:Nat)(ds:UM)(hj:H.get j=some (.var t cs))(hD:D j=false)(hc:bt D H cs ds)(hB:H.B.all (im D)=true)(hl:iO D (p6 H.l j))(hv:bt D H F F'):dT F H F' ⟨H.B,bg (fB D H.l) j (.var t ds)⟩:=fun w tm h1 h2=>by
 obtain⟨a,b⟩:=Nj h1 hj hD hc hB hl;obtain⟨Wk,hg⟩:=hv.get;refine⟨w.cU D,rfl,a,⟨by rw[<-Wk];exact h2.1,fun i c v hc hv=>?_⟩,b⟩;have hi:i<F.length:=by rw[Wk];exact(List.getElem?_eq_some_iff.1 hc).1
 exact(hg i F[i] c (List.getElem?_eq_getElem hi) hc).sound h1 (h2.2 i _ v (List.getElem?_eq_getElem hi) hv)
variable{Q:Exit->UI}
def PZ{P:UY}{id:Nat}{l:List Oper}{b:Bool}{H:Hp}(L:UQ)(j:Nat)(ds:UM)(W:List (Nat×Nat))(J:List (Nat×AV))(h:q)(h0:(L.any fun i=>(H.get i).isSome)=true:=by rfl)(hj:H.get j=some (.var t cs):=by rfl)(hD:(L.contains j)=false:=by rfl)(hc:bt (fun i=>L.contains i) H cs ds:=by exact jo)(hB:H.B.all (im fun i=>L.contains i)=true:=by exact dD)(hl:iO (fun i=>L.contains i) (p6 H.l j):=by exact dD)
 (hv:bt (fun i=>L.contains i) H F (mO J (nE W F)):=by exact jo) (e:dH P (.region id l.toArray b) Q (mO J (nE W F)) ⟨H.B,bg (fB (fun i=>L.contains i) H.l) j (.var t ds)⟩=q:=by exact fm):dH P (.region id l.toArray b) Q F H:=jW (dT.xG _ j ds hj hD hc hB hl hv) (e ▸ h)
-- calls under guards, that change things
def Gv(D:UQ):Option Tmp->Bool
 |some t=>D.contains t
 |none=>false
def Gz(P:UY)(ev:UT)(H:Hp)(K:UJ):Op->Prop
 |.call { callee:=.value f,args,.. }=>fh P (ev f) (args.toList.map ev) H K
 |_=>False
def iq(D:UQ)(P:UY)(ops:Array Oper)(K:UI):List Oper->UI
 |[],F,H=>K F H
 |o::rest,F,H=>match o.guard with
  |none=>vc P (cn F) H o.type (fun r H'=>iq D P ops K rest (cM F o.dst r) H') o.op
  |some (j,want)=>match ll ops F j want with
   |some b=>if(Gv D o.dst && iU o.op)=true then(b=true->gq F o.op=true/\Gz P (bG F) H (fun r H'=>iq D P ops K rest (cM F o.dst r) H') o.op)/\(b=false->iq D P ops K rest (cM F o.dst (.gd false (.raw (.bool false)))) H)
    else if iU o.op || iM o.op then eO P F H b (fun r=>iq D P ops K rest (cM F o.dst r) H) o.op
    else(b=true->vc P (cn F) H o.type (fun r H'=>iq D P ops K rest (cM F o.dst r) H') o.op)/\(b=false->iq D P ops K rest (cM F o.dst .any) H)
   |none=>False
section
variable {P:UY}{ops:Array Oper}
theorem wu{D:UQ}{K:UI}:∀(l:List Oper) (F:UM) (H:Hp),iq D P ops K l F H->oK P ops K l F H
 |[],F,H,h=>Ga h
 |o::rest,F,H,h=>by
  refine zk ?_;simp only[iq]at h;split at h
  ·rename_i hg;exact(pF (K:=fun F' H'=>iq D P ops K rest F' H') hg h).mono fun F' H' hk=>wu rest F' H' hk
  ·rename_i j want hg;split at h
   ·rename_i b hb;split at h
    ·rename_i hd;refine lK.mono (K:=fun F' H'=>iq D P ops K rest F' H') ?_ fun F' H' hk=>wu rest F' H' hk
     obtain⟨dst,op,ty,pos,after,guard⟩:=o;have hc:iU op=true:=by simp only[Bool.and_eq_true]at hd;exact hd.2
     cases op<;>first|(cases hc;done)|skip
     rename_i c;obtain⟨callee,args,ts⟩:=c;cases callee<;>first|(cases hc;done)|skip
     rename_i f;refine lF hg hb (fun Vi w tm Q next h1 h2 hn=>?_) (fun Vi=>⟨.gd false (.raw (.bool false)),ny rfl,h.2 Vi⟩);obtain⟨ok,Vp⟩:=h.1 Vi;have WN:=nP ok;have e1:gB F f=bG F f:=WN f (by simp[Op.operands,Call.operands]);have e2:args.toList.map (gB F)=args.toList.map (bG F):=List.map_congr_left fun x hx=>WN x (by simp[Op.operands,Call.operands]at hx ⊢;exact .inr hx)
     refine ug (ev:=gB F) e1 e2 Vp h1 (oI h2) fun v r' w' H' hR g1 g2 g3=>?_
     rw[Act.put_eq];exact hn _ w' _ H' hR g1 ((h2.ext g3).put dst g2 []) g3
    split at h
    ·refine lK.mono (K:=fun F' H'=>iq D P ops K rest F' H') ?_ fun F' H' hk=>wu rest F' H' hk
     obtain⟨dst,op,ty,pos,after,guard⟩:=o;unfold eO at h;split at h
     ·rename_i f args argTypes W6;cases W6;obtain⟨r,hc,hk⟩:=h;refine lF hg hb (fun Vi w tm Q next h1 h2 hn=>?_) (fun Vi=>⟨_,ny Vi,hk⟩);obtain⟨ok,Vp⟩:=hc Vi;have WN:=nP ok;have e1:gB F f=bG F f:=WN f (by simp[Op.operands,Call.operands]);have e2:args.toList.map (gB F)=args.toList.map (bG F):=List.map_congr_left fun x hx=>WN x (by simp[Op.operands,Call.operands]at hx ⊢;exact .inr hx)
      refine ug (ev:=gB F) e1 e2 Vp h1 (oI h2) fun v r' w' H' hR g1 g2 g3=>?_
      obtain⟨rfl,rfl⟩:=hR;rw[Act.put_eq];exact hn _ w' _ H' hk g1 ((h2.ext g3).put dst (ph Vi g2) []) g3
     ·rename_i f m args argTypes W6;cases W6;obtain⟨r,hc,hk⟩:=h;refine lF hg hb (fun Vi w tm Q next h1 h2 hn=>?_) (fun Vi=>⟨_,ny Vi,hk⟩);obtain⟨ok,Vp⟩:=hc Vi;have WN:=nP ok;have e1:gB F f=bG F f:=WN f (by simp[Op.operands,Call.operands]);have e2:args.toList.map (gB F)=args.toList.map (bG F):=List.map_congr_left fun x hx=>WN x (by simp[Op.operands,Call.operands]at hx ⊢;exact .inr hx)
      refine zj (ev:=gB F) e1 e2 Vp h1 (oI h2) fun v r' w' H' hR g1 g2 g3=>?_
      obtain⟨rfl,rfl⟩:=hR;rw[Act.put_eq];exact hn _ w' _ H' hk g1 ((h2.ext g3).put dst (ph Vi g2) []) g3
     ·rename_i c x y W6;simp only at W6;subst W6;obtain⟨hs,hk⟩:=h;refine lF hg hb (fun Vi w tm Q next h1 h2 hn=>?_) (fun Vi=>⟨_,ny Vi,hk⟩);obtain⟨ok,hq⟩:=hs Vi;obtain⟨v,B',hv⟩:=BL (P:=P) (ρ:=(Act.mk tm []).eval) (dst:=dst) (ty:=ty) (pos:=pos) (after:=after) (guard:=guard) (zg h2 c ok) (h2.eval [] x) (h2.eval [] y) hq;simp only[Oper.wp,B',Oper.upon];rw[Act.put_eq];exact hn _ w _ H hk h1 (h2.put dst (ph Vi hv) []) (Ext.refl w H)
     ·split at h
      ·obtain⟨hs,hk⟩:=h;refine lF hg hb (fun Vi w tm Q next h1 h2 hn=>?_) (fun Vi=>⟨_,ny Vi,hk⟩);obtain⟨ok,hq⟩:=hs Vi;rw[<-rY _ (nP ok)]at hq;obtain⟨v,B',hv⟩:=xS (ρ:=(Act.mk tm []).eval) ⟨dst,op,ty,pos,after,guard⟩ h1 (oI h2) hq;simp only[Oper.wp,B',Oper.upon];rw[Act.put_eq];rw[rY _ (nP ok)]at hv;exact hn _ w _ H hk h1 (h2.put dst (ph Vi hv) []) (Ext.refl w H)
      ·exact h.elim
    ·refine lK.mono (K:=fun F' H'=>iq D P ops K rest F' H') ?_ fun F' H' hk=>wu rest F' H' hk
     refine lF hg hb (fun Vi w tm Q next h1 h2 hn=>?_) (fun Vi=>⟨_,fun w=>.any _,h.2 Vi⟩);exact yf (h.1 Vi) h1 h2 (fun x=>h2.eval [] x) hn
   ·exact h.elim
end
section
variable {D:UQ}{P:UY}{ops:Array Oper}{K:UI}
@[go_sem] def j7y(F:UM)(H:Hp):iq D P ops K [] F H=K F H:=(rfl)
@[go_sem] def j5K(dst:Option Tmp)(op:Op)(ty:US)(pos:String)(after:Array Edge)(rest:List Oper)(F:UM)(H:Hp) :
  iq D P ops K (⟨dst,op,ty,pos,after,none⟩::rest) F H=vc P (cn F) H ty (AP (fun r H'=>iq D P ops K rest (cM F dst r) H') .mk) op:=(rfl)
def BM(P:UY)(F:UM)(H:Hp)(K:UJ):Op->Prop
 |.call { callee:=.value f,args,.. }=>((iT (cn F f)).1=true/\qj F args.toList)/\fh P (bG F f) (args.toList.map (bG F)) H K
 |_=>False
@[go_sem] def j5D{F:UM}{H:Hp}{K:UJ}(f:Operand)(zl:Array Operand)(ts:Array US):BM P F H K (.call ⟨.value f,zl,ts⟩)=(((iT (cn F f)).1=true/\qj F zl.toList)/\fh P (bG F f) (zl.toList.map (bG F)) H K):=(rfl)
def RK{F:UM}{H:Hp}{K:UJ}{op:Op}(h:iU op=true):(gq F op=true/\Gz P (bG F) H K op)=BM P F H K op:=by
 cases op<;>first|(cases h;done)|skip
 rename_i c;obtain⟨callee,args,ts⟩:=c;cases callee<;>first|(cases h;done)|skip
 rename_i f;rw[JZ];rfl
@[go_sem] def j2U(t:Nat)(op:Op)(ty:US)(pos:String)(after:Array Edge)(j:Nat)(want:Bool)(rest:List Oper)(F:UM)(H:Hp) :
  iq D P ops K (⟨some t,op,ty,pos,after,some (j,want)⟩::rest) F H=rG (ll ops F j want) (fun b=>pg (D.contains t && iU op)
   (sq b (BM P F H (AP (fun r H'=>iq D P ops K rest (cM F (some t) r) H') .mk) op) (iq D P ops K rest (cM F (some t) (.gd false (.raw (.bool false)))) H) .mk .mk)
   (pg (iU op || iM op) (eO P F H b (u7 (fun r=>iq D P ops K rest (cM F (some t) r) H) .mk) op)
    ((b=true->vc P (cn F) H ty (AP (fun r H'=>iq D P ops K rest (cM F (some t) r) H') .mk) op)/\(b=false->iq D P ops K rest (cM F (some t) .any) H)) .mk .mk) .mk .mk) .mk:=by
 conv=>lhs;unfold iq
 simp only;unfold rG pg sq Gv;cases ll ops F j want with
 |none=>rfl
 |some b=>
  simp only;by_cases hc:(D.contains t && iU op)=true
  ·rw[if_pos hc,if_pos hc];have hv:iU op=true:=by simp only[Bool.and_eq_true]at hc;exact hc.2
   rw[<-RK hv];rfl
  ·rw[if_neg hc,if_neg hc];rfl
end
def sS{P:UY}{id:Nat}{l:List Oper}{H:Hp}(D:UQ)(h:q)(e:iq D P l.toArray (Q .normal) l F H=q:=by exact fm):dH P (.region id l.toArray false) Q F H:=
 BU (by simpa using wu l F H (e ▸ h))
def bD{b:Bool}{X Y X' Y' pt pf:Prop}{d:iy X}{d':iy Y}(ht:pt->X')(hf:pf->Y')
 (et:(b=true)=pt:=by first|(simp only[Int.reduceEq,Int.reduceLE,Int.reduceLT,Int.reduceNe,false_and,and_false,true_and,and_true,or_false,false_or,true_or,or_true,Bool.false_eq_true,Bool.true_eq_false,eq_self,reduceCtorEq,Bool.not_true,Bool.not_false,Bool.and_eq_true,Bool.or_eq_true,Bool.and_eq_false_iff,Bool.or_eq_false_iff,decide_eq_true_eq,decide_eq_false_iff_not,Bool.not_eq_true',Bool.not_eq_false',Int.not_lt,Int.not_le];rfl)|rfl) (ef:(b=false)=pf:=by first|(simp only[Int.reduceEq,Int.reduceLE,Int.reduceLT,Int.reduceNe,false_and,and_false,true_and,and_true,or_false,false_or,true_or,or_true,Bool.false_eq_true,Bool.true_eq_false,eq_self,reduceCtorEq,Bool.not_true,Bool.not_false,Bool.and_eq_true,Bool.or_eq_true,Bool.and_eq_false_iff,Bool.or_eq_false_iff,decide_eq_true_eq,decide_eq_false_iff_not,Bool.not_eq_true',Bool.not_eq_false',Int.not_lt,Int.not_le];rfl)|rfl) (eX:X=X':=by exact fm) (eY:Y=Y':=by exact fm):sq b X Y d d':=⟨fun h=>eX ▸ ht (et ▸ h),fun h=>eY ▸ hf (ef ▸ h)⟩
def DQ(A:AS)(l0:UL):List U0->Prop
 |[]=>True
 |(i,r)::l=>(A.1.contains i=true\/aC l0 i=some r)/\DQ A l0 l
theorem Jm{A:AS}{l0:UL}:∀{l:UL},DQ A l0 l->∀{i:Nat},(ids l).contains i=true->A.1.contains i=true\/∃r,aC l i=some r/\aC l0 i=some r
 |[],_,i,h=>by simp[ids]at h
 |(j,r)::l,hk,i,h=>by
  by_cases e:i=j
  ·subst e;rcases hk.1 with g|g
   ·exact .inl g
   ·exact .inr ⟨r,by simp[aC],g⟩
  ·have h:(ids l).contains i=true:=by
    simp only[ids,List.map_cons,List.contains_cons,Bool.or_eq_true,beq_iff_eq]at h;rcases h with h|h
    ·exact(e h).elim
    ·exact h
   rcases Jm hk.2 h with g|⟨s,g1,g2⟩
   ·exact .inl g
   ·exact .inr ⟨s,by simp only[aC,if_neg e];exact g1,g2⟩
def Jf{P:UY}{A:AS}{H:Hp}{f:FuncId}{args:UM}{g:UJ}{d:iy fun r H'=>eQ A H H'/\g r H'}{l0:UL}{r0:AV}(hc:ab P f args l fun r l'=>r=r0/\l'=l0)(k:q)(hA:DQ A l0 l:=by(repeat' (first|exact jI|exact Or.inl rfl|exact Or.inr rfl|refine jA ?_ ?_)))(h1:rP l H:=by exact dD)(h0:aS P f=true:=by exact dD)(h2:aZ (fun i=>(ids l).contains i) args=true:=by exact dD)(h3:rK (fun i=>(ids l).contains i) l:=by exact dD)
 (h4:oJ (ids l) H l0:=by exact dD) (h5:(ids l0).Nodup:=by exact dD) (e:g r0 ⟨H.B,gx H.l l0⟩=q:=by exact fm):fh P (.raw (.func (.func f) #[] #[])) args H (AP (fun r H'=>eQ A H H'/\g r H') d):=
 have hx:eQ A H ⟨H.B,gx H.l l0⟩:=fun i r hi hr=>by
  left
  show aC (gx H.l l0) i=some r;rw[uR _ _ _ (fun _ _ _=>trivial) h5];cases e':aC l0 i with|none=>exact hr|some x=>
   rcases Am h4 i x e' with h|h
   ·rcases Jm hA h with g|⟨s,g1,g2⟩
    ·rw[g]at hi;cases hi
    ·rw[g2]at e';cases e';rw[DC h1 i _ g1]at hr;cases hr;rfl
   ·rw[hr]at h;cases h
 nQ h0 (wA (K:=AP (fun r H'=>eQ A H H'/\g r H') d) hc h1 h2 h3 h4 h5 ⟨hx,e ▸ k⟩)
variable {P:UY}{H:Hp}
def Np{e:US}{d:Nat}{x:AV}{c:Prop}{css ys:UK}(k:q)(hd:H.get d=some (.aG e sz css):=by(simp(disch:=first|omega|assumption|fail) only[go_sem,sC,↓reduceIte,Int.reduceEq,Int.reduceLE,Int.reduceLT,Int.reduceNe,Int.reduceToNat,Nat.reduceMul,Nat.reduceAdd,Nat.reduceLeDiff,Nat.reduceSub,Nat.reduceEqDiff,Nat.reduceBEq,List.nodup_cons,List.nodup_nil,List.mem_cons,List.not_mem_nil,List.mem_nil_iff];first|rfl|exact⟨rfl,rfl⟩|exact⟨rfl,rfl,rfl⟩))(ht:iu P t=some e:=by first|(simp only[go_sem];done)|(simp only[go_sem];rfl))(Wz:dh P e=some sz:=by(simp only[go_sem];done))(Yn:dR P e=some zs:=by first|(simp only[go_sem];done)|(simp only[go_sem];rfl))(Xl:zs.length=sz:=by rfl)(h0:0<sz:=by decide)(hn:css.length=n:=by first|rfl|exact List.length_replicate|exact dD)(Xq:ur H x=some (c,ys):=by rfl)(hc:c:=by trivial)(hg:Good sz ys:=by exact dD)(YV:ys.length<=n:=by first|assumption|(simp only[List.length_map];omega)|exact dD)
  (he:K (.raw (.int .i64 (ys.length:Nat))) (H.put d (.aG e sz (dz css 0 ys)))=q:=by exact fm):pO P .copy [t,t] [.rs d n sz n,x] H K:=by
 subst hn;have hk:=he ▸ k;intro w vs ty cs hw hr;obtain⟨vd,vx,rfl⟩:∃vd vx,vs=[vd,vx]:=by
  have:=hr.1;match vs,this with
  |[vd,vx],_=>exact⟨vd,vx,rfl⟩
 have hu:=sW ht;obtain⟨i,z,hi,Vt,Xd,YA,YQ⟩:=tW Wz Yn Xl;obtain⟨A',cx,news,rfl,Vv,V7⟩:=Au hw (hr.2 1 _ vx rfl rfl) Xq hc hg;have W7:ax w (.rs d css.length sz css.length) vd:=hr.2 0 _ vd rfl rfl;have Wb:ys.flatten.length=ys.length*sz:=gp fun y hy=>(hg y hy).1
 have WS:news.length=ys.length*sz:=by rw[<-Vv.1,Wb]
 have WD:cQ ys.flatten=true:=by simp only[cQ,List.all_eq_true];intro u Yo;obtain⟨y,hy,Zf⟩:=List.mem_flatten.1 Yo;have:=(hg y hy).2;simp only[cQ,List.all_eq_true]at this;exact this u Zf
 have hf:(Builtin.firstCells i.size ys.length (.slice A' ys.length cx)).run P w.toWorld=.ok news.toArray w.toWorld:=by
  by_cases h0:ys.length=0
  ·have:news=[]:=by have:=WS;rw[h0,Nat.zero_mul]at this;simpa using this
   subst this;rw[h0];cases A'<;>simp[Builtin.firstCells,loadCells,loadCellsFrom]
  ·obtain⟨ad,rfl,D'⟩:=V7 jB;exact run_firstCells_some (P:=P) w.toWorld i.size ys.length ad ys.length cx news (by rw[Vt];exact WS) D'
 rw[Vt]at hf;have hok:=(hw.rows d _ hd).1;have Vm:∀cs∈dz css 0 ys,cs.length=sz:=fun cs h=>by
  unfold dz at h;rcases List.mem_append.1 h with h|h
  ·rcases List.mem_append.1 h with h|h
   ·exact hok.2 _ (List.mem_of_mem_take h)
   ·exact(hg cs h).1
  ·exact hok.2 _ (List.mem_of_mem_drop h)
 have WY:=gp hok.2;have Ve:=uQ (css:=css) ys (Nat.zero_le _);have hmn:Nat.min ys.length css.length=ys.length:=Nat.min_eq_left YV;generalize hN:css.length=N at W7;cases W7 with
 |iN _ _ _ A Vd=>
  have YW:ys=[]:=List.length_eq_zero_iff.1 jB;subst YW;refine⟨w,_,_,.int .i64 0,?_,hk,?_,.raw _,?_⟩
  ·have YE:news=[]:=by simpa using WS
   subst YE;have hN':Nat.min ([]:UK).length 0=0:=rfl;have hf:(Builtin.firstCells sz 0 (.slice A' 0 cx)).run P w.toWorld=.ok #[] w.toWorld:=hf;cases A<;>simp[builtin,Builtin.copy_,run_underlying hu,Builtin.lenOf,sizeOf,typeInfo,hi,Vt,hf,storeCells,goInt]
  ·refine{ hw with rows:=fun j r hj=>?_,di:=fun j q z hz=>?_ }
   ·rw[Hp.bk]at hj;split at hj
    ·rename_i e;subst e;exact hw.rows j r (by rw[hd];exact hj)
    ·exact hw.rows j r hj
   ·rw[Hp.bk];split
    ·rename_i e;subst e;obtain⟨r,g1,g2⟩:=hw.di j q z hz;rw[hd]at g1;cases g1;exact⟨_,rfl,g2⟩
    ·exact hw.di j q z hz
  ·exact{ Ext.refl w H with base:=rfl }
 |rs _ _ _ _ b t' cap Vd Wt U6 Wp=>
  subst hN;obtain⟨_,z',Vz,Vg⟩:=hw.rows d _ hd;have:z'=.at b t' sz:=by have Vz:w.nm d css.length=some z':=Vz;rw[Vd]at Vz;cases Vz;rfl
  subst this;obtain⟨_,cur,hh,⟨VV,U4⟩,Xr⟩:=Vg;have U4:css.flatten.length<=t':=U4;have XU:css.length<=cap:=by rw[WY,<-Wt]at U4;exact Nat.le_of_mul_le_mul_right U4 h0
  have Wo:0+ys.flatten.length<=t':=by rw[Wb,Nat.zero_add,<-Wt];exact Nat.mul_le_mul_right _ (Nat.le_trans YV XU)
  obtain⟨w',B',g1,g2,g3⟩:=sx (P:=P) (off:=0) (r':=.aG e sz (dz css 0 ys)) hw hd Vd Vv WD Wo rfl rfl rfl rfl (by show css.length<=(dz css 0 ys).length;rw[Ve];omega) ⟨h0,Vm⟩ (by show(dz css 0 ys).flatten.length<=t';rw[gp Vm,Ve,<-Wt];exact Nat.mul_le_mul_right _ (Nat.max_le.2 ⟨XU,jB⟩)) (fun p u hp=>by
   have hp:(dz css 0 ys).flatten[p]?=some u:=hp;unfold dz at hp;rw[List.flatten_append,List.flatten_append]at hp;show if _ then _ else css.flatten[p]?=some u
   simp only[List.take_zero,List.flatten_nil,List.nil_append,Nat.zero_add]at hp;rcases Nat.lt_or_ge p (0+ys.flatten.length)with h'|h'
   ·rw[if_pos ⟨Nat.zero_le _,h'⟩];rw[List.getElem?_append_left jB]at hp;exact hp
   ·rw[jN];rw[List.getElem?_append_right jB]at hp;have e2:css.flatten=(css.take ys.length).flatten++(css.drop ys.length).flatten:=by rw[<-List.flatten_append,List.take_append_drop]
    have e3:(css.take ys.length).flatten.length=ys.flatten.length:=by rw[gp fun c hc=>hok.2 c (List.mem_of_mem_take hc),List.length_take,Nat.min_eq_left YV,Wb]
    rw[e2,List.getElem?_append_right jB,e3];exact hp)
  refine⟨w',_,_,.int .i64 ys.length,?_,hk,g1,.raw _,g2⟩;simp[builtin,Builtin.copy_,run_underlying hu,Builtin.lenOf,sizeOf,typeInfo,hi,Vt,hmn,hf,B',goInt]
mutual
def AV.bT(f:Nat->Nat):AV->AV
 |.raw v=>.raw v
 |.any=>.any
 |.agg cs=>.agg (fj f cs)
 |.aQ cs=>.aQ (fj f cs)
 |.sl x sz css d=>.sl x sz css d
 |.ip cs=>.ip cs
 |.gd p v=>.gd p (v.bT f)
 |.dW g cs=>.dW g (fj f cs)
 |.pt i m k j=>.pt (f i) m k j
 |.rs i m sz n=>.rs (f i) m sz n
 |.rc i m sz n=>.rc (f i) m sz n
 |.rv i m sz o n=>.rv (f i) m sz o n
 |.mr i=>.mr (f i)
 |.bd g fs=>.bd g (fj f fs)
 |.iQ t v=>.iQ t (v.bT f)
 |.mv m v=>.mv m (v.bT f)
def fj(f:Nat->Nat):UM->UM
 |[]=>[]
 |a::l=>a.bT f::fj f l
end
theorem pc(f:Nat->Nat):∀(l:UM) (i:Nat),(fj f l)[i]?=(l[i]?).map (AV.bT f)
 |[],i=>by simp[fj]
 |a::l,0=>by simp[fj]
 |a::l,i+1=>by simp only[fj,List.getElem?_cons_succ];exact pc f l i
theorem mD(f:Nat->Nat):∀l:UM,(fj f l).length=l.length
 |[]=>rfl
 |a::l=>by simp only[fj,List.length_cons,mD f l]
theorem El(f:Nat->Nat):∀l m:UM,fj f (l++m)=fj f l++fj f m
 |[],m=>rfl
 |a::l,m=>by simp only[List.cons_append,fj,El f l m]
def Row.bT(f:Nat->Nat):Row->Row
 |.var t cs=>.var t (fj f cs)
 |.aG e sz css=>.aG e sz (css.map (fj f))
 |.mp ks vs=>.mp ks (fj f vs)
def Row.jT(f:Nat->Nat)(r:Row):(r.bT f).fW=r.fW:=by cases r<;>simp[Row.bT,Row.fW]
def Row.ko(f:Nat->Nat)(r:Row):(r.bT f).bB=r.bB:=by cases r<;>rfl
def Row.gT(f:Nat->Nat)(r:Row):(r.bT f).cells=fj f r.cells:=by
 cases r with
 |var t cs=>rfl
 |aG e sz css=>
  show(css.map (fj f)).flatten=fj f css.flatten;induction css with
  |nil=>rfl
  |cons c css ih=>simp only[List.map_cons,List.flatten_cons,ih,El]
 |mp ks vs=>rfl
def Row.ob(f:Nat->Nat)(r:Row)(cur:UU):(r.bT f).obj cur=r.obj cur:=by cases r<;>rfl
def Row.og(f:Nat->Nat)(r:Row)(n t:Nat):(r.bT f).fit n t=r.fit n t:=by
 have h:=r.gT f;cases r with
 |var ty cs=> show(n=t/\(Row.var ty (fj f cs)).cells.length<=t)=_;have h:(Row.var ty (fj f cs)).cells=fj f (Row.var ty cs).cells:=h;rw[h,mD];rfl
 |aG e sz css=> show(n=t/\(Row.aG e sz (css.map (fj f))).cells.length<=t)=_;have h:(Row.aG e sz (css.map (fj f))).cells=fj f (Row.aG e sz css).cells:=h;rw[h,mD];rfl
 |mp ks vs=>show(n=(fj f vs).length)=_;rw[mD];rfl
variable{f:Nat->Nat}{r:Row}
def Row.uh(h:r.ok):(r.bT f).ok:=by
 cases r with
 |var t cs=>trivial
 |aG e sz css=> refine⟨h.1,fun cs VV=>?_⟩;obtain⟨c,hc,rfl⟩:=List.mem_map.1 VV;rw[mD];exact h.2 c hc
 |mp ks vs=>show ks.length=(fj f vs).length;rw[mD];exact h
def lp(f:Nat->Nat)(l:UL):UL:=l.map fun x=>(f x.1,x.2.bT f)
def zC(f:Nat->Nat)(l:UL):ids (lp f l)=(ids l).map f:=by unfold ids lp;simp[List.map_map,Function.comp_def]
theorem Al{f g:Nat->Nat}(hf:∀i,g (f i)=i):∀(l:UL) (i:Nat),aC (lp f l) (f i)=(aC l i).map (Row.bT f)
 |[],i=>rfl
 |(j,r)::l,i=>by
  show(if f i=f j then some (r.bT f)else aC (lp f l) (f i))=((if i=j then some r else aC l i):Option Row).map _;by_cases h:i=j
  ·subst h;rw[if_pos rfl,if_pos rfl];rfl
  ·rw[if_neg h,if_neg (fun e=>h (by rw[<-hf i,<-hf j,e])),Al hf l i]
variable{l:UL}{j:Nat}
def wL{g:Nat->Nat}(hf:∀i,g (f i)=i)(h:aC (lp f l) j=some r):∃i r0,j=f i/\r=r0.bT f/\aC l i=some r0:=by
 induction l with
 |nil=>cases h
 |cons x l ih=>
  obtain⟨k,s⟩:=x;have h:(if j=f k then some (s.bT f)else aC (lp f l) j)=some r:=h;by_cases e:j=f k
  ·rw[if_pos e]at h;cases h;exact⟨k,s,e,rfl,by simp[aC]⟩
  ·rw[if_neg e]at h;obtain⟨i,r0,h1,h2,h3⟩:=ih h;refine⟨i,r0,h1,h2,?_⟩;show(if i=k then some s else aC l i)=_;rw[if_neg (fun e'=>e (by rw[h1,e']))];exact h3
@[reducible] def NW.pull(f:Nat->Nat)(w:NW):NW:={ w with nm:=fun i m=>w.nm (f i) m }
@[reducible] def NW.push(f g:Nat->Nat)(w:NW):NW:={ w with nm:=fun j m=>if f (g j)=j then w.nm (g j) m else none }
def NW.ot{g:Nat->Nat}(hf:∀i,g (f i)=i)(w:NW):(w.push f g).pull f=w:=by
 obtain⟨W,O,nm⟩:=w;show NW.mk W O _=NW.mk W O nm;congr 1
 funext i m
 show(if f (g (f i))=f i then nm (g (f i)) m else none)=nm i m;rw[hf,if_pos rfl]
def Ir{a:AV}{v:Value}{w0:NW}(h:ax w0 a v):∀w:NW,w0=w.pull f->ax w (a.bT f) v:=by
 induction h with
 |raw v=>intro w e;simp only[AV.bT];exact .raw v
 |any v=>intro w e;simp only[AV.bT];exact .any v
 |agg cs vs hl _ ih=>
  intro w e;simp only[AV.bT];refine .agg _ vs (by rw[mD];exact hl) fun i a v h1 h2=>?_
  rw[pc]at h1;cases hc:cs[i]? with
  |none=>rw[hc]at h1;cases h1
  |some b=>rw[hc]at h1;cases h1;exact ih i b v hc h2 w e
 |aQ cs vs hl _ ih=>
  intro w e;simp only[AV.bT];refine .aQ _ vs (by rw[mD];exact hl) fun i a v h1 h2=>?_
  rw[pc]at h1;cases hc:cs[i]? with
  |none=>rw[hc]at h1;cases h1
  |some b=>rw[hc]at h1;cases h1;exact ih i b v hc h2 w e
 |gz x sz A c hx=>intro w e;simp only[AV.bT];exact .gz x sz A c hx
 |sl x sz css a c vs hn hc hx U' hb hH D' V3 _=>intro w e;subst e;simp only[AV.bT];exact .sl x sz css a c vs hn hc hx U' hb hH D' V3
 |ip cs a vs hb hH D' V3 _=>intro w e;subst e;simp only[AV.bT];exact .ip cs a vs hb hH D' V3
 |gd p a v _ hu ih=>intro w e;simp only[AV.bT];exact .gd p _ v (fun hp=>ih hp w e) hu
 |dW g cs vs hl _ ih=>
  intro w e;simp only[AV.bT];refine .dW g _ vs (by rw[mD];exact hl) fun i a v h1 h2=>?_
  rw[pc]at h1;cases hc:cs[i]? with
  |none=>rw[hc]at h1;cases h1
  |some b=>rw[hc]at h1;cases h1;exact ih i b v hc h2 w e
 |pt i m k j b t s h=>intro w e;subst e;simp only[AV.bT];exact .pt (f i) m k j b t s h
 |iN i m sz A h=>intro w e;subst e;simp only[AV.bT];exact .iN (f i) m sz A h
 |rs i m sz n b t c h hc hn hs=>intro w e;subst e;simp only[AV.bT];exact .rs (f i) m sz n b t c h hc hn hs
 |rc i m sz n b t h hc hn hs=>intro w e;subst e;simp only[AV.bT];exact .rc (f i) m sz n b t h hc hn hs
 |jx i m sz o c A=>intro w e;simp only[AV.bT];exact .jx (f i) m sz o c A
 |rv i m sz o n b t c h hn=>intro w e;subst e;simp only[AV.bT];exact .rv (f i) m sz o n b t c h hn
 |mr i b t s h=>intro w e;subst e;simp only[AV.bT];exact .mr (f i) b t s h
 |bd g fs vs hl _ ih=>
  intro w e;simp only[AV.bT];refine .bd g _ vs (by rw[mD];exact hl) fun i a v h1 h2=>?_
  rw[pc]at h1;cases hc:fs[i]? with
  |none=>rw[hc]at h1;cases h1
  |some b=>rw[hc]at h1;cases h1;exact ih i b v hc h2 w e
 |iQ t a v _ ih=>intro w e;simp only[AV.bT];exact .iQ t _ v (ih w e)
 |mv m a v _ ih=>intro w e;simp only[AV.bT];exact .mv m _ v (ih w e)
mutual
theorem uU{f:Nat->Nat}{w:NW}:∀(a:AV) (v:Value),ax w (a.bT f) v->ax (w.pull f) a v
 |.raw x,v,h=>by simp only[AV.bT]at h;cases h;exact .raw _
 |.any,v,h=>.any v
 |.agg cs,v,h=>by
  simp only[AV.bT]at h;cases h with
  |agg _ vs hl hh=>exact .agg cs vs (by rw[mD]at hl;exact hl) fun i a u h1 h2=>xW cs i a h1 u (hh i _ u (by rw[pc,h1];rfl) h2)
 |.aQ cs,v,h=>by
  simp only[AV.bT]at h;cases h with
  |aQ _ vs hl hh=>exact .aQ cs vs (by rw[mD]at hl;exact hl) fun i a u h1 h2=>xW cs i a h1 u (hh i _ u (by rw[pc,h1];rfl) h2)
 |.sl x sz css d,v,h=>by
  simp only[AV.bT]at h;cases h with
  |gz _ _ A c hx=>exact .gz x sz A c hx
  |sl _ _ _ a c vs hn hc hx U' hb hH D' V3=>exact .sl x sz css a c vs hn hc hx U' hb hH D' V3
 |.ip cs,v,h=>by
  simp only[AV.bT]at h;cases h with
  |ip _ a vs hb hH D' V3=>exact .ip cs a vs hb hH D' V3
 |.gd p x,v,h=>by
  simp only[AV.bT]at h;cases h with
  |gd _ _ _ h1 hu=>exact .gd p x v (fun hp=>uU x v (h1 hp)) hu
 |.dW g cs,v,h=>by
  simp only[AV.bT]at h;cases h with
  |dW _ _ vs hl hh=>exact .dW g cs vs (by rw[mD]at hl;exact hl) fun i a u h1 h2=>xW cs i a h1 u (hh i _ u (by rw[pc,h1];rfl) h2)
 |.pt i m k j,v,h=>by
  simp only[AV.bT]at h;cases h with
  |pt _ _ _ _ b t s hn=>exact .pt i m k j b t s hn
 |.rs i m sz n,v,h=>by
  simp only[AV.bT]at h;cases h with
  |iN _ _ _ A hn=>exact .iN i m sz A hn
  |rs _ _ _ _ b t c hn h1 h2 h3=>exact .rs i m sz n b t c hn h1 h2 h3
 |.rc i m sz n,v,h=>by
  simp only[AV.bT]at h;cases h with
  |rc _ _ _ _ b t hn h1 h2 h3=>exact .rc i m sz n b t hn h1 h2 h3
 |.rv i m sz o n,v,h=>by
  simp only[AV.bT]at h;cases h with
  |jx _ _ _ _ c A=>exact .jx i m sz o c A
  |rv _ _ _ _ _ b t c hn h1=>exact .rv i m sz o n b t c hn h1
 |.mr i,v,h=>by
  simp only[AV.bT]at h;cases h with
  |mr _ b t s hn=>exact .mr i b t s hn
 |.bd g fs,v,h=>by
  simp only[AV.bT]at h;cases h with
  |bd _ _ vs hl hh=>exact .bd g fs vs (by rw[mD]at hl;exact hl) fun i a u h1 h2=>xW fs i a h1 u (hh i _ u (by rw[pc,h1];rfl) h2)
 |.iQ t x,v,h=>by
  simp only[AV.bT]at h;cases h with
  |iQ _ _ u h1=>exact .iQ t x u (uU x u h1)
 |.mv m x,v,h=>by
  simp only[AV.bT]at h;cases h with
  |mv _ _ u h1=>exact .mv m x u (uU x u h1)
theorem xW{f:Nat->Nat}{w:NW}:∀(l:UM) (i:Nat) (a:AV),l[i]?=some a->∀v,ax w (a.bT f) v->ax (w.pull f) a v
 |[],i,a,h,v,hv=>by simp at h
 |x::l,0,a,h,v,hv=>by
  have e:x=a:=by simpa using h
  rw[<-e]at hv ⊢;exact uU x v hv
 |x::l,i+1,a,h,v,hv=>xW l i a (by simpa using h) v hv
end
variable{w:NW}
def PN{z:Rz}(h:gJ (w.pull f) r z):gJ w (r.bT f) z:=by
 cases z with
 |nil=> obtain⟨e,sz,rfl⟩:=h;exact⟨e,sz,rfl⟩
 |«at» b t s=>
  obtain⟨h1,cur,h2,h3,h4⟩:=h;refine⟨h1.trans (r.ko f).symm,cur,by rw[Row.ob];exact h2,by rw[Row.og];exact h3,fun i a v h5 h6=>?_⟩;rw[Row.gT,pc]at h5;cases hc:r.cells[i]? with
  |none=>rw[hc]at h5;cases h5
  |some c=>rw[hc]at h5;cases h5;exact Ir (h4 i c v hc h6) w rfl
def KD{z:Rz}(h:gJ w (r.bT f) z):gJ (w.pull f) r z:=by
 cases z with
 |nil=>
  obtain⟨e,sz,h⟩:=h;cases r with
  |var t cs=>cases h
  |aG e' sz' css=>
   have h:Row.aG e' sz' (css.map (fj f))=Row.aG e sz []:=h;cases css with
   |nil=>exact⟨e',sz',rfl⟩
   |cons c css=>cases h
  |mp ks vs=>cases h
 |«at» b t s=> obtain⟨h1,cur,h2,h3,h4⟩:=h;rw[Row.ob]at h2;rw[Row.og]at h3;refine⟨h1.trans (r.ko f),cur,h2,h3,fun i a v h5 h6=>?_⟩;exact uU a v (h4 i (a.bT f) v (by rw[Row.gT,pc,h5];rfl) h6)
theorem ab.bT{P:UY}{fn:FuncId}{args:UM}{l:UL}{R:AV->List U0->Prop}{f g:Nat->Nat}(hf:∀i,g (f i)=i)(hc:ab P fn args l R) :
  ab P fn (fj f args) (lp f l) fun r l'=>∃r0 l0,r=AV.bT f r0/\l'=lp f l0/\R r0 l0:=fun w vs hw hv=>by
 have inj:∀{i j},f i=f j->i=j:=fun{i j} e=>by rw[<-hf i,<-hf j,e]
 have hW:aJ (w.pull f) (entry l):={
  cd:=hw.cd
  rows:=fun i r hi=>by
   have hi:aC l i=some r:=hi;obtain⟨h1,z,h2,h3⟩:=hw.rows (f i) (r.bT f) (by show aC (lp f l) (f i)=_;rw[Al hf,hi];rfl);refine⟨?_,z,by rw[Row.jT]at h2;exact h2,KD h3⟩;cases r with
   |var t cs=>trivial
   |aG e sz css=>exact⟨h1.1,fun cs VV=>by have:=h1.2 (fj f cs) (List.mem_map_of_mem VV);rw[mD]at this;exact this⟩
   |mp ks vs=>have h1:ks.length=(fj f vs).length:=h1;rw[mD]at h1;exact h1
  di:=fun i m z h=>by obtain⟨r,h1,h2⟩:=hw.di (f i) m z h;obtain⟨i',r0,e1,rfl,e3⟩:=wL hf h1;cases inj e1;exact⟨r0,e3,by rw[Row.jT]at h2;exact h2⟩
  inj:=fun i m j n b t s t' s' h1 h2=>inj (hw.inj _ _ _ _ _ _ _ _ _ h1 h2)
  own:=fun i m b t s h=>hw.own _ _ _ _ _ h
  fin:=hw.fin }
 have hV:bs (w.pull f) args vs:=⟨by have:=hv.1;rw[mD]at this;exact this,fun i a v h1 h2=>uU a v (hv.2 i _ v (by rw[pc,h1];rfl) h2)⟩;refine(hc (w.pull f) vs hW hV).mono ?_;rintro e W ⟨v,r,H',w',rfl,rfl,hR,h1,h2,h3⟩;have hp:=NW.ot hf w';refine⟨v,r.bT f,⟨H'.B.map f,lp f H'.l⟩,w'.push f g,rfl,rfl,⟨r,H'.l,rfl,rfl,hR⟩,?_,?_,?_⟩
 ·exact{
   cd:=h1.cd
   rows:=fun j r hj=>by obtain⟨i,r0,rfl,rfl,e3⟩:=wL hf hj;obtain⟨k1,z,k2,k3⟩:=h1.rows i r0 e3;refine⟨Row.uh k1,z,?_,PN (w:=w'.push f g) (by rw[hp];exact k3)⟩;show(if f (g (f i))=f i then w'.nm (g (f i)) (r0.bT f).fW else none)=some z;rw[hf,if_pos rfl,Row.jT];exact k2
   di:=fun j m z h=>by
    have h:(if f (g j)=j then w'.nm (g j) m else none)=some z:=h;split at h
    ·rename_i e;obtain⟨r0,k1,k2⟩:=h1.di _ _ _ h;refine⟨r0.bT f,?_,by rw[Row.jT];exact k2⟩;show aC (lp f H'.l) j=_;rw[<-e,Al hf];have k1:aC H'.l (g j)=some r0:=k1;rw[k1];rfl
    ·cases h
   inj:=fun i m j n b t s t' s' k1 k2=>by
    have k1:(if f (g i)=i then w'.nm (g i) m else none)=some _:=k1;have k2:(if f (g j)=j then w'.nm (g j) n else none)=some _:=k2;split at k1
    ·rename_i e1;split at k2
     ·rename_i e2;have:=h1.inj _ _ _ _ _ _ _ _ _ k1 k2;rw[<-e1,<-e2,this]
     ·cases k2
    ·cases k1
   own:=fun i m b t s k=>by
    have k:(if f (g i)=i then w'.nm (g i) m else none)=some _:=k;split at k
    ·exact h1.own _ _ _ _ _ k
    ·cases k
   fin:=h1.fin }
 ·exact Ir (w0:=w') h2 (w'.push f g) hp.symm
 ·exact{
   size:=h3.size
   free:=h3.free
   names:=fun j m z hj hz=>by have hj:(ids (lp f l)).contains j=true:=hj;rw[zC]at hj;obtain⟨i,hi,rfl⟩:=List.mem_map.1 (List.contains_iff_mem.1 hj);have:=h3.names i m z (List.contains_iff_mem.2 hi) hz;show(if f (g (f i))=f i then w'.nm (g (f i)) m else none)=some z;rw[hf,if_pos rfl];exact this
   os:=h3.os,tape:=h3.tape,output:=h3.output
   rest:=fun b hb hO U8=>by
    obtain⟨k1,k2,k3⟩:=h3.rest b hb hO fun i m t s=>U8 (f i) m t s
    refine⟨k1,k2,fun j m t s h=>?_⟩;have h:(if f (g j)=j then w'.nm (g j) m else none)=some _:=h;split at h
    ·exact k3 _ _ _ _ h
    ·cases h
   base:=by show H'.B.map f=ids (lp f l);rw[zC];have:H'.B=ids l:=h3.base;rw[this] }
section
variable {P:UY}{f:FuncId}{args fs:UM}{H:Hp}{K:UJ}{q:Prop}
def bm{l l0:UL}{r0:AV}(hc:ab P f (fs++args) l fun r l'=>r=r0/\l'=l0)(k:q)(h1:rP l H:=by exact dD)(h0:aS P f=true:=by exact dD)(h2:aZ (fun i=>(ids l).contains i) (fs++args)=true:=by exact dD)(h3:rK (fun i=>(ids l).contains i) l:=by exact dD)
 (h4:oJ (ids l) H l0:=by exact dD) (h5:(ids l0).Nodup:=by exact dD) (e:K r0 ⟨H.B,gx H.l l0⟩=q:=by exact fm):fh P (.bd f fs) args H K:=.inl ⟨h0,by have:=wA hc h1 h2 h3 h4 h5 (e ▸ k:K r0 ⟨H.B,gx H.l l0⟩);simpa using this⟩
end
variable {P:UY}{H:Hp}
def Cc(w:NW)(v:Value)(k:Nat)(ys:UK):Prop:=∃A c news,v=.slice A k c/\ys.length<=k/\ci w ys.flatten news/\(0<ys.length->∃ad,A=some ad/\∀(j:Nat) u,news[j]?=some u->w.cell? (ad.add j)=some u)
variable{ys:UK}{sz:Nat}
def G5{H:Hp}{x:AV}{c:Prop}(h:ur H x=some (c,ys))(hc:c)(hg:Good sz ys):∀(w:NW) vx,aJ w H->ax w x vx->Cc w vx ys.length ys:=fun w vx hw hx=>by obtain⟨A,c',news,e,h1,h2⟩:=Au hw hx h hc hg;exact⟨A,c',news,e,Nat.le_refl _,h1,h2⟩
variable{d m o k n:Nat}{css:UK}
def Ep{e:US}(hd:H.get d=some (.aG e sz css))(hm:m=css.length)(ho:o+k<=m)(hn:n<=k):∀(w:NW) vx,aJ w H->ax w (.rv d m sz o k) vx->Cc w vx k ((css.drop o).take n):=fun w vx hw hx=>by
 subst hm;obtain⟨hok,_⟩:=hw.rows d _ hd;have Vj:=hok.2;have O':((css.drop o).take n).length=n:=by simp;omega
 cases hx with
 |jx _ _ _ _ c A=> have e0:n=0:=jB;subst e0;exact⟨A,c,[],rfl,jE,⟨rfl,fun i a v h=>by simp at h⟩,fun h=>by simp at h⟩
 |rv _ _ _ _ _ b t c Vd U6=>
  by_cases h0:n=0
  ·subst h0;exact⟨_,c,[],rfl,jE,⟨rfl,fun i a v h=>by simp at h⟩,fun h=>by simp at h⟩
  have:=yp (w:=w) (sz:=sz) (c:=c) (ys:=(css.drop o).take n) (ad:=⟨b,o*sz,none⟩) (fun y hy=>Vj y (List.mem_of_mem_drop (List.mem_of_mem_take hy))) fun i' j VE hj=>by obtain⟨_,_,_,v,h1,h2⟩:=sF hw hd Vd (k:=o+i') (j:=j) jB hj;refine⟨v,by rw[ju,<-Nat.add_assoc,<-Nat.add_mul];exact h1,fun u hu=>h2 u ?_⟩;rw[<-hu];simp[List.getElem?_take,show i'<n from jB]
  obtain⟨A,c',news,e,h1,h2⟩:=this;cases e;exact⟨_,c,news,rfl,jB,h1,h2⟩
def Cx(hc:∀c∈css,c.length=sz)(hy:∀c∈ys,c.length=sz)(ho:o+ys.length<=css.length){p:Nat}{u:AV}(hp:(dz css o ys).flatten[p]?=some u):if o*sz<=p/\p<o*sz+ys.flatten.length then ys.flatten[p-o*sz]?=some u else css.flatten[p]?=some u:=by
 have h1:(css.take o).flatten.length=o*sz:=by rw[gp fun c h=>hc c (List.mem_of_mem_take h),List.length_take,Nat.min_eq_left jB]
 have e2:css.flatten=(css.take o).flatten++((css.drop o).take ys.length).flatten++(css.drop (o+ys.length)).flatten:=by
  rw[<-List.flatten_append,<-List.flatten_append];congr 1
  rw[List.append_assoc,<-List.drop_drop,List.take_append_drop,List.take_append_drop]
 have h3:((css.drop o).take ys.length).flatten.length=ys.flatten.length:=by rw[gp fun c h=>hc c (List.mem_of_mem_drop (List.mem_of_mem_take h)),gp hy,List.length_take,List.length_drop,Nat.min_eq_left jB]
 unfold dz at hp;rw[List.flatten_append,List.flatten_append]at hp;generalize (css.take o).flatten=T at*;generalize ((css.drop o).take ys.length).flatten=M at*;generalize (css.drop (o+ys.length)).flatten=D at*;generalize ys.flatten=Y at*;rcases Nat.lt_or_ge p T.length with h|h
 ·rw[jN,e2,List.append_assoc,List.getElem?_append_left h];rw[List.append_assoc,List.getElem?_append_left h]at hp;exact hp
 ·rw[List.append_assoc,List.getElem?_append_right h]at hp;rcases Nat.lt_or_ge (p-T.length) Y.length with h'|h'
  ·rw[List.getElem?_append_left h']at hp;rw[if_pos ⟨jB,jB⟩,<-hp,h1]
  ·rw[List.getElem?_append_right h']at hp;rw[jN,e2,List.append_assoc,List.getElem?_append_right h,List.getElem?_append_right jB,<-hp,h3]
variable{t:US}{zs:UW}{K:UJ}
def zN{e:US}{x:AV}(hd:H.get d=some (.aG e sz css))(hm:m=css.length)(ht:iu P t=some e)(Wz:dh P e=some sz)(Yn:dR P e=some zs)(Xl:zs.length=sz)(h0:0<sz)(ZN:o+n<=m)(YF:0<n)
  (Xq:∀(w:NW) vx,aJ w H->ax w x vx->Cc w vx k ys) (hg:Good sz ys) (YX:Nat.min k n=ys.length)
  (hk:K (.raw (.int .i64 (ys.length:Nat))) (H.put d (.aG e sz (dz css o ys)))):pO P .copy [t,t] [.rv d m sz o n,x] H K:=by
 subst hm;intro w vs ty cs hw hr;obtain⟨vd,vx,rfl⟩:∃vd vx,vs=[vd,vx]:=by
  have:=hr.1;match vs,this with
  |[vd,vx],_=>exact⟨vd,vx,rfl⟩
 have hu:=sW ht;obtain⟨i,z,hi,Vt,Xd,YA,YQ⟩:=tW Wz Yn Xl;obtain⟨A',cx,news,rfl,hyk,Vv,V7⟩:=Xq w vx hw (hr.2 1 _ vx rfl rfl);have W7:ax w (.rv d css.length sz o n) vd:=hr.2 0 _ vd rfl rfl;have hyn:ys.length<=n:=by rw[<-YX];exact Nat.min_le_right _ _
 have Wb:ys.flatten.length=ys.length*sz:=gp fun y hy=>(hg y hy).1
 have WS:news.length=ys.length*sz:=by rw[<-Vv.1,Wb]
 have WD:cQ ys.flatten=true:=by simp only[cQ,List.all_eq_true];intro u Yo;obtain⟨y,hy,Zf⟩:=List.mem_flatten.1 Yo;have:=(hg y hy).2;simp only[cQ,List.all_eq_true]at this;exact this u Zf
 have hf:(Builtin.firstCells i.size ys.length (.slice A' k cx)).run P w.toWorld=.ok news.toArray w.toWorld:=by
  by_cases h0:ys.length=0
  ·have:news=[]:=by have:=WS;rw[h0,Nat.zero_mul]at this;simpa using this
   subst this;rw[h0];cases A'<;>simp[Builtin.firstCells,loadCells,loadCellsFrom]
  ·obtain⟨ad,rfl,D'⟩:=V7 jB;exact run_firstCells_some (P:=P) w.toWorld i.size ys.length ad k cx news (by rw[Vt];exact WS) D'
 rw[Vt]at hf;have hok:=(hw.rows d _ hd).1;have Vm:∀cs∈dz css o ys,cs.length=sz:=fun cs h=>by
  unfold dz at h;rcases List.mem_append.1 h with h|h
  ·rcases List.mem_append.1 h with h|h
   ·exact hok.2 _ (List.mem_of_mem_take h)
   ·exact(hg cs h).1
  ·exact hok.2 _ (List.mem_of_mem_drop h)
 have WY:=gp hok.2;have Ve:(dz css o ys).length=css.length:=by rw[uQ ys jB,Nat.max_eq_left jB]
 cases W7 with
 |jx _ _ _ _ _ A=>omega
 |rv _ _ _ _ _ b t' cap Vd U6=>
  obtain⟨_,z',Vz,Vg⟩:=hw.rows d _ hd;have:z'=.at b t' sz:=by have Vz:w.nm d css.length=some z':=Vz;rw[Vd]at Vz;cases Vz;rfl
  subst this;obtain⟨_,cur,hh,⟨VV,U4⟩,Xr⟩:=Vg;have U4:css.flatten.length<=t':=U4;have hmul:(o+ys.length)*sz<=css.length*sz:=Nat.mul_le_mul_right _ jB;rw[Nat.add_mul]at hmul;have Wo:o*sz+ys.flatten.length<=t':=jB;obtain⟨w',B',g1,g2,g3⟩:=sx (P:=P) (off:=o*sz) (r':=.aG e sz (dz css o ys)) hw hd Vd Vv WD Wo rfl rfl rfl rfl (by show css.length<=(dz css o ys).length;rw[Ve];exact Nat.le_refl _) ⟨h0,Vm⟩ (by show(dz css o ys).flatten.length<=t';rw[gp Vm,Ve];omega) (fun p u hp=>Cx hok.2 (fun c hc=>(hg c hc).1) jB hp);refine⟨w',_,_,.int .i64 ys.length,?_,hk,g1,.raw _,g2⟩;have haC:Nat.min n k=ys.length:=(Nat.min_comm n k).trans YX;simp[builtin,Builtin.copy_,run_underlying hu,Builtin.lenOf,sizeOf,typeInfo,hi,Vt,YX,haC,hf,B',goInt]
variable{f:FuncId}
def Ni  {fn : Func} {tR e:TypeId}   {dd : List AV} {K : AV → Hp → Prop} (hf : P.funcs[f]? = some fn) (XC : (fn.name == "runtime.NumGoroutine") = false) (hbn : fn.body.isNone = true) (hn : Extern.findNext fn = none)
  (he:Extern.find fn=some (Extern.SlicesOverlaps.overlaps #[t,t] #[tR])) (ht:iu P t=some e) (U':dh P e=some sz) (hd:H.get d=some (.aG e sz css)) (hm:m=css.length) (YF:0<n) (ZN:o+n<=m) (hy:0<ys.length) (hk:K (.raw (.bool false)) H) :
  uf P f [.sl true sz ys dd,.rv d m sz o n] H K:=by
 subst hm;have hu:=sW ht;intro w vs hw hr;obtain⟨vd,vx,rfl⟩:∃vd vx,vs=#[vd,vx]:=by
  have:=hr.1;match vs,this with
  |⟨[vd,vx]⟩,_=>exact⟨vd,vx,rfl⟩
 have h2:=hr.2 1 _ vx rfl rfl;have h1:=hr.2 0 _ vd rfl rfl;cases h2 with
 |jx _ _ _ _ _ A=>omega
 |rv _ _ _ _ _ b t' cap Vd U6=>
  obtain⟨hok,z',Vz,Vg⟩:=hw.rows d _ hd;have:z'=.at b t' sz:=by have Vz:w.nm d css.length=some z':=Vz;rw[Vd]at Vz;cases Vz;rfl
  subst this;obtain⟨_,cur,hh,⟨VV,U4⟩,Xr⟩:=Vg;have U4:css.flatten.length<=t':=U4;have hh:w.heap[b]?=some (.cells cur e (0,0)):=hh;rw[gp hok.2]at U4;have Wg:0<css.length*sz:=Nat.mul_pos jB hok.1;have hO:w.O b:=hw.own _ _ _ _ _ Vd;cases h1 with
  |gz=>simp at hy
  |sl _ _ _ ad c' vs' _ _ hx _ hbl hH _ _=>
   obtain⟨_,cu,el,XR⟩:=hx rfl;have B':=Lib.run_overlaps_apart (P:=P) w.toWorld t tR e hu sz (fun _=>lV U') ad ⟨b,o*sz,none⟩ ys.length c' n cap (fun e=>hH (by rw[e];exact hO)) el e cu.size cur.size
    (by simp[World.shape?,XR]) (by simp[World.shape?,hh]) jB (by simp[World.frozen?,XR]) (by simp[World.frozen?,XR])
   refine⟨_,w,_,H,?_,hk,hw,.raw _,Ext.refl w H⟩;rw[run_callFunc_extern hf XC hbn hn he,B'];rfl
def E3(z:UU)(m:Nat):(Builtin.zeroCells z m).toList=(List.replicate m z.toList).flatten:=by
 induction m with
 |zero=>simp[Builtin.zeroCells]
 |succ m ih=>
  rw[List.replicate_succ',List.flatten_append,<-ih];apply List.ext_getElem
  ·simp[Builtin.zeroCells,Nat.add_mul]
  ·intro i h1 h2;simp only[Builtin.zeroCells,Array.toList_map,Array.toList_range,List.getElem_map,List.getElem_range]at h1 ⊢;rcases Nat.lt_or_ge i (m*z.size)with h|h
   ·rw[List.getElem_append_left (by simpa using h)];simp
   ·rw[List.getElem_append_right (by simpa using h)];simp only[List.length_map,List.length_range,Array.size_range]at*;simp only[List.length_map,List.length_range,Nat.add_mul,Nat.one_mul]at h1;have hi:i % z.size=i-m*z.size:=by
     have:i=(i-m*z.size)+m*z.size:=jB;rw[this,Nat.add_mul_mod_self_right,Nat.mod_eq_of_lt jB];omega
    rw[hi];simp[getElem!_pos,show i-m*z.size<z.size from jB]
variable{i:Nat}
def Ry{t' e:US}{q:Int}(ht:iu P t=some e)(Yo:∃d,P.underlying t'=some (.int d))(U':dh P e=some sz)(hz:dR P e=some zs)(Xl:zs.length=sz)(h0:0<sz)
  (hd:H.get d=some (.aG e sz css)) (hm:m=css.length) (hi:i<=m) (hc:m<i+k) (V8:room (ku P e) (i+k)) (hq:q=k) (hj:H.get j=none) (hn:n=i+k)
  (hk:K (.rs j n sz n) (H.put j (.aG e sz (css.take i++List.replicate k (zs.map .raw))))):qw P t t' (.rc d m sz i) (.raw (.int .i64 q)) H K:=by
 subst hm hq hn;have hu:=sW ht;intro w va vx ty hw W7 Z8;have:=df Z8;subst this;obtain⟨dk,Zr⟩:=Yo;obtain⟨inf,z,VE,Vt,Xd,YA,YQ⟩:=tW U' hz Xl;obtain⟨Xh,Xn⟩:=V8;rw[YQ]at Xh;have X7:z.cells.toList=zs:=by unfold dR at hz;rw[VE]at hz;simp only[Option.bind_some,Xd,Option.map_some,Option.some.injEq]at hz;exact hz
 have W8:i+k<=grownCap w.toWorld (i+k) css.length e:=by unfold grownCap Question.cut;simp
 have hok:=(hw.rows d _ hd).1;have Vm:∀cs∈css.take i++List.replicate k (zs.map AV.raw),cs.length=sz:=fun cs h=>by
  rcases List.mem_append.1 h with h|h
  ·exact hok.2 cs (List.mem_of_mem_take h)
  ·rw[List.eq_of_mem_replicate h];simpa using Xl
 have Ve:(css.take i++List.replicate k (zs.map AV.raw)).length=i+k:=by simp;omega
 have WY:=gp hok.2;have Vv:ci w (List.replicate k (zs.map AV.raw)).flatten (List.replicate k zs).flatten:=by
  have:(List.replicate k (zs.map AV.raw)).flatten=((List.replicate k zs).flatten).map .raw:=by simp[List.map_flatten]
  rw[this];exact zK _
 generalize ha3:css.length=L at W7 hc W8 WY hi;cases W7 with
 |rc _ _ _ _ b t' Vd Wt U6 Wp=>
  obtain⟨_,z',Vz,Vg⟩:=hw.rows d _ hd;have:z'=.at b t' sz:=by have Vz:w.nm d css.length=some z':=Vz;rw[ha3,Vd]at Vz;cases Vz;rfl
  subst this;obtain⟨_,cur,hh,⟨VV,U4⟩,Xr⟩:=Vg;have hh:w.heap[b]?=some (.cells cur e (0,0)):=hh;have U4:css.flatten.length<=t':=U4;have Xr:∀(x:Nat) a v,css.flatten[x]?=some a->cur[x]?=some v->ax w a v:=Xr;have hmul:=Nat.mul_le_mul_right sz hi;have WM:(css.take i).flatten=css.flatten.take (i*sz):=by
   have e1:css.flatten=(css.take i).flatten++(css.drop i).flatten:=by rw[<-List.flatten_append,List.take_append_drop]
   have e2:(css.take i).flatten.length=i*sz:=by rw[gp fun c h=>hok.2 c (List.mem_of_mem_take h),List.length_take,Nat.min_eq_left jB]
   have e3:=congrArg (List.take (i*sz)) e1;rw[List.take_append_of_le_length jB,List.take_of_length_le (l:=(css.take i).flatten) jB]at e3;exact e3.symm
  have hold:ci w (css.take i).flatten (cur.toList.take (i*sz)):=by
   rw[WM];refine⟨by simp only[List.length_take,Array.length_toList];omega,fun x a v ha hv=>?_⟩;rw[List.getElem?_take]at ha hv;split at ha
   ·rename_i h;rw[if_pos h]at hv;exact Xr x a v ha (by simpa using hv)
   ·cases ha
  have Vj:=hold.append Vv;rw[<-List.flatten_append]at Vj;have ZP:∀q,w.nm j q=none:=fun q=>by
   cases e:w.nm j q with
   |none=>rfl
   |some z=>obtain⟨r,h1,_⟩:=hw.di j q z e;rw[hj]at h1;cases h1
  obtain⟨w',e1,g1,g2,g3⟩:=tc (i:=j) (e:=e) (cap:=grownCap w.toWorld (i+k) L e) (css:=css.take i++List.replicate k (zs.map AV.raw)) (rest:=Builtin.zeroCells z.cells (grownCap w.toWorld (i+k) L e-(i+k))) hw h0 Vm Vj (by rw[Ve];exact W8) (by rw[Ve];simp[Builtin.zeroCells,YA]) (ZP _) (fun r hr=>by rw[hj]at hr;cases hr);rw[Ve]at g3;refine⟨w',_,_,_,?_,hk,g1,g3,g2⟩;rw[e1];have XZ:(Builtin.firstCells inf.size i (.slice (some ⟨b,0,none⟩) i L)).run P w.drew=.ok (cur.toList.take (i*sz)).toArray w.drew:=by
   refine run_firstCells_some (P:=P) w.drew inf.size i ⟨b,0,none⟩ i L _ (by rw[Vt];simp only[List.length_take,Array.length_toList];omega) (fun x v h=>?_);rw[List.getElem?_take]at h;split at h
   ·rw[ju,th (w:=w.drew) b _ cur e (0,0) hh,Nat.zero_add];simpa using h
   ·cases h
  have YG:IntKind.i64.wrap (k:Int)=k:=sC jB;have WG:¬(281474976710656<(k:Int)*inf.bytes):=by have:k*inf.bytes<=(i+k)*inf.bytes:=Nat.mul_le_mul_right _ jB;have h2:((k*inf.bytes:Nat):Int)<=140737488355328:=jB;rw[Int.natCast_mul]at h2;omega
  have VR:¬(i+k<=L):=jB;have Xa:¬(9223372036854775807<(i:Int)+(k:Int)):=jB;have X0:¬((k:Int)<0):=jB;have haD:=growslice_fits (bytes:=inf.bytes) (old:=L) (show L<i+k from jB) Xh;have W4:¬(281474976710656<Builtin.nextslicecap (i+k) L*inf.bytes):=jB;have hkz:¬(k*inf.size=0):=by rw[Vt];exact Nat.ne_of_gt (Nat.mul_pos jB h0)
  simp[Builtin.append_,run_underlying hu,run_underlying Zr,sizeOf,typeInfo,zeroValue,VE,Xd,asInt,asIntOf,YG,WG,W4,VR,Xa,X0,hkz,Question.forced,XZ,newRow,grownCap];have:Builtin.zeroCells z.cells k=(List.replicate k zs).flatten.toArray:=by apply Array.ext';rw[E3,X7]
  rw[this];congr 2
  apply Array.ext';simp
def FK{e:US}(hd:H.get d=some (.aG e sz css))(hm:m=css.length)(ht:iu P t=some e)(Wz:dh P e=some sz)(Yn:dR P e=some zs)(Xl:zs.length=sz)(h0:0<sz)(VK:cQ (zs.map .raw)=true)(ZN:o+n<=m)
  (hk:K (.raw (.tuple #[])) (H.put d (.aG e sz (dz css o (List.replicate n (zs.map .raw)))))):pO P .clear [t] [.rv d m sz o n] H K:=by
 subst hm;have hu:=sW ht;intro w vs ty cs hw hr;obtain⟨vd,rfl⟩:∃vd,vs=[vd]:=by
  have:=hr.1;match vs,this with
  |[vd],_=>exact⟨vd,rfl⟩
 obtain⟨i,z,hi,Vt,Xd,YA,YQ⟩:=tW Wz Yn Xl;have X7:z.cells.toList=zs:=by unfold dR at Yn;rw[hi]at Yn;simp only[Option.bind_some,Xd,Option.map_some,Option.some.injEq]at Yn;exact Yn
 have W7:ax w (.rv d css.length sz o n) vd:=hr.2 0 _ vd rfl rfl;have hok:=(hw.rows d _ hd).1;by_cases YF:n=0
 ·subst YF;have X8:dz css o (List.replicate 0 (zs.map AV.raw))=css:=by simp[dz]
  rw[X8]at hk;have YN:aJ w (H.put d (.aG e sz css)):={ hw with rows:=fun j r hj=>?_,di:=fun j q z hz=>?_ };rotate_left
  ·rw[Hp.bk]at hj;split at hj
   ·rename_i e;subst e;exact hw.rows j r (by rw[hd];exact hj)
   ·exact hw.rows j r hj
  ·rw[Hp.bk];split
   ·rename_i e;subst e;obtain⟨r,g1,g2⟩:=hw.di j q z hz;rw[hd]at g1;cases g1;exact⟨_,rfl,g2⟩
   ·exact hw.di j q z hz
  have hv:∃A c,vd=.slice A 0 c:=by
   generalize hq:(0:Nat)=q at W7;cases W7 with
   |jx _ _ _ _ c A=>exact⟨A,c,rfl⟩
   |rv _ _ _ _ _ b t' cap Vd U6=>subst hq;exact⟨_,_,rfl⟩
  obtain⟨A,c,rfl⟩:=hv;refine⟨w,_,_,.tuple #[],?_,hk,YN,.raw _,{ Ext.refl w H with base:=rfl }⟩;cases A<;>simp[builtin,Builtin.clear_,run_underlying hu]
 generalize hgn:n=n' at W7;cases W7 with
 |jx _ _ _ _ _ A=>omega
 |rv _ _ _ _ _ b t' cap Vd U6=>
  subst hgn;obtain⟨_,z',Vz,Vg⟩:=hw.rows d _ hd;have:z'=.at b t' sz:=by have Vz:w.nm d css.length=some z':=Vz;rw[Vd]at Vz;cases Vz;rfl
  subst this;obtain⟨_,cur,hh,⟨VV,U4⟩,Xr⟩:=Vg;have U4:css.flatten.length<=t':=U4;have WY:=gp hok.2;have Vo:ci w (List.replicate n (zs.map AV.raw)).flatten (List.replicate n zs).flatten:=by
   have:(List.replicate n (zs.map AV.raw)).flatten=((List.replicate n zs).flatten).map .raw:=by simp[List.map_flatten]
   rw[this];exact zK _
  have hyl:∀c∈List.replicate n (zs.map AV.raw),c.length=sz:=fun c hc=>by rw[List.eq_of_mem_replicate hc];simpa using Xl
  have hlr:(List.replicate n (zs.map AV.raw)).length=n:=List.length_replicate;have Wb:(List.replicate n (zs.map AV.raw)).flatten.length=n*sz:=by rw[gp hyl,hlr]
  have Vm:∀cs∈dz css o (List.replicate n (zs.map AV.raw)),cs.length=sz:=fun cs h=>by
   unfold dz at h;rcases List.mem_append.1 h with h|h
   ·rcases List.mem_append.1 h with h|h
    ·exact hok.2 _ (List.mem_of_mem_take h)
    ·exact hyl cs h
   ·exact hok.2 _ (List.mem_of_mem_drop h)
  have Ve:(dz css o (List.replicate n (zs.map AV.raw))).length=css.length:=by rw[uQ _ jB,hlr,Nat.max_eq_left jB]
  have hmul:(o+n)*sz<=css.length*sz:=Nat.mul_le_mul_right _ jB;rw[Nat.add_mul]at hmul;obtain⟨w',B',g1,g2,g3⟩:=sx (P:=P) (off:=o*sz) (r':=.aG e sz (dz css o (List.replicate n (zs.map AV.raw)))) hw hd Vd Vo (by simp only[cQ,List.all_eq_true]at VK ⊢;intro u Yo;obtain⟨y,hy,Zf⟩:=List.mem_flatten.1 Yo;rw[List.eq_of_mem_replicate hy]at Zf;exact VK u Zf) (by rw[Wb];omega) rfl rfl rfl rfl (by show css.length<=(dz css o _).length;rw[Ve];exact Nat.le_refl _) ⟨h0,Vm⟩ (by show(dz css o _).flatten.length<=t';rw[gp Vm,Ve];omega) (fun p u hp=>Cx hok.2 hyl (by rw[hlr];omega) hp)
  refine⟨w',_,_,.tuple #[],?_,hk,g1,.raw _,g2⟩;obtain⟨k,rfl⟩:∃k,n=k+1:=⟨n-1,jB⟩;simp[builtin,Builtin.clear_,run_underlying hu,zeroValue,typeInfo,hi,Xd,E3,X7,B']
def gk(sz k:Nat):UK:=List.replicate k (List.replicate sz AV.any)
def Ap:(gk sz k).length=k:=List.length_replicate
def JB{w':NW}(e:w'.toWorld=w.toWorld)(hO:∀b,w'.O b=w.O b){q:UX}(hn:∀i m z,q i=true->w.nm i m=some z->w'.nm i m=some z):Keep q w w':=
 ⟨by rw[e];exact Nat.le_refl _,fun b _ h=>⟨by rw[e],by rw[hO];exact h⟩,hn⟩
def gJ.sA{w':NW}{z:Rz}{q:UX}(h:gJ w r z)(e:w'.toWorld=w.toWorld)(k:Keep q w w')(hq:aZ q r.cells=true):gJ w' r z:=by
 cases z with
 |nil=>exact h
 |«at» b t s=> obtain⟨h1,cur,h2,h3,h5⟩:=h;exact⟨h1,cur,by rw[e];exact h2,h3,fun i a v ha hv=>(h5 i a v ha hv).aY k (lz hq ha)⟩
theorem Hm{r s:Row}{i:Nat}:∀{l:UL},aC l i=some s->ids (bg l i r)=ids l
 |[],h=>by cases h
 |(j,t)::l,h=>by
  simp only[aC]at h;simp only[bg];split
  ·rename_i e;subst e;rfl
  ·rename_i e;rw[if_neg e]at h;have:=Hm (r:=r) h;simp only[ids,List.map_cons]at this ⊢;rw[this]
variable{X:UK}{rest:UM}
def ab.su{e:US}{N q:Nat}(hn:0<css.length)(hl:aC l i=some (.aG e sz css))(YE:n=css.length)(hq:∀k r,aC l k=some r->k≠i->aZ (fun j=>(ids l).contains j && !(j == i)) r.cells=true)(hX:X.length=N)(hnN:n<=N)(hXq:aZ (fun j=>(ids l).contains j && !(j == i)) X.flatten=true)(hXs:∀x∈X,x.length=sz)
  (h:∀c,n<=c->ab P f (.rc i c sz n::rest) (bg l i (.aG e sz (css++gk sz (c-n)))) fun r l'=>(N<=c/\r=.rc i c sz q/\l'=bg l i (.aG e sz (X++gk sz (c-N))))\/((n<N/\0<q)/\c=n/\∃j,aC l j=none/\r=.rs j N sz q/\l'=l++[(j,.aG e sz X)])) :
  ab P f (.rs i n sz n::rest) l fun r l'=>r=.rs i N sz q/\l'=bg l i (.aG e sz X):=fun w vs hw hv=>by
 obtain⟨v0,vr,rfl⟩:∃v0 vr,vs=(v0::vr).toArray:=by
  have:=hv.1;obtain⟨vl⟩:=vs;match vl,this with
  |v0::vr,_=>exact⟨v0,vr,rfl⟩
 have h0:ax w (.rs i n sz n) v0:=hv.2 0 _ v0 rfl rfl;have Vg:=hw.rows i _ hl;obtain⟨⟨Wp,Vj⟩,z,hz,hrw⟩:=Vg;have hz:w.nm i css.length=some z:=hz;rw[<-YE]at hz;generalize hn':n=n' at h0;cases h0 with
 |iN _ _ _ A Vd=>omega
 |rs _ _ _ _ b t c Vd Wt U6 _=>
  subst hn';have:z=.at b t sz:=by rw[Vd]at hz;cases hz;rfl
  subst this;obtain⟨_,cur,hh,⟨VV,U4⟩,Xr⟩:=hrw;have U4:css.flatten.length<=t:=U4;have Xr:∀(x:Nat) a v,css.flatten[x]?=some a->cur[x]?=some v->ax w a v:=Xr
  -- the names, with one more
  let w1:NW:={ w with nm:=fun k m=>if k=i/\m=c then some (.at b t sz)else w.nm k m }
  have Vr:∀k m z,w.nm k m=some z->w1.nm k m=some z:=fun k m z VK=>by
   show(if k=i/\m=c then _ else _)=_;by_cases hc:k=i/\m=c
   ·rw[if_pos hc];rw[hc.1,hc.2]at VK;obtain⟨r,g1,g2⟩:=hw.di _ _ _ VK;have g1:aC l i=some r:=g1;rw[hl]at g1;cases g1;have g2:c<=css.length:=g2;have e2:c=n:=jB;rw[e2,Vd]at VK;exact VK
   ·rw[if_neg hc];exact VK
  have WG:∀{k m b' t' s'},w1.nm k m=some (.at b' t' s')->w.nm k m=some (.at b' t' s')\/(k=i/\m=c/\b'=b/\t'=t/\s'=sz):=fun{k m b' t' s'} h=>by
   have h:(if k=i/\m=c then some (.at b t sz)else w.nm k m)=some (.at b' t' s'):=h;split at h
   ·rename_i hc;cases h;exact .inr ⟨hc.1,hc.2,rfl,rfl,rfl⟩
   ·exact .inl h
  have K1:Keep rO w w1:=JB (w:=w) (w':=w1) rfl (fun _=>rfl) fun k m z _ VK=>Vr k m z VK
  have YY:(css++gk sz (c-n)).length=c:=by rw[List.length_append,Ap];omega
  have hfl1:(css++gk sz (c-n)).flatten.length=c*sz:=by
   rw[gp (sz:=sz),YY];intro x hx;rcases List.mem_append.1 hx with hx|hx
   ·exact Vj x hx
   ·rw[List.eq_of_mem_replicate hx];simp
  have hac:ids (bg l i (.aG e sz (css++gk sz (c-n))))=ids l:=Hm hl;have W1:aJ w1 (entry (bg l i (.aG e sz (css++gk sz (c-n))))):={
   cd:=hw.cd
   rows:=fun k r hk=>by
    have hk:aC (bg l i (.aG e sz (css++gk sz (c-n)))) k=some r:=hk;rw[bS]at hk;by_cases e1:k=i
    ·rw[if_pos e1]at hk;have hk:=Option.some.inj hk;subst hk;subst e1;refine⟨⟨Wp,fun x hx=>?_⟩,.at b t sz,?_,rfl,cur,hh,⟨VV,by show(css++gk sz (c-n)).flatten.length<=t;omega⟩,fun x a v ha hv=>?_⟩
     ·rcases List.mem_append.1 hx with hx|hx
      ·exact Vj x hx
      ·rw[List.eq_of_mem_replicate hx];simp
     ·show(if _ then _ else _)=_;rw[if_pos ⟨rfl,YY⟩]
     ·have ha:(css++gk sz (c-n)).flatten[x]?=some a:=ha;rw[List.flatten_append]at ha;rcases Nat.lt_or_ge x css.flatten.length with hx|hx
      ·rw[List.getElem?_append_left hx]at ha;exact(Xr x a v ha hv).aY K1 (nG a)
      ·rw[List.getElem?_append_right hx]at ha;have:a=.any:=by
        have:=List.mem_of_getElem? ha;obtain⟨y,hy,hay⟩:=List.mem_flatten.1 this;rw[List.eq_of_mem_replicate hy]at hay;exact List.eq_of_mem_replicate hay
       subst this;exact .any v
    ·rw[if_neg e1]at hk;obtain⟨g1,z,g2,g3⟩:=hw.rows k r hk;refine⟨g1,z,Vr _ _ _ g2,?_⟩;exact g3.sA rfl K1 (vo _)
   di:=fun k m z hk=>by
    have hk:(if k=i/\m=c then some (.at b t sz)else w.nm k m)=some z:=hk;show∃r,aC (bg l i _) k=some r/\m<=r.fW;rw[bS];split at hk
    ·rename_i hc;rw[if_pos hc.1];exact⟨_,rfl,by show m<=(css++gk sz (c-n)).length;rw[YY,hc.2];exact Nat.le_refl _⟩
    ·obtain⟨r,g1,g2⟩:=hw.di k m z hk;split
     ·rename_i e1;subst e1;have g1:aC l k=some r:=g1;rw[hl]at g1;cases g1;have g2:m<=css.length:=g2;exact⟨_,rfl,by show m<=(css++gk sz (c-n)).length;omega⟩
     ·exact⟨r,g1,g2⟩
   inj:=fun k m j q b' t1 s1 t2 s2 h1 h2=>by
    rcases WG h1 with h1|⟨a1,_,a2,_,_⟩<;>rcases WG h2 with h2|⟨c1,_,c2,_,_⟩
    ·exact hw.inj _ _ _ _ _ _ _ _ _ h1 h2
    ·rw[c1];exact hw.inj _ _ _ _ _ _ _ _ _ h1 (c2 ▸ Vd)
    ·rw[a1];exact hw.inj _ _ _ _ _ _ _ _ _ (a2 ▸ Vd) h2
    ·rw[a1,c1]
   own:=fun k m b' t1 s1 h1=>by
    rcases WG h1 with h1|⟨_,_,a2,_,_⟩
    ·exact hw.own _ _ _ _ _ h1
    ·rw[a2];exact hw.own _ _ _ _ _ Vd
   fin:=hw.fin }
  have V1:bs w1 (.rc i c sz n::rest) (.slice (some ⟨b,0,none⟩) n c::vr).toArray:=by
   refine⟨hv.1,fun k a v ha Vq=>?_⟩;cases k with
   |zero=> cases ha;cases Vq;exact .rc i c sz n b t (by show(if _ then _ else _)=_;rw[if_pos ⟨rfl,rfl⟩]) Wt U6 Wp
   |succ k=>exact(hv.2 (k+1) a v ha Vq).aY K1 (nG a)
  refine((h c jB) w1 _ W1 V1).mono ?_;rintro ex W ⟨v,r,H2,w2,rfl,rfl,hR,g1,g2,g3⟩;have hB:H2.B=ids l:=g3.base.trans hac;have hN2:∀k m z,(ids l).contains k=true->w.nm k m=some z->w2.nm k m=some z:=fun k m z hk hz=>g3.names k m z (by show(ids (bg l i _)).contains k=true;rw[hac];exact hk) (Vr k m z hz)
  have hiL:(ids l).contains i=true:=sI hl;have Vl:∀b',b'<w.heap.size->w.O b'->(∀k m t s,w.nm k m≠some (.at b' t s))->w2.heap[b']?=w.heap[b']?/\w2.O b'/\∀k m t s,w2.nm k m≠some (.at b' t s):=fun b' h1 h2 h3=>g3.rest b' h1 h2 fun k m t1 s1 h4=>by
   rcases WG h4 with h4|⟨_,_,a2,_,_⟩
   ·exact h3 _ _ _ _ h4
   ·exact h3 _ _ _ _ (a2 ▸ Vd)
  have had:∀m z,w.nm i m=some z->m<=n:=fun m z hz=>by obtain⟨r,q1,q2⟩:=hw.di _ _ _ hz;have q1:aC l i=some r:=q1;rw[hl]at q1;cases q1;have q2:m<=css.length:=q2;omega
  have fin:∀(jj cc b3 t3 c3:Nat) (sp:UK),(jj=i\/aC l jj=none)->aC H2.l jj=some (.aG e sz (X++sp))->w2.nm jj (X++sp).length=some (.at b3 t3 sz)->(N=n->b3=b/\t3=t)->c3*sz=t3->q<=c3->v=.slice (some ⟨b3,0,none⟩) q c3->(∀k,k≠i->k≠jj->aC H2.l k=aC l k)->
    ∃v' r' H' w',w2.toWorld=NW.toWorld w'/\Ending.returned v=.returned v'/\(r'=.rs i N sz q/\Hp.l H'=bg l i (.aG e sz X))/\aJ w' H'/\ax w' r' v'/\fS w (entry l) w' H':=fun jj _ b3 t3 c3 sp hjj hg X0 YZ hc3 ha4 ev hun=>by
   have ZP:∀k,(ids l).contains k=true->k≠i->k≠jj:=fun k hk WE e1=>by
    rcases hjj with e2|e2
    ·exact WE (e1.trans e2)
    ·obtain⟨r,hr⟩:=Aj hk;rw[e1,e2]at hr;cases hr
   let w3:NW:={ w2 with nm:=fun k m=>if k=i then(if m=N then some (.at b3 t3 sz)else if m<=n then w.nm i m else none)else if k=jj then none else w2.nm k m }
   have n1:∀{m},m<=n->w.nm i m≠none->w3.nm i m=w.nm i m:=fun{m} hm VM=>by
    show(if i=i then(if m=N then _ else if m<=n then _ else _)else _)=_;rw[if_pos rfl];by_cases e1:m=N
    ·have e2:N=n:=jB;obtain⟨rfl,rfl⟩:=YZ e2;rw[if_pos e1,e1,e2,Vd]
    ·rw[if_neg e1,if_pos hm]
   have n2:w3.nm i N=some (.at b3 t3 sz):=by show(if i=i then(if N=N then _ else _)else _)=_;rw[if_pos rfl,if_pos rfl]
   have n3:∀{k m},k≠i->k≠jj->w3.nm k m=w2.nm k m:=fun{k m} h1 h2=>by show(if k=i then _ else if k=jj then _ else _)=_;rw[if_neg h1,if_neg h2]
   have n4:∀{k m z},w3.nm k m=some z->(k≠i/\k≠jj/\w2.nm k m=some z)\/(k=i/\m<=n/\w.nm i m=some z)\/(k=i/\m=N/\z=.at b3 t3 sz):=fun{k m z} VK=>by
    have VK:(if k=i then(if m=N then some (.at b3 t3 sz)else if m<=n then w.nm i m else none)else if k=jj then none else w2.nm k m)=some z:=VK;by_cases e1:k=i
    ·rw[if_pos e1]at VK;by_cases e3:m=N
     ·rw[if_pos e3]at VK;cases VK;exact .inr (.inr ⟨e1,e3,rfl⟩)
     ·rw[if_neg e3]at VK;by_cases e2:m<=n
      ·rw[if_pos e2]at VK;exact .inr (.inl ⟨e1,e2,VK⟩)
      ·rw[if_neg e2]at VK;cases VK
    ·rw[if_neg e1]at VK;by_cases e2:k=jj
     ·rw[if_pos e2]at VK;cases VK
     ·rw[if_neg e2]at VK;exact .inl ⟨e1,e2,VK⟩
   have n5:∀{m z},w.nm i m=some z->w2.nm i m=some z:=fun{m z} VK=>hN2 i m z hiL VK
   have K3:Keep (fun j=>(ids l).contains j && !(j == i)) w2 w3:=JB (w:=w2) (w':=w3) rfl (fun _=>rfl) fun k m z hk VK=>by simp at hk;rw[n3 hk.2 (ZP k (by simpa using hk.1) hk.2)];exact VK
   obtain⟨_,z4,hz4,ha5⟩:=g1.rows jj _ hg;have:z4=.at b3 t3 sz:=by have hz4:w2.nm jj (X++sp).length=some z4:=hz4;rw[X0]at hz4;cases hz4;rfl
   subst this;obtain⟨_,cur4,hh4,⟨ha6,hae⟩,haf⟩:=ha5;have hae:(X++sp).flatten.length<=t3:=hae;have haf:∀(x:Nat) a v,(X++sp).flatten[x]?=some a->cur4[x]?=some v->ax w2 a v:=haf;refine⟨v,_,⟨ids l,bg l i (.aG e sz X)⟩,w3,rfl,rfl,⟨rfl,rfl⟩,?_,?_,?_⟩
   ·exact{
     cd:=g1.cd
     rows:=fun k r hk=>by
      have hk:aC (bg l i (.aG e sz X)) k=some r:=hk;rw[bS]at hk;by_cases e1:k=i
      ·rw[if_pos e1]at hk;have hk:=Option.some.inj hk;subst hk;subst e1;refine⟨⟨Wp,hXs⟩,.at b3 t3 sz,?_,rfl,cur4,hh4,⟨ha6,?_⟩,fun x a v ha hv=>?_⟩
       ·show w3.nm k X.length=_;rw[hX];exact n2
       ·show X.flatten.length<=t3;rw[List.flatten_append,List.length_append]at hae;omega
       ·have ha:X.flatten[x]?=some a:=ha;have I':=(List.getElem?_eq_some_iff.1 ha).1;refine(haf x a v ?_ hv).aY K3 (lz hXq ha);rw[List.flatten_append,List.getElem?_append_left I'];exact ha
      ·rw[if_neg e1]at hk;have hj:=ZP k (sI hk) e1;obtain⟨q1,z,q2,q3⟩:=g1.rows k r (by show aC H2.l k=_;rw[hun k e1 hj];exact hk);exact⟨q1,z,by rw[n3 e1 hj];exact q2,q3.sA rfl K3 (hq k r hk e1)⟩
     di:=fun k m z VK=>by
      show∃r,aC (bg l i _) k=some r/\m<=r.fW;rw[bS];rcases n4 VK with⟨e1,e2,VK⟩|⟨e1,e2,_⟩|⟨e1,e2,_⟩
      ·rw[if_neg e1];obtain⟨r,q1,q2⟩:=g1.di k m z VK;have q1:aC H2.l k=some r:=q1;rw[hun k e1 e2]at q1;exact⟨r,q1,q2⟩
      ·rw[if_pos e1];exact⟨_,rfl,by show m<=X.length;omega⟩
      ·rw[if_pos e1];exact⟨_,rfl,by show m<=X.length;omega⟩
     inj:=fun k m k' m' b' t1 s1 t2 s2 h1 h2=>by
      rcases n4 h1 with⟨a1,a2,h1⟩|⟨a1,a2,h1⟩|⟨a1,a2,h1⟩<;>rcases n4 h2 with⟨c1,c2,h2⟩|⟨c1,c2,h2⟩|⟨c1,c2,h2⟩
      ·exact g1.inj _ _ _ _ _ _ _ _ _ h1 h2
      ·rw[c1];exact g1.inj _ _ _ _ _ _ _ _ _ h1 (n5 h2)
      ·cases h2;exact(a2 (g1.inj _ _ _ _ _ _ _ _ _ h1 X0)).elim
      ·rw[a1];exact g1.inj _ _ _ _ _ _ _ _ _ (n5 h1) h2
      ·rw[a1,c1]
      ·rw[a1,c1]
      ·cases h1;exact(c2 (g1.inj _ _ _ _ _ _ _ _ _ h2 X0)).elim
      ·rw[a1,c1]
      ·rw[a1,c1]
     own:=fun k m b' t1 s1 h1=>by
      rcases n4 h1 with⟨a1,a2,h1⟩|⟨a1,a2,h1⟩|⟨a1,a2,h1⟩
      ·exact g1.own _ _ _ _ _ h1
      ·exact g1.own _ _ _ _ _ (n5 h1)
      ·cases h1;exact g1.own _ _ _ _ _ X0
     fin:=g1.fin }
   ·rw[ev];exact .rs i N sz q b3 t3 c3 n2 hc3 ha4 Wp
   ·exact{
     size:=g3.size
     free:=g3.free
     names:=fun k m z hk VK=>by
      have hk:(ids l).contains k=true:=hk;by_cases e1:k=i
      ·subst e1;rw[n1 (had m z VK) (by rw[VK];exact Option.some_ne_none _)];exact VK
      ·rw[n3 e1 (ZP k hk e1)];exact hN2 k m z hk VK
     os:=g3.os,tape:=g3.tape,output:=g3.output
     rest:=fun b' h1 h2 h3=>by
      obtain⟨q1,q2,q3⟩:=Vl b' h1 h2 h3;refine⟨q1,q2,fun k m t1 s1 h4=>?_⟩;rcases n4 h4 with⟨a1,a2,h4⟩|⟨a1,a2,h4⟩|⟨a1,a2,h4⟩
      ·exact q3 _ _ _ _ h4
      ·exact h3 _ _ _ _ h4
      ·cases h4;exact q3 _ _ _ _ X0
     base:=rfl }
  rcases hR with⟨hc,rfl,Ve⟩|⟨⟨I',hq0⟩,hc,j,hj,rfl,Ve⟩
  ·generalize X5:c=c' at g2;cases g2 with
   |rc _ _ _ _ b3 t3 q1 q2 q3 q4=>
    subst X5;have hlX:(X++gk sz (c-N)).length=c:=by rw[List.length_append,Ap];omega
    have YZ:b3=b/\t3=t:=by have h9:w2.nm i c=some (.at b t sz):=g3.names i c _ (by show(ids (bg l i _)).contains i=true;rw[hac];exact hiL) (by show(if i=i/\c=c then _ else _)=_;rw[if_pos ⟨rfl,rfl⟩]);rw[q1]at h9;cases h9;exact⟨rfl,rfl⟩
    refine fin i c b3 t3 c (gk sz (c-N)) (.inl rfl) ?_ (by rw[hlX];exact q1) (fun _=>YZ) q2 q3 rfl fun k h1 _=>?_
    ·rw[Ve,bS,if_pos rfl]
    ·rw[Ve,bS,if_neg h1]
  ·have WU:j≠i:=fun e1=>by rw[e1,hl]at hj;cases hj
   have lget_app2:∀(l m:UL) (i:Nat),aC (l++m) i=(aC l i).or (aC m i):=fun l m i=>by
    induction l with
    |nil=>rfl
    |cons x l ih=>
     obtain⟨k,r⟩:=x;simp only[List.cons_append,aC];split
     ·rfl
     ·exact ih
   have hga:∀k,aC (l++[(j,Row.aG e sz X)]) k=(aC l k).or (if k=j then some (.aG e sz X)else none):=fun k=>by rw[lget_app2];rfl
   generalize ha7:N=n1 at g2;cases g2 with
   |iN _ _ _ A q1=>omega
   |rs _ _ _ _ b3 t3 c3 q1 q2 q3 q4=>
    subst ha7;refine fin j N b3 t3 c3 [] (.inr hj) ?_ (by rw[List.append_nil,hX];exact q1) (fun e9=>jB) q2 q3 rfl fun k h1 h2=>?_
    ·rw[Ve,hga,hj,if_pos rfl,List.append_nil];rfl
    ·rw[Ve,hga,if_neg h2];cases aC l k<;>rfl
def ab.room{e:US}(hn:0<css.length)(hl:aC l i=some (.aG e sz css))(YE:n=css.length)(hq:∀k r,aC l k=some r->k≠i->aZ (fun j=>(ids l).contains j && !(j == i)) r.cells=true)(hX:X.length=n+1)(hXq:aZ (fun j=>(ids l).contains j && !(j == i)) X.flatten=true)(hXs:∀x∈X,x.length=sz)
  (h:∀c,n<=c->ab P f (.rc i c sz n::rest) (bg l i (.aG e sz (css++gk sz (c-n)))) fun r l'=>(n+1<=c/\r=.rc i c sz (n+1)/\l'=bg l i (.aG e sz (X++gk sz (c-(n+1)))))\/(c=n/\∃j,aC l j=none/\r=.rs j (n+1) sz (n+1)/\l'=l++[(j,.aG e sz X)])) :
  ab P f (.rs i n sz n::rest) l fun r l'=>r=.rs i (n+1) sz (n+1)/\l'=bg l i (.aG e sz X):=
 ab.su (N:=n+1) (q:=n+1) hn hl YE hq hX jB hXq hXs fun c hc=>(h c hc).mono fun r l' h=>h.imp id fun⟨a,b⟩=>⟨⟨jB,jB⟩,a,b⟩
def ab.ya{e:US}(j:Nat)(hn:0<css.length)(hl:aC l i=some (.aG e sz css))(YE:n=css.length)(hq:∀k r,aC l k=some r->k≠i->aZ (fun j=>(ids l).contains j && !(j == i)) r.cells=true)(hX:X.length=n+1)(hXq:aZ (fun j=>(ids l).contains j && !(j == i)) X.flatten=true)(hXs:∀x∈X,x.length=sz)(hj:aC l j=none)
  (ha:ab P f (.rc i n sz n::rest) (bg l i (.aG e sz css)) fun r l'=>r=.rs j (n+1) sz (n+1)/\l'=l++[(j,.aG e sz X)])
  (hb:∀c,n+1<=c->ab P f (.rc i c sz n::rest) (bg l i (.aG e sz (css++gk sz (c-n)))) fun r l'=>r=.rc i c sz (n+1)/\l'=bg l i (.aG e sz (X++gk sz (c-(n+1))))) :
  ab P f (.rs i n sz n::rest) l fun r l'=>r=.rs i (n+1) sz (n+1)/\l'=bg l i (.aG e sz X):=ab.room hn hl YE hq hX hXq hXs fun c hc=>by
 by_cases YC:c=n
 ·subst YC;rw[Nat.sub_self,show gk sz 0=[] from rfl,List.append_nil];exact ha.mono fun r l' h=>.inr ⟨rfl,j,hj,h.1,h.2⟩
 ·exact(hb c jB).mono fun r l' h=>.inl ⟨jB,h.1,h.2⟩
variable {P:UY}{H:Hp}
def UD{e:US}{x:AV}{c:Prop}(hd:H.get d=some (.aG e sz css))(hm:m=css.length)(ht:iu P t=some e)(Wz:dh P e=some sz)(Yn:dR P e=some zs)(Xl:zs.length=sz)(h0:0<sz)
  (Xq:ur H x=some (c,ys)) (hc:c) (hg:Good sz ys) (VB:n+ys.length<=m) (hk:K (.rc d m sz (n+ys.length)) (H.put d (.aG e sz (dz css n ys)))):qw P t t (.rc d m sz n) x H K:=by
 subst hm;intro w va vx ty hw W7 Z8;have hu:=sW ht;obtain⟨i,z,hi,Vt,Xd,YA,YQ⟩:=tW Wz Yn Xl;obtain⟨A,cx,news,rfl,Vv,V7⟩:=Au hw Z8 Xq hc hg;have Wb:ys.flatten.length=ys.length*sz:=gp fun y hy=>(hg y hy).1
 have WS:news.length=ys.length*sz:=by rw[<-Vv.1,Wb]
 have WD:cQ ys.flatten=true:=by simp only[cQ,List.all_eq_true];intro u Yo;obtain⟨y,hy,Zf⟩:=List.mem_flatten.1 Yo;have:=(hg y hy).2;simp only[cQ,List.all_eq_true]at this;exact this u Zf
 have hok:=(hw.rows d _ hd).1;have Vm:∀cs∈dz css n ys,cs.length=sz:=fun cs h=>by
  unfold dz at h;rcases List.mem_append.1 h with h|h
  ·rcases List.mem_append.1 h with h|h
   ·exact hok.2 _ (List.mem_of_mem_take h)
   ·exact(hg cs h).1
  ·exact hok.2 _ (List.mem_of_mem_drop h)
 have Ve:(dz css n ys).length=css.length:=by rw[uQ ys jB,Nat.max_eq_left jB]
 have hf:(Builtin.firstCells i.size ys.length (.slice A ys.length cx)).run P w.toWorld=.ok news.toArray w.toWorld:=by
  by_cases h0:ys.length=0
  ·have:news=[]:=by have:=WS;rw[h0,Nat.zero_mul]at this;simpa using this
   subst this;rw[h0];cases A<;>simp[Builtin.firstCells,loadCells,loadCellsFrom]
  ·obtain⟨ad,rfl,D'⟩:=V7 jB;exact run_firstCells_some (P:=P) w.toWorld i.size ys.length ad ys.length cx news (by rw[Vt];exact WS) D'
 rw[Vt]at hf;cases W7 with
 |rc _ _ _ _ b t' Vd Wt U6 Wp=>
  obtain⟨_,z',Vz,Vg⟩:=hw.rows d _ hd;have:z'=.at b t' sz:=by have Vz:w.nm d css.length=some z':=Vz;rw[Vd]at Vz;cases Vz;rfl
  subst this;obtain⟨_,cur,hh,⟨VV,U4⟩,Xr⟩:=Vg;have Wo:n*sz+ys.flatten.length<=t':=by rw[Wb,<-Nat.add_mul,<-Wt];exact Nat.mul_le_mul_right _ VB
  obtain⟨w',B',g1,g2,g3⟩:=sx (P:=P) (off:=n*sz) (r':=.aG e sz (dz css n ys)) hw hd Vd Vv WD Wo rfl rfl rfl rfl (by show css.length<=(dz css n ys).length;rw[Ve];exact Nat.le_refl _) ⟨h0,Vm⟩ (by show(dz css n ys).flatten.length<=t';rw[gp Vm,Ve,Wt];exact Nat.le_refl _) (fun p u hp=>Cx hok.2 (fun c hc=>(hg c hc).1) jB hp);refine⟨w',_,_,.slice (some ⟨b,0,none⟩) (n+ys.length) css.length,?_,hk,g1,?_,g2⟩
  ·have Yp:(⟨b,0,none⟩:Addr).add (n*sz)=⟨b,n*sz,none⟩:=by rw[ju];simp
   simp[Builtin.append_,run_underlying hu,sizeOf,typeInfo,hi,Builtin.lenOf,VB,hf,Vt,Yp,B']
  ·exact .rc d css.length sz _ b t' (by have g3:w'.nm d (dz css n ys).length=some (.at b t' sz):=g3;rwa [Ve]at g3) Wt VB Wp
def ab.wU{e:US}{q:Nat}(hn:0<css.length)(hl:aC l i=some (.aG e sz css))(YE:n=css.length)(hq:∀k r,aC l k=some r->k≠i->aZ (fun j=>(ids l).contains j && !(j == i)) r.cells=true)(hX:X.length=n)(hXq:aZ (fun j=>(ids l).contains j && !(j == i)) X.flatten=true)(hXs:∀x∈X,x.length=sz)
  (h:∀c,n<=c->ab P f (.rc i c sz n::rest) (bg l i (.aG e sz (css++gk sz (c-n)))) fun r l'=>r=.rc i c sz q/\l'=bg l i (.aG e sz (X++gk sz (c-n)))) :
  ab P f (.rs i n sz n::rest) l fun r l'=>r=.rs i n sz q/\l'=bg l i (.aG e sz X):=
 ab.su (N:=n) (q:=q) hn hl YE hq hX jl hXq hXs fun c hc=>(h c hc).mono fun r l' h=>.inl ⟨hc,h.1,h.2⟩
section
variable {P:UY}{H:Hp}
def zY(z:Value)(k:Nat):Builtin.zeroCells #[z] k=(List.replicate k z).toArray:=by
 apply Array.ext
 ·simp[Builtin.zeroCells]
 ·intro i h1 h2;simp[Builtin.zeroCells,Nat.mod_one]
def Ta(w:NW)(z:Value):∀k,ci w (List.replicate k [AV.raw z]).flatten (List.replicate k z):=fun k=>by
 have:(List.replicate k [AV.raw z]).flatten=(List.replicate k z).map .raw:=by simp[List.flatten_replicate_singleton]
 rw[this];refine⟨jE,fun i a v ha hv=>?_⟩;rw[List.getElem?_map,hv]at ha;simp at ha;subst ha;exact .raw _
def TU{t t' e:US}{d m n k:Nat}{z0:Value}{css:UK}{K:UJ}(hu:P.underlying t=some (.slice e))(Yo:∃d,P.underlying t'=some (.int d))(U':dh P e=some 1)(hz:dR P e=some [z0])(VK:z0.oneCell'=true)
  (hd:H.get d=some (.aG e 1 css)) (hm:m=css.length) (hn:n=css.length) (V8:room (ku P e) (css.length+k)) (hk:K (.rs d (css.length+k) 1 (css.length+k)) (H.put d (.aG e 1 (css++List.replicate k [.raw z0])))):qw P t t' (.rs d m 1 n) (.raw (.int .i64 k)) H K:=by
 subst hm hn;intro w va vx ty hw W7 Z8;have:=df Z8;subst this;obtain⟨dk,Zr⟩:=Yo;obtain⟨i,z,hi,Vt,Xd,YA,YQ⟩:=tW U' hz rfl;obtain⟨Xh,Xn⟩:=V8;rw[YQ]at Xh;have X7:z.cells=#[z0]:=by unfold dR at hz;rw[hi]at hz;simp only[Option.bind_some,Xd,Option.map_some,Option.some.injEq]at hz;rw[<-Array.toList_inj,hz]
 have W8:∀need old,need<=grownCap w.toWorld need old e:=fun need old=>by unfold grownCap Question.cut;simp
 have haE:∀m,(Builtin.zeroCells z.cells m).size=m*1:=fun m=>by rw[X7,zY];simp
 have hok:=(hw.rows d _ hd).1;have Vm:∀cs∈css++List.replicate k [AV.raw z0],cs.length=1:=fun cs h=>by
  rcases List.mem_append.1 h with h|h
  ·exact hok.2 cs h
  ·rw[List.eq_of_mem_replicate h];rfl
 have Vv:=Ta w z0 k;have YG:IntKind.i64.wrap (k:Int)=k:=by
  have:IntKind.i64.wrap (k:Int)=(k:Int):=by unfold IntKind.wrap;simp[IntKind.bits,IntKind.signed];omega
  exact this
 have WG:¬(281474976710656<(k:Int)*i.bytes):=by have:k*i.bytes<=(css.length+k)*i.bytes:=Nat.mul_le_mul_right _ jB;have h2:((k*i.bytes:Nat):Int)<=140737488355328:=jB;rw[Int.natCast_mul]at h2;omega
 have X0:¬((k:Int)<0):=jB;have Ve:(css++List.replicate k [AV.raw z0]).length=css.length+k:=jE;have WY:=gp hok.2;generalize hgl:css.length=l at*;cases W7 with
 |iN _ _ _ A Vd=>
  obtain⟨_,z',Vz,Vg⟩:=hw.rows d _ hd;have:z'=.nil:=by have Vz:w.nm d css.length=some z':=Vz;rw[hgl,Vd]at Vz;cases Vz;rfl
  subst this;obtain⟨e2,sz3,Vg⟩:=Vg;cases Vg;simp only[List.length_nil]at hgl;by_cases Vh:k=0
  ·subst Vh;refine⟨w,_,_,.slice A 0 0,?_,hk,?_,.iN _ _ _ _ Vd,?_⟩
   ·have hw0:IntKind.i64.wrap 0=0:=YG;cases A<;>simp[Builtin.append_,run_underlying hu,run_underlying Zr,sizeOf,typeInfo,hi,asInt,asIntOf,hw0,storeCells]
   ·refine{ hw with rows:=fun j r hj=>?_,di:=fun j q z hz=>?_ }
    ·rw[Hp.bk]at hj;split at hj
     ·rename_i e;subst e;exact hw.rows j r (by rw[hd];exact hj)
     ·exact hw.rows j r hj
    ·rw[Hp.bk];split
     ·rename_i e;subst e;obtain⟨r,g1,g2⟩:=hw.di j q z hz;rw[hd]at g1;cases g1;exact⟨_,rfl,g2⟩
     ·exact hw.di j q z hz
   ·exact{ Ext.refl w H with base:=rfl }
  ·simp only[List.nil_append,Nat.zero_add]at hk Vm Ve Xh Xn;obtain⟨w',e1,g1,g2,g3⟩:=tc (i:=d) (e:=e) (cap:=grownCap w.toWorld k 0 e) (css:=List.replicate k [AV.raw z0]) (rest:=Builtin.zeroCells z.cells (grownCap w.toWorld k 0 e-k)) hw jC Vm Vv (by rw[Ve];exact W8 _ _) (by rw[Ve];exact haE _) (hw.later hd (by show([]:UK).length<_;rw[Ve];simp;omega)) (fun r hr=>by rw[hd]at hr;cases hr;exact Nat.zero_le _);rw[Ve]at g3;refine⟨w',_,_,_,?_,by simpa using hk,g1,by simpa using g3,g2⟩;rw[e1];have VR:¬(k=0):=Vh;have Xa:¬(9223372036854775807<(k:Int)):=jB;have W4:¬(281474976710656<Builtin.nextslicecap k 0*i.bytes):=by rw[nextslicecap_zero jB];omega
   cases A<;>simp[Builtin.append_,run_underlying hu,run_underlying Zr,sizeOf,typeInfo,zeroValue,hi,Xd,Vt,asInt,asIntOf,YG,WG,W4,VR,Xa,X0,Question.forced,newRow,grownCap,Builtin.firstCells,loadCells,loadCellsFrom,X7,zY]
 |rs _ _ _ _ b t' cap Vd Wt U6 Wp=>
  obtain⟨_,z',Vz,Vg⟩:=hw.rows d _ hd;have:z'=.at b t' 1:=by have Vz:w.nm d css.length=some z':=Vz;rw[hgl,Vd]at Vz;cases Vz;rfl
  subst this;obtain⟨_,cur,hh,⟨VV,U4⟩,Xr⟩:=Vg;have hh:w.heap[b]?=some (.cells cur e (0,0)):=hh;have U4:css.flatten.length<=t':=U4;have WD:cQ (List.replicate k [AV.raw z0]).flatten=true:=by
   have:(List.replicate k [AV.raw z0]).flatten=(List.replicate k z0).map .raw:=by simp[List.flatten_replicate_singleton]
   rw[this];simp[cQ,AV.one,VK]
  have WT:(List.replicate k [AV.raw z0]).flatten.length=k:=jE;by_cases VB:l+k<=cap
  ·obtain⟨w',B',g1,g2,g3⟩:=sx (P:=P) (off:=l) (r':=.aG e 1 (css++List.replicate k [.raw z0])) hw hd (by show w.nm d css.length=_;rw[hgl];exact Vd) Vv WD (by rw[WT];omega) rfl rfl rfl rfl (by show css.length<=(css++_).length;simp) ⟨jC,Vm⟩ (by show(css++List.replicate k [AV.raw z0]).flatten.length<=t';rw[gp Vm,Ve];omega) (fun p u hp=>by
     have hp:(css++List.replicate k [AV.raw z0]).flatten[p]?=some u:=hp;rw[List.flatten_append]at hp;show if _ then _ else css.flatten[p]?=some u
     rcases Nat.lt_or_ge p l with h|h
     ·rw[jN];rw[List.getElem?_append_left jB]at hp;exact hp
     ·rw[List.getElem?_append_right jB]at hp;have I':=(List.getElem?_eq_some_iff.1 hp).1;rw[if_pos ⟨h,jB⟩];rw[<-hp];congr 1;omega)
   refine⟨w',_,_,.slice (some ⟨b,0,none⟩) (l+k) cap,?_,hk,g1,?_,g2⟩
   ·have Yp:(⟨b,0,none⟩:Addr).add l=⟨b,l,none⟩:=by rw[ju];simp
    by_cases Vh:k=0
    ·subst Vh;have hw0:IntKind.i64.wrap 0=0:=YG;have haF:(storeCells ⟨b,l,none⟩ []).run P w.toWorld=.ok () w'.toWorld:=B';have YV:l<=cap:=jB;simp[Builtin.append_,run_underlying hu,run_underlying Zr,sizeOf,typeInfo,hi,Vt,asInt,asIntOf,hw0,YV,Yp,haF]
    ·simp[Builtin.append_,run_underlying hu,run_underlying Zr,sizeOf,typeInfo,zeroValue,hi,Xd,Vt,asInt,asIntOf,YG,WG,X0,VB,Vh,Yp,X7,zY,B']
   ·have g3:w'.nm d (css++List.replicate k [AV.raw z0]).length=some (.at b t' 1):=g3;rw[Ve]at g3;exact .rs d _ 1 _ b t' cap g3 Wt VB jC
  ·have hold:ci w css.flatten (cur.toList.take l):=by
    refine⟨by simp only[List.length_take,Array.length_toList];omega,fun j a v ZL hv=>?_⟩;rw[List.getElem?_take]at hv;split at hv
    ·exact Xr j a v ZL (by simpa using hv)
    ·cases hv
   have Vj:=hold.append Vv;rw[<-List.flatten_append]at Vj;obtain⟨w',e1,g1,g2,g3⟩:=tc (i:=d) (e:=e) (cap:=grownCap w.toWorld (l+k) cap e) (css:=css++List.replicate k [AV.raw z0]) (rest:=Builtin.zeroCells z.cells (grownCap w.toWorld (l+k) cap e-(l+k))) hw jC Vm Vj (by rw[Ve];exact W8 _ _) (by rw[Ve];exact haE _) (hw.later hd (by show css.length<_;rw[Ve];omega)) (fun r hr=>by rw[hd]at hr;cases hr;show css.length<=_;rw[Ve];omega);rw[Ve]at g3;refine⟨w',_,_,_,?_,hk,g1,g3,g2⟩;rw[e1];have XZ:(Builtin.firstCells 1 l (.slice (some ⟨b,0,none⟩) l cap)).run P w.drew=.ok (cur.toList.take l).toArray w.drew:=by
    refine run_firstCells_some (P:=P) w.drew 1 l ⟨b,0,none⟩ l cap _ (by simp only[List.length_take,Array.length_toList];omega) (fun j v h=>?_);rw[List.getElem?_take]at h;split at h
    ·rw[ju,th (w:=w.drew) b _ cur e (0,0) hh,Nat.zero_add];simpa using h
    ·cases h
   have VR:¬(l+k<=cap):=VB;have Xa:¬(9223372036854775807<(l:Int)+(k:Int)):=jB;have haD:=growslice_fits (bytes:=i.bytes) (old:=cap) (show cap<l+k from jB) Xh;have W4:¬(281474976710656<Builtin.nextslicecap (l+k) cap*i.bytes):=jB;have Vh:¬(k=0):=jB;simp[Builtin.append_,run_underlying hu,run_underlying Zr,sizeOf,typeInfo,zeroValue,hi,Xd,Vt,asInt,asIntOf,YG,WG,W4,VR,Xa,X0,Vh,Question.forced,XZ,newRow,grownCap,X7,zY];congr 2
   apply Array.ext';simp
end
abbrev sE:UR:=⟨#[]⟩
def vI(n:Int):aj:=⟨1,n,sE⟩
def vB(b:Bool):aj:=⟨2,if b=true then 1 else 0,sE⟩
def vT(s:UR):aj:=⟨3,0,s⟩
def vZ(t:Int):aj:=⟨t,0,sE⟩
def v0:aj:=⟨0,0,sE⟩
def mg(v:aj):Bool:=
 if v.ty=1 then decide (v.s=sE)
 else if v.ty=2 then decide (v.s=sE) && (decide (v.n=0) || decide (v.n=1))
 else if v.ty=3 then decide (v.n=0) && decide ((v.s.size:Int)<=40)
 else if v.ty=4 then decide (v.s=sE) && decide (0<=v.n)
 else false
def vf(sign:UR)(a b:Int):aj×Int:=
 if sign=(⟨#[43]⟩:UR)then(vI (IntKind.i64.wrap (a+b)),0)
 else if sign=(⟨#[45]⟩:UR)then(vI (IntKind.i64.wrap (a-b)),0)
 else if sign=(⟨#[42]⟩:UR)then(vI (IntKind.i64.wrap (a*b)),0)
 else if sign=(⟨#[47]⟩:UR)then(if b=0 then(v0,1)else(vI (IntKind.i64.wrap (a.tdiv b)),0))
 else if sign=(⟨#[37]⟩:UR)then(if b=0 then(v0,1)else(vI (a.tmod b),0))
 else if sign=(⟨#[60]⟩:UR)then(vB (decide (a<b)),0)
 else if sign=(⟨#[60,61]⟩:UR)then(vB (decide (a<=b)),0)
 else(v0,0)
def qu(sign:UR)(a b:aj):aj×Int:=
 if a.ty≠b.ty\/a.ty<1\/4<a.ty then(v0,0)
 else if sign=(⟨#[61,61]⟩:UR)then(vB (decide (a.n=b.n) && decide (a.s=b.s)),0)
 else if sign=(⟨#[33,61]⟩:UR)then(vB (!(decide (a.n=b.n) && decide (a.s=b.s))),0)
 else if a.ty=1 then vf sign a.n b.n
 else if a.ty=2 then(if sign=(⟨#[124,124]⟩:UR)then(vB (decide (a.n=1) || decide (b.n=1)),0)else if sign=(⟨#[38,38]⟩:UR)then(vB (decide (a.n=1) && decide (b.n=1)),0)else(v0,0))
 else if a.ty=3 then(if sign=(⟨#[43]⟩:UR)then(if(a.s.size:Int)+b.s.size>40 then(v0,6)else(vT (a.s++b.s),0))else(v0,0))
 else(v0,0)
def mT(sign:UR)(a:aj):aj:=
 if sign=(⟨#[45]⟩:UR)/\a.ty=1 then vI (IntKind.i64.wrap (-a.n))
 else if sign=(⟨#[33]⟩:UR)/\a.ty=2 then vB (!decide (a.n=1))
 else v0
def j8(n:Int):Bool:=decide (48<=n) && decide (n<=57)
def xv(n:Int):Bool:=(decide (97<=n) && decide (n<=122)) || (decide (65<=n) && decide (n<=90))
def xO(s:UR):Bool:=decide ((s.size:Int)<19) || (decide ((s.size:Int)=19) && (Op.bytesLess s.toList (⟨#[57,50,50,51,51,55,50,48,51,54,56,53,52,55,55,53,56,48,55]⟩:UR).toList || decide (s=(⟨#[57,50,50,51,51,55,50,48,51,54,56,53,52,55,55,53,56,48,55]⟩:UR))))
def pi(s:UR):Nat->Int
 |0=>1
 |k+1=>if eT s k=10 then pi s k+1 else pi s k
theorem G7(s:UR):∀k,1<=pi s k/\pi s k<=k+1
 |0=>by simp[pi]
 |k+1=>by have:=G7 s k;unfold pi;split<;>omega
def gb:List UR:=[(⟨#[102,110]⟩:UR),(⟨#[108,101,116]⟩:UR),(⟨#[105,102]⟩:UR),(⟨#[101,108,115,101]⟩:UR),(⟨#[119,104,105,108,101]⟩:UR),(⟨#[114,101,116,117,114,110]⟩:UR),(⟨#[112,114,105,110,116]⟩:UR),(⟨#[105,110,112,117,116]⟩:UR),(⟨#[110,101,119]⟩:UR),(⟨#[108,101,110]⟩:UR),(⟨#[116,114,117,101]⟩:UR),(⟨#[102,97,108,115,101]⟩:UR),(⟨#[105,110,116]⟩:UR),(⟨#[98,111,111,108]⟩:UR),(⟨#[116,101,120,116]⟩:UR),(⟨#[108,105,115,116]⟩:UR)]
def Q9:gb.length=16:=rfl
def uT(s:UR):Bool:=gb.any fun t=>decide (t=s)
-- the first one
theorem yn{α:Type}[Inhabited α]{p:α->Bool}:∀{l:List α} {k:Nat},(∀j,j<k->p (nth l j)=false)->k<l.length->p (nth l k)=true->l.find? p=some (nth l k)
 |[],k,_,h,_=>by simp at h
 |x::l,0,_,_,hp=>by have:p x=true:=hp;rw[List.find?_cons,this];rfl
 |x::l,k+1,h,hk,hp=>by have h0:p x=false:=h 0 jB;rw[List.find?_cons,h0];exact yn (fun j hj=>h (j+1) jB) (by simpa using hk) hp
variable{α:Type}
def AD[Inhabited α]{p:α->Bool}{l:List α}(h:∀j,j<l.length->p (nth l j)=false):l.find? p=none:=by rw[List.find?_eq_none];intro x hx;obtain⟨j,hj,rfl⟩:=List.getElem_of_mem hx;have:=h j hj;rw[fM hj]at this;simp[this]
def CG(h:k<n):nth (List.range n) k=k:=by simp[nth,h]
-- bytes of which p holds
def pE(p:Int->Bool)(s:UR):Nat->Nat->Nat
 |0,i=>i
 |n+1,i=>if i<s.size/\p (eT s i)=true then pE p s n (i+1)else i
def iP(p:Int->Bool)(s:UR)(i:Nat):Nat:=pE p s (s.size+1) i
theorem E7{p:Int->Bool}{s:UR}{k:Nat}(Ye:¬(k<s.size/\p (eT s k)=true)):∀{n i:Nat},i<=k->k<n+i->(∀j,i<=j->j<k->j<s.size/\p (eT s j)=true)->pE p s n i=k
 |0,i,h1,h2,_=>by omega
 |n+1,i,h1,h2,h3=>by
  unfold pE;by_cases e:i=k
  ·subst e;rw[if_neg Ye]
  ·rw[if_pos (h3 i jl jB)];exact E7 Ye jB jB fun j hj=>h3 j jB
variable{p:Int->Bool}{s:UR}
def zv(Ye:¬(k<s.size/\p (eT s k)=true))(h1:i<=k)(hk:k<=s.size)(h3:∀j,i<=j->j<k->p (eT s j)=true):iP p s i=k:=
 E7 Ye h1 jB fun j hj hjk=>⟨jB,h3 j hj hjk⟩
theorem zW{p:Int->Bool}{s:UR}:∀{n i:Nat},i<=pE p s n i/\(i<=s.size->pE p s n i<=s.size)
 |0,i=>⟨Nat.le_refl _,id⟩
 |n+1,i=>by
  unfold pE;split
  ·have:=zW (p:=p) (s:=s) (n:=n) (i:=i+1);exact⟨jB,fun _=>this.2 jB⟩
  ·exact⟨Nat.le_refl _,id⟩
def vM(h:i<=s.size):i<=iP p s i/\iP p s i<=s.size:=⟨zW.1,zW.2 h⟩
def xH(h:i<s.size)(hp:p (eT s i)=true):i<iP p s i:=by unfold iP;unfold pE;rw[if_pos ⟨h,hp⟩];have:=(zW (p:=p) (s:=s) (n:=s.size) (i:=i+1)).1;omega
theorem Fg{p:Int->Bool}{s:UR}:∀{n i j:Nat},i<=j->j<pE p s n i->p (eT s j)=true
 |0,i,j,h1,h2=>by unfold pE at h2;omega
 |n+1,i,j,h1,h2=>by
  unfold pE at h2;split at h2
  ·rename_i h;by_cases e:j=i
   ·subst e;exact h.2
   ·exact Fg jB h2
  ·omega
-- jf between tokens
def yo(c:Int):Bool:=decide (c=32) || decide (c=9) || decide (c=13) || decide (c=10)
def za(s:UR)(i:Nat):Bool:=decide (eT s i=47) && decide (i+1<s.size) && decide (eT s (i+1:Nat)=47)
def tM(c:Int):Bool:=decide (c≠10)
def mA(s:UR)(i:Nat):Option Nat:=if i<s.size then(if yo (eT s i)=true then some (i+1)else if za s i=true then some (iP tM s i)else none)else none
def nL(s:UR):Nat->Nat->Nat
 |0,i=>i
 |n+1,i=>match mA s i with
  |some j=>nL s n j
  |none=>i
def zV(h:mA s i=some j):i<j/\j<=s.size:=by
 unfold mA at h;split at h
 ·rename_i hi;split at h
  ·cases h;omega
  ·split at h
   ·rename_i hc;cases h;have VM:tM (eT s i)=true:=by
     simp only[za,Bool.and_eq_true,decide_eq_true_eq]at hc;simp[tM,hc.1.1]
    exact⟨xH hi VM,(vM jB).2⟩
   ·cases h
 ·cases h
theorem IP(s:UR):∀(n m i:Nat),s.size<n+i->s.size<m+i->nL s n i=nL s m i
 |0,0,i,_,_=>rfl
 |0,m+1,i,h,_=>by
  unfold nL;have:mA s i=none:=by unfold mA;rw[jN]
  rw[this]
 |n+1,0,i,_,h=>by
  unfold nL;have:mA s i=none:=by unfold mA;rw[jN]
  rw[this]
 |n+1,m+1,i,h1,h2=>by
  unfold nL;cases e:mA s i with
  |none=>rfl
  |some j=> have:=zV e;exact IP s n m j jB jB
def o9(s:UR)(i:Nat):Nat:=nL s (s.size+1) i
def Kl(h:mA s i=some j):o9 s i=o9 s j:=by have:=zV h;show nL s (s.size+1) i=nL s (s.size+1) j;rw[nL,h];exact IP s _ _ j jB jB
def JP(h:mA s i=none):o9 s i=i:=by show nL s (s.size+1) i=i;rw[nL,h]
theorem C0{s:UR}:∀{n i:Nat},i<=nL s n i/\(i<=s.size->nL s n i<=s.size)
 |0,i=>⟨Nat.le_refl _,id⟩
 |n+1,i=>by
  unfold nL;cases e:mA s i with
  |none=>exact⟨Nat.le_refl _,id⟩
  |some j=> have h1:=zV e;have h2:=C0 (s:=s) (n:=n) (i:=j);exact⟨by simp only;omega,fun _=>h2.2 h1.2⟩
def vY(h:i<=s.size):i<=o9 s i/\o9 s i<=s.size:=⟨C0.1,C0.2 h⟩
-- tokens
def uC(c:Int):Bool:=decide (32<=c) && decide (c<=126) && decide (c≠34)
def oX(s:UR)(a:Nat):UR×Int×Int:=
 let i:=iP uC s (a+1)
 if i<s.size/\eT s i=34 then(if(i:Int)-a-1>12 then(⟨#[]⟩,a,4)else(s.extract (a+1) i,(i:Int)+1,0))else(⟨#[]⟩,a,11)
def jn:List UR:=[(⟨#[124,124]⟩:UR),(⟨#[38,38]⟩:UR),(⟨#[60,61]⟩:UR),(⟨#[61,61]⟩:UR),(⟨#[33,61]⟩:UR)]
def iL:UR:=(⟨#[40,41,123,125,91,93,44,59,61,60,43,45,42,47,37,33]⟩:UR)
def qG(s t:UR):Bool:=decide (2<=(s.size:Int)) && decide (s.extract 0 2=t)
def nR(s:UR):UR:=match jn.find? (qG s)with
 |some t=>t
 |none=>match (List.range 16).find? fun k:Nat=>decide (eT s 0=eT iL (k:Nat))with
  |some k=>iL.extract k (k+1)
  |none=>⟨#[]⟩
def pD(c:Int):Bool:=xv c || j8 c || decide (c=95)
def Rm{b:UR}(h:b.size=0):b=⟨#[]⟩:=by obtain⟨d⟩:=b;have:d=#[]:=Array.size_eq_zero_iff.1 h;rw[this]
def wc:cB:=⟨0,⟨#[]⟩,0⟩
def ix(s:UR)(a:Nat):cB×Int×Int:=
 if j8 (eT s a)=true then
  (if xO (s.extract a (iP j8 s a))=true then(⟨1,s.extract a (iP j8 s a),a⟩,(iP j8 s a:Nat),0)else(wc,a,12))
 else if xv (eT s a)=true then
  (if uT (s.extract a (iP pD s a))=true then(⟨4,s.extract a (iP pD s a),a⟩,(iP pD s a:Nat),0)
  else if((s.extract a (iP pD s a)).size:Int)>8 then(wc,a,13)else(⟨3,s.extract a (iP pD s a),a⟩,(iP pD s a:Nat),0))
 else if eT s a=34 then(⟨2,(oX s a).1,a⟩,(oX s a).2.1,(oX s a).2.2)
 else if nR (s.extract a s.size)=⟨#[]⟩then(wc,a,10)
 else(⟨5,nR (s.extract a s.size),a⟩,a+(nR (s.extract a s.size)).size,0)
def MJ(s:UR):(nR s).size<=2:=by
 unfold nR;cases h:jn.find? (qG s)with
 |some t=> have hm:=List.mem_of_find?_eq_some h;have:∀t∈jn,t.size<=2:=jC;exact this t hm
 |none=>
  cases h2:(List.range 16).find? fun k:Nat=>decide (eT s 0=eT iL (k:Nat))with
  |some k=> simp only;rw[ByteArray.size_extract];omega
  |none=>decide
variable{t:UR}
def Lb(h:jn.find? (qG s)=some t):t.size=2/\2<=s.size:=by have hm:=List.mem_of_find?_eq_some h;have hp:=List.find?_some h;have:∀t∈jn,t.size=2:=jC;simp only[qG,Bool.and_eq_true,decide_eq_true_eq]at hp;exact⟨this t hm,jB⟩
def MO(hs:0<s.size):(nR s).size<=s.size:=by
 unfold nR;cases h:jn.find? (qG s)with
 |some t=>have:=Lb h;simp only;omega
 |none=>
  cases h2:(List.range 16).find? fun k:Nat=>decide (eT s 0=eT iL (k:Nat))with
  |some k=> simp only;rw[ByteArray.size_extract];omega
  |none=>exact Nat.zero_le _
variable{a:Nat}
def zQ(ha:a<s.size)(h:(ix s a).2.2=0):∃e:Nat,(ix s a).2.1=e/\a<e/\e<=s.size:=by
 unfold ix at h ⊢;split at h<;>rename_i h1
 ·rw[if_pos h1]at*;split at h<;>rename_i h2
  ·rw[if_pos h2];exact⟨_,rfl,xH ha h1,(vM jB).2⟩
  ·cases h
 ·rw[if_neg h1]at*;split at h<;>rename_i h2
  ·rw[if_pos h2];have hw:pD (eT s a)=true:=by simp[pD,h2]
   split at h<;>rename_i h3
   ·rw[if_pos h3];exact⟨_,rfl,xH ha hw,(vM jB).2⟩
   ·rw[if_neg h3];split at h<;>rename_i h4
    ·cases h
    ·rw[if_neg h4];exact⟨_,rfl,xH ha hw,(vM jB).2⟩
  ·rw[if_neg h2];split at h<;>rename_i h3
   ·rw[if_pos h3];have hb:=vM (p:=uC) (s:=s) (i:=a+1) jB;simp only[oX]at h ⊢;split at h<;>rename_i h4
    ·rw[if_pos h4];split at h<;>rename_i h5
     ·cases h
     ·rw[if_neg h5];exact⟨iP uC s (a+1)+1,jE,jB,jB⟩
    ·cases h
   ·rw[if_neg h3];split at h<;>rename_i h4
    ·cases h
    ·rw[if_neg h4];have U':(s.extract a s.size).size=s.size-a:=by rw[ByteArray.size_extract];omega
     have U6:=MO (s:=s.extract a s.size) jB;have Wg:0<(nR (s.extract a s.size)).size:=by
      rcases Nat.eq_zero_or_pos (nR (s.extract a s.size)).size with e|e
      ·exact(h4 (Rm e)).elim
      ·exact e
     exact⟨a+(nR (s.extract a s.size)).size,jE,jB,jB⟩
def lI(s:UR):Nat->Nat->List cB->List cB×Int×Int
 |0,_,out=>(out,0,0)
 |n+1,i,out=>if i<s.size then
   (if(ix s i).2.2=0 then lI s n (o9 s (ix s i).2.1.toNat) (out++[(ix s i).1])else([],((i:Nat):Int),(ix s i).2.2))
  else(out++[⟨0,⟨#[]⟩,s.size⟩],0,0)
theorem GR(s:UR):∀(n m i:Nat) (out:List cB),s.size<n+i->s.size<m+i->i<=s.size->lI s n i out=lI s m i out
 |0,_,i,_,h,_,h3=>by omega
 |_,0,i,_,_,h,h3=>jB
 |n+1,m+1,i,out,h1,h2,h3=>by
  unfold lI;split
  ·rename_i hi;split
   ·rename_i he;obtain⟨e,h4,h5,h6⟩:=zQ hi he;rw[h4,Int.toNat_natCast];have:=vY (s:=s) (i:=e) h6;exact GR s n m _ _ jB jB this.2
   ·rfl
  ·rfl
def uY(s:UR)(i:Nat)(out:List cB):List cB×Int×Int:=lI s (s.size+1) i out
variable{out:List cB}
def S3(hi:i<s.size)(he:(ix s i).2.2=0):uY s i out=uY s (o9 s (ix s i).2.1.toNat) (out++[(ix s i).1]):=by show lI s (s.size+1) i out=lI s (s.size+1) _ _;rw[lI,if_pos hi,if_pos he];obtain⟨e,h4,h5,h6⟩:=zQ hi he;rw[h4,Int.toNat_natCast];have:=vY (s:=s) (i:=e) h6;exact GR s _ _ _ _ jB jB this.2
def TI(hi:i<s.size)(he:(ix s i).2.2≠0):uY s i out=([],((i:Nat):Int),(ix s i).2.2):=by show lI s (s.size+1) i out=_;rw[lI,if_pos hi,if_neg he]
def SS(hi:¬i<s.size):uY s i out=(out++[⟨0,⟨#[]⟩,s.size⟩],0,0):=by show lI s (s.size+1) i out=_;rw[lI,if_neg hi]
def kX(s:UR):List cB×Int×Int:=if(s.size:Int)>600 then([],0,4)else uY s (o9 s 0) []
structure Rd where
 src:ByteArray
 l:List cB
 i:Int
 nodes:List bq
 deep:Int
 e:Int
 at_:Int
 deriving Inhabited
namespace Rd
def tok(r:Rd):cB:=nth r.l r.i.toNat
def aE(r:Rd)(e:Int):Rd:=if r.e=0 then{ r with e:=e,at_:=r.tok.at_ }else r
def is(r:Rd)(t:UR):Bool:=decide (r.e=0) && (decide (r.tok.kind=5) || decide (r.tok.kind=4)) && decide (r.tok.text=t)
def kind(r:Rd)(k:Int):Bool:=decide (r.e=0) && decide (r.tok.kind=k)
def inc(r:Rd):Rd:={ r with i:=r.i+1 }
def av(r:Rd)(t:UR):Rd:=if r.is t=true then r.inc else r.aE 20
def name(r:Rd):Rd×UR:=if r.kind 3=true then(r.inc,r.tok.text)else(r.aE 20,⟨#[]⟩)
def cV(r:Rd):Int:=pi r.src (min r.src.size r.tok.at_.toNat)
def node(r:Rd)(n:bq):Rd:={ r with nodes:=r.nodes++[n] }
def put(r:Rd)(k ln n:Int)(nm:UR)(L:UP):Rd×Int:=(r.node ⟨k,ln,n,nm,L⟩,r.nodes.length)
def down(r:Rd):Rd:={ (if 16<=r.deep then r.aE 21 else r)with deep:=r.deep+1 }
def up(r:Rd):Rd:={ r with deep:=r.deep-1 }
end Rd
def nq(level:Int):List UR:=
 if level=0 then[(⟨#[124,124]⟩:UR)]else if level=1 then[(⟨#[38,38]⟩:UR)]else if level=2 then[(⟨#[60]⟩:UR),(⟨#[60,61]⟩:UR),(⟨#[61,61]⟩:UR),(⟨#[33,61]⟩:UR)]else if level=3 then[(⟨#[43]⟩:UR),(⟨#[45]⟩:UR)]else[(⟨#[42]⟩:UR),(⟨#[47]⟩:UR),(⟨#[37]⟩:UR)]
namespace Rd
section
variable (r:Rd)(e:Int)
@[go_sem] def Kk:(r.aE e).src=r.src:=by unfold aE;split<;>rfl
@[go_sem] def gO:(r.aE e).l=r.l:=by unfold aE;split<;>rfl
@[go_sem] def wl:(r.aE e).i=r.i:=by unfold aE;split<;>rfl
@[go_sem] def dN:(r.aE e).nodes=r.nodes:=by unfold aE;split<;>rfl
@[go_sem] def KZ:(r.aE e).deep=r.deep:=by unfold aE;split<;>rfl
end
section
variable (r:Rd)
@[go_sem] def j8N:(r.inc.src=r.src)/\(r.inc.l=r.l)/\(r.inc.i=r.i+1)/\(r.inc.nodes=r.nodes)/\(r.inc.deep=r.deep)/\(r.inc.e=r.e)/\(r.inc.at_=r.at_)/\(r.up.src=r.src)/\(r.up.l=r.l)/\(r.up.i=r.i)/\(r.up.nodes=r.nodes)/\(r.up.deep=r.deep-1)/\(r.up.e=r.e)/\(r.up.at_=r.at_):=by and_intros<;>(intros;rfl)
end
def next(r:Rd)(level:Int):UR:=match (nq level).find? (fun s=>r.is s)with
 |some s=>s
 |none=>⟨#[]⟩
def oh(r:Rd):cB:=nth r.l (r.i+1).toNat
def calls(r:Rd):Bool:=r.kind 3 && decide (r.oh.kind=5) && decide (r.oh.text=(⟨#[40]⟩:UR))
def word(r:Rd):UR:=if r.kind 4=true then r.tok.text else⟨#[]⟩
end Rd
def xl(s:UR):Nat->Int
 |0=>0
 |k+1=>xl s k*10+(eT s k-48)
def qf(s:UR):Int:=xl s s.size
mutual
def qK:Nat->Rd->Rd×Int
 |0,r=>(r,0)
 |n+1,r=>
  if r.e≠0 then(r,0)
  else if r.tok.kind=1 then r.inc.put 1 r.cV (qf r.tok.text) ⟨#[]⟩ []
  else if r.tok.kind=2 then r.inc.put 3 r.cV 0 r.tok.text []
  else if r.tok.kind=3 then
   (if r.inc.is (⟨#[91]⟩:UR)=true then
    (((dV n 0 (r.inc.down.av (⟨#[91]⟩:UR))).1.av (⟨#[93]⟩:UR)).up).put 5 r.cV 0 r.tok.text [(dV n 0 (r.inc.down.av (⟨#[91]⟩:UR))).2]
   else r.inc.put 4 r.cV 0 r.tok.text [])
  else if r.is (⟨#[116,114,117,101]⟩:UR)=true then r.inc.put 2 r.cV 1 ⟨#[]⟩ []
  else if r.is (⟨#[102,97,108,115,101]⟩:UR)=true then r.inc.put 2 r.cV 0 ⟨#[]⟩ []
  else if r.is (⟨#[108,101,110]⟩:UR)=true then
   (if r.inc.is (⟨#[40]⟩:UR)=true then
    (((dV n 0 (r.inc.down.av (⟨#[40]⟩:UR))).1.av (⟨#[41]⟩:UR)).up).put 6 r.cV 0 ⟨#[]⟩ [(dV n 0 (r.inc.down.av (⟨#[40]⟩:UR))).2]
   else(r.inc.aE 20,0))
  else if r.is (⟨#[40]⟩:UR)=true then
   (((dV n 0 (r.down.av (⟨#[40]⟩:UR))).1.av (⟨#[41]⟩:UR)).up,(dV n 0 (r.down.av (⟨#[40]⟩:UR))).2)
  else(r.aE 20,0)
def iJ:Nat->Rd->Rd×Int
 |0,r=>(r,0)
 |n+1,r=>
  if r.is (⟨#[45]⟩:UR)=true then((iJ n r.down.inc).1.up).put 7 r.cV 0 ⟨#[]⟩ [(iJ n r.down.inc).2]
  else if r.is (⟨#[33]⟩:UR)=true then((iJ n r.down.inc).1.up).put 8 r.cV 0 ⟨#[]⟩ [(iJ n r.down.inc).2]
  else qK n r
def dV:Nat->Nat->Rd->Rd×Int
 |0,_,r=>(r,0)
 |n+1,lv,r=>if lv=5 then iJ n r else oT n lv r.cV (dV n (lv+1) r)
def oT:Nat->Nat->Int->Rd×Int->Rd×Int
 |0,_,_,p=>p
 |n+1,lv,ln,p=>
  if p.1.next lv=⟨#[]⟩then p
  else if lv=2 then((dV n (lv+1) p.1.inc).1).put 9 ln 0 (p.1.next lv) [p.2,(dV n (lv+1) p.1.inc).2]
  else oT n lv ln (((dV n (lv+1) p.1.inc).1).put 9 ln 0 (p.1.next lv) [p.2,(dV n (lv+1) p.1.inc).2])
end
-- what is kept
def Rd.rem(r:Rd):Nat:=if r.e=0 then(r.l.length-r.i).toNat else 0
def Rd.dO(r:Rd):Int:=r.nodes.length+3*(r.l.length-r.i)+if r.e=0 then 1 else 0
def sn(s:UR):Prop:=0<s.size/\xO s=true/\∀j,j<s.size->j8 (eT s j)=true
structure Rd.Inv(r:Rd):Prop where
 src:r.src.size<=1000
 pos:0<=r.i
 lt:r.i<r.l.length
 len:r.l.length<=2000
 num:∀k,k<r.l.length->(nth r.l k).kind=1->sn (nth r.l k).text
 tk:∀k,k<r.l.length->(nth r.l k).kind≠0->k+1<r.l.length
 pn:0<=r.deep
 pJ:r.deep<=17
 Un:r.e=0->r.deep<=16
 dO:r.dO<=8000
structure Rd.St(r r':Rd):Prop where
 src:r'.src=r.src
 l:r'.l=r.l
 deep:r'.deep=r.deep
 i:r.i<=r'.i
 lt:r'.i<r.l.length
 dO:r'.dO<=r.dO
 err:r.e≠0->r'.e≠0
variable{r r':Rd}
def Rd.St.inv(s:Rd.St r r')(h:r.Inv):r'.Inv:=by
 obtain⟨s1,s2,s3,s4,s5,s6,s7⟩:=s;obtain⟨h1,h2,h3,h4,hn,h5,h6,h7,h8,h9⟩:=h;exact⟨by rw[s1];exact h1,jB,by rw[s2];exact s5,by rw[s2];exact h4,by rw[s2];exact hn,by rw[s2];exact h5,jB,jB,fun h=>by rw[s3];exact h8 (Classical.byContradiction fun e=>s7 e h),jB⟩
def Rd.St.refl(h:r.Inv):Rd.St r r:=⟨rfl,rfl,rfl,Int.le_refl _,h.lt,Int.le_refl _,id⟩
theorem Rd.St.trans{a b c:Rd}(h:Rd.St a b)(k:Rd.St b c):Rd.St a c:=
 ⟨k.src.trans h.src,k.l.trans h.l,k.deep.trans h.deep,Int.le_trans h.i k.i,by have:=k.lt;rw[h.l]at this;exact this,Int.le_trans k.dO h.dO,fun e=>k.err (h.err e)⟩
theorem Rd.St.rem{r r':Rd}(s:Rd.St r r'):r'.rem<=r.rem:=by
 unfold Rd.rem;have h1:=s.i;have h2:=s.l;by_cases e:r.e=0
 ·rw[if_pos e,h2];split<;>omega
 ·rw[if_neg e,if_neg (s.err e)];exact Nat.le_refl _
def Rd.behind(h:r.Inv)(hk:r.tok.kind≠0):r.i+1<r.l.length:=by have:=h.tk r.i.toNat (by have:=h.lt;have:=h.pos;omega) hk;have:=h.pos;omega
def Rd.bc(h:r.is t=true):r.e=0/\r.tok.kind≠0:=by simp only[Rd.is,Bool.and_eq_true,Bool.or_eq_true,decide_eq_true_eq]at h;exact⟨h.1.1,by rcases h.1.2 with h|h<;>omega⟩
def Rd.dL{k:Int}(h:r.kind k=true)(h0:k≠0):r.e=0/\r.tok.kind≠0:=by simp only[Rd.kind,Bool.and_eq_true,decide_eq_true_eq]at h;exact⟨h.1,jB⟩
def Rd.fQ(h:r.Inv)(e:Int)(he:e≠0):Rd.St r (r.aE e):=by
 refine⟨Kk _ _,gO _ _,KZ _ _,by rw[wl];exact Int.le_refl _,by rw[wl];exact h.lt,?_,fun h1=>by unfold aE;rw[if_neg h1];exact h1⟩;unfold Rd.dO;rw[dN,gO,wl];by_cases e0:r.e=0
 ·have:(r.aE e).e=e:=by unfold aE;rw[if_pos e0]
  rw[this,if_pos e0,if_neg he];omega
 ·have:(r.aE e).e=r.e:=by unfold aE;rw[if_neg e0]
  rw[this];omega
def Rd.br(h:r.Inv)(hk:r.tok.kind≠0):Rd.St r r.inc/\r.inc.dO=r.dO-3:=by
 have:=Rd.behind h hk;have e:r.inc.dO=r.dO-3:=by simp only[Rd.dO,Rd.inc];omega
 exact⟨⟨rfl,rfl,rfl,by simp only[Rd.inc];omega,by simp only[Rd.inc];omega,jB,id⟩,e⟩
def Rd.aK(h:r.Inv)(t:UR):Rd.St r (r.av t):=by
 unfold Rd.av;split
 ·rename_i hs;exact(Rd.br h (Rd.bc hs).2).1
 ·exact Rd.fQ h 20 jC
def Rd.dv(h:r.Inv):Rd.St r r.name.1:=by
 unfold Rd.name;split
 ·rename_i hs;exact(Rd.br h (Rd.dL hs jC).2).1
 ·exact Rd.fQ h 20 jC
def Rd.mq(r:Rd)(n:bq):(r.node n).dO=r.dO+1:=by simp only[Rd.dO,Rd.node,List.length_append,List.length_cons,List.length_nil];omega
def Rd.cZ(s:Rd.St r r')(hp:r'.dO+1<=r.dO)(k ln n:Int)(nm:UR)(L:UP):Rd.St r (r'.put k ln n nm L).1:=
 ⟨s.src,s.l,s.deep,s.i,s.lt,by show(r'.node _).dO<=_;rw[Rd.mq];exact hp,s.err⟩
def Rd.uP:r.down.e=(if 16<=r.deep then r.aE 21 else r).e:=rfl
def Rd.bO(h:r.Inv)(he:r.e=0):r.down.Inv/\r.down.dO<=r.dO/\r.down.i=r.i/\r.down.l=r.l/\r.down.src=r.src/\r.down.deep=r.deep+1:=by
 have hd:=h.Un he;have hi:r.down.i=r.i:=by unfold Rd.down;split<;>simp[wl]
 have hl:r.down.l=r.l:=by unfold Rd.down;split<;>simp[gO]
 have hs:r.down.src=r.src:=by unfold Rd.down;split<;>simp[Kk]
 have hn:r.down.nodes=r.nodes:=by unfold Rd.down;split<;>simp[dN]
 have hdd:r.down.deep=r.deep+1:=rfl;have hee:r.down.e=0->r.deep<16:=fun e=>by
  rw[Rd.uP]at e;split at e
  ·unfold aE at e;rw[if_pos he]at e;cases e
  ·omega
 have hp:r.down.dO<=r.dO:=by unfold Rd.dO;rw[hn,hl,hi,if_pos he];split<;>omega
 refine⟨⟨by rw[hs];exact h.src,by rw[hi];exact h.pos,by rw[hi,hl];exact h.lt,by rw[hl];exact h.len,by rw[hl];exact h.num,by rw[hl];exact h.tk,by have:=h.pn;omega,jB,fun e=>by have:=hee e;omega,by have:=h.dO;omega⟩,hp,hi,hl,hs,hdd⟩
def Rd.fC(h:r.Inv)(he:r.e=0)(s:Rd.St r.down r'):Rd.St r r'.up:=by obtain⟨_,h1,h2,h3,h4,h5⟩:=Rd.bO h he;exact⟨s.src.trans h4,s.l.trans h3,by show r'.deep-1=_;rw[s.deep,h5];omega,by show r.i<=r'.i;rw[<-h2];exact s.i,by show r'.i<_;rw[<-h3];exact s.lt,by show r'.dO<=_;have:=s.dO;omega,fun e=>(e he).elim⟩
def Rd.lE{lv:Int}(h:r.next lv≠⟨#[]⟩):r.is (r.next lv)=true:=by
 unfold Rd.next at h ⊢;cases e:(nq lv).find? (fun s=>r.is s)with
 |none=>rw[e]at h;exact(h rfl).elim
 |some s=>exact List.find?_some e
def Rd.dc(h:r.Inv)(hk:r.e=0/\r.tok.kind≠0):r.inc.rem+1<=r.rem:=by have:=Rd.behind h hk.2;unfold Rd.rem;rw[if_pos hk.1,if_pos (show r.inc.e=0 from hk.1)];have:r.inc.i=r.i+1:=rfl;have:r.inc.l=r.l:=rfl;simp only[*];omega
theorem td:∀n,(∀r:Rd,r.Inv->Rd.St r (qK n r).1)/\(∀r:Rd,r.Inv->Rd.St r (iJ n r).1)/\(∀lv (r:Rd),r.Inv->Rd.St r (dV n lv r).1)/\(∀lv ln (p:Rd×Int),p.1.Inv->Rd.St p.1 (oT n lv ln p).1)
 |0=>⟨fun r h=>by unfold qK;exact .refl h,fun r h=>by unfold iJ;exact .refl h,fun lv r h=>by unfold dV;exact .refl h,fun lv ln p h=>by unfold oT;exact .refl h⟩
 |n+1=>by
  obtain⟨ia,lA,ic,il⟩:=td n
  -- a token, and what is behind it, deeper
  have deeper:∀(r:Rd) (t u:UR),r.Inv->r.e=0->Rd.St r ((dV n 0 (r.down.av t)).1.av u).up:=fun r t u h he=>by have h1:=(Rd.bO h he).1;have s1:=Rd.aK h1 t;have s2:=ic 0 _ (s1.inv h1);have s12:=s1.trans s2;have s3:=Rd.aK (s12.inv h1) u;exact Rd.fC h he (s12.trans s3)
  refine⟨fun r h=>?_,fun r h=>?_,fun lv r h=>?_,fun lv ln p h=>?_⟩
  ·unfold qK;split
   ·exact .refl h
   rename_i he;have he:r.e=0:=jB;split
   ·rename_i hk;obtain⟨s1,e1⟩:=Rd.br h jB;exact Rd.cZ s1 jB _ _ _ _ _
   split
   ·rename_i hk;obtain⟨s1,e1⟩:=Rd.br h jB;exact Rd.cZ s1 jB _ _ _ _ _
   split
   ·rename_i hk;obtain⟨s1,e1⟩:=Rd.br h jB;split
    ·have s2:=deeper r.inc (⟨#[91]⟩:UR) (⟨#[93]⟩:UR) (s1.inv h) he;exact Rd.cZ (s1.trans s2) (by have:=s2.dO;omega) _ _ _ _ _
    ·exact Rd.cZ s1 jB _ _ _ _ _
   split
   ·rename_i hs;obtain⟨s1,e1⟩:=Rd.br h (Rd.bc hs).2;exact Rd.cZ s1 jB _ _ _ _ _
   split
   ·rename_i hs;obtain⟨s1,e1⟩:=Rd.br h (Rd.bc hs).2;exact Rd.cZ s1 jB _ _ _ _ _
   split
   ·rename_i hs;obtain⟨s1,e1⟩:=Rd.br h (Rd.bc hs).2;split
    ·have s2:=deeper r.inc (⟨#[40]⟩:UR) (⟨#[41]⟩:UR) (s1.inv h) he;exact Rd.cZ (s1.trans s2) (by have:=s2.dO;omega) _ _ _ _ _
    ·exact s1.trans (Rd.fQ (s1.inv h) 20 jC)
   split
   ·exact deeper r (⟨#[40]⟩:UR) (⟨#[41]⟩:UR) h he
   ·exact Rd.fQ h 20 jC
  ·unfold iJ;have sg:∀t,r.is t=true->∀k ln nm,Rd.St r (((iJ n r.down.inc).1.up).put k ln 0 nm [(iJ n r.down.inc).2]).1:=fun t ht k ln nm=>by
    obtain⟨he,hk⟩:=Rd.bc ht;obtain⟨h1,h2,h3,h4,_⟩:=Rd.bO h he;have WM:r.down.tok=r.tok:=by unfold Rd.tok;rw[h3,h4]
    obtain⟨s1,e1⟩:=Rd.br h1 (by rw[WM];exact hk);have s2:=lA _ (s1.inv h1);exact Rd.cZ (Rd.fC h he (s1.trans s2)) (by have:=s2.dO;show(iJ n r.down.inc).1.dO+1<=_;omega) _ _ _ _ _
   split
   ·rename_i ht;exact sg _ ht _ _ _
   split
   ·rename_i ht;exact sg _ ht _ _ _
   ·exact ia r h
  ·unfold dV;split
   ·exact lA r h
   ·have s1:=ic (lv+1) r h;exact s1.trans (il _ _ _ (s1.inv h))
  ·unfold oT;split
   ·exact .refl h
   rename_i hn;obtain⟨s1,e1⟩:=Rd.br h (Rd.bc (Rd.lE hn)).2;have s2:=ic (lv+1) _ (s1.inv h);have s3:=fun L=>Rd.cZ (s1.trans s2) (by have:=s2.dO;omega) 9 ln 0 (p.1.next lv) L
   split
   ·exact s3 _
   ·exact(s3 _).trans (il _ _ _ ((s3 _).inv h))
def de(r:Rd):Rd×Int:=dV (8*r.rem+8) 0 r
def nJ:Nat->Bool->Rd->UP->Rd×UP
 |0,_,r,L=>(r,L)
 |_+1,false,r,L=>(r,L)
 |n+1,true,r,L=>if(de r).1.is (⟨#[44]⟩:UR)=true then nJ n true (de r).1.inc (L++[(de r).2])else((de r).1,L++[(de r).2])
def more(r:Rd):Bool:=!(r.is (⟨#[41]⟩:UR)) && decide (r.e=0)
def pv(r:Rd):Rd:=r.name.1.av (⟨#[40]⟩:UR)
def nY(r:Rd):Rd×UP:=nJ ((pv r).rem+2) (more (pv r)) (pv r) []
def mW(r:Rd):Rd×Int:=((nY r).1.av (⟨#[41]⟩:UR)).put 21 r.cV 0 r.name.2 (nY r).2
def lU(r:Rd):Rd×Int:=
 if r.is (⟨#[105,110,112,117,116]⟩:UR)=true then r.inc.put 19 r.cV 0 ⟨#[]⟩ []
 else if r.is (⟨#[110,101,119]⟩:UR)=true then((de (r.inc.av (⟨#[40]⟩:UR))).1.av (⟨#[41]⟩:UR)).put 20 r.cV 0 ⟨#[]⟩ [(de (r.inc.av (⟨#[40]⟩:UR))).2]
 else if r.calls=true then mW r else de r
def pe(r:Rd):Rd×Int:=de (r.down.av (⟨#[91]⟩:UR))
def uW(r:Rd):Rd×Int:=de (((pe r).1.av (⟨#[93]⟩:UR)).up.av (⟨#[61]⟩:UR))
def qc(r:Rd)(ln:Int):Rd×Int:=
 if r.calls=true then((mW r).1.av (⟨#[59]⟩:UR)).put 13 ln 0 ⟨#[]⟩ [(mW r).2]
 else if r.name.1.is (⟨#[91]⟩:UR)=true then((uW r.name.1).1.av (⟨#[59]⟩:UR)).put 12 ln 0 r.name.2 [(pe r.name.1).2,(uW r.name.1).2]
 else((lU (r.name.1.av (⟨#[61]⟩:UR))).1.av (⟨#[59]⟩:UR)).put 11 ln 0 r.name.2 [(lU (r.name.1.av (⟨#[61]⟩:UR))).2]
mutual
def gh:Nat->Rd->Rd×Int
 |0,r=>(r,0)
 |n+1,r=>
  if r.is (⟨#[123]⟩:UR)=true then((mL n (r.down.av (⟨#[123]⟩:UR)) []).1.av (⟨#[125]⟩:UR)).up.put 18 r.cV 0 ⟨#[]⟩ (mL n (r.down.av (⟨#[123]⟩:UR)) []).2
  else(r.aE 20,0)
def mL:Nat->Rd->UP->Rd×UP
 |0,r,L=>(r,L)
 |n+1,r,L=>if r.e=0/\r.is (⟨#[125]⟩:UR)=false then mL n (nT n r).1 (L++[(nT n r).2])else(r,L)
def nT:Nat->Rd->Rd×Int
 |0,r=>(r,0)
 |n+1,r=>
  if r.word=(⟨#[108,101,116]⟩:UR)then((lU (r.inc.name.1.av (⟨#[61]⟩:UR))).1.av (⟨#[59]⟩:UR)).put 10 r.cV 0 r.inc.name.2 [(lU (r.inc.name.1.av (⟨#[61]⟩:UR))).2]
  else if r.word=(⟨#[112,114,105,110,116]⟩:UR)then((de r.inc).1.av (⟨#[59]⟩:UR)).put 14 r.cV 0 ⟨#[]⟩ [(de r.inc).2]
  else if r.word=(⟨#[119,104,105,108,101]⟩:UR)then(gh n (de r.inc).1).1.put 16 r.cV 0 ⟨#[]⟩ [(de r.inc).2,(gh n (de r.inc).1).2]
  else if r.word=(⟨#[105,102]⟩:UR)then
   (if(gh n (de r.inc).1).1.is (⟨#[101,108,115,101]⟩:UR)=true then(gh n (gh n (de r.inc).1).1.inc).1.put 15 r.cV 0 ⟨#[]⟩ [(de r.inc).2,(gh n (de r.inc).1).2,(gh n (gh n (de r.inc).1).1.inc).2]
   else(gh n (de r.inc).1).1.put 15 r.cV 0 ⟨#[]⟩ [(de r.inc).2,(gh n (de r.inc).1).2])
  else if r.word=(⟨#[114,101,116,117,114,110]⟩:UR)then
   (if r.inc.is (⟨#[59]⟩:UR)=true then(r.inc.av (⟨#[59]⟩:UR)).put 17 r.cV 0 ⟨#[]⟩ []
   else((de r.inc).1.av (⟨#[59]⟩:UR)).put 17 r.cV 0 ⟨#[]⟩ [(de r.inc).2])
  else qc r r.cV
end
def oM(r:Rd):Rd×Int:=gh (4*r.rem+4) r
def sJ(w:UR):Int:=if w=(⟨#[105,110,116]⟩:UR)then 1 else if w=(⟨#[98,111,111,108]⟩:UR)then 2 else if w=(⟨#[116,101,120,116]⟩:UR)then 3 else if w=(⟨#[108,105,115,116]⟩:UR)then 4 else 0
def iZ(r:Rd):Rd×Int:=if sJ r.word=0 then(r.aE 20,0)else(r.inc,sJ r.word)
def pG(r:Rd):Rd:=(iZ r.name.1).1
def nb:Nat->Bool->Rd->List bM->Rd×List bM
 |0,_,r,L=>(r,L)
 |_+1,false,r,L=>(r,L)
 |n+1,true,r,L=>if(pG r).is (⟨#[44]⟩:UR)=true then nb n true (pG r).inc (L++[⟨r.name.2,(iZ r.name.1).2⟩])else(pG r,L++[⟨r.name.2,(iZ r.name.1).2⟩])
def nz(r:Rd):Rd:=(r.av (⟨#[102,110]⟩:UR)).name.1.av (⟨#[40]⟩:UR)
def tq(r:Rd):Rd×List bM:=nb ((nz r).rem+2) (more (nz r)) (nz r) []
def lR(r:Rd):Rd:=(tq r).1.av (⟨#[41]⟩:UR)
def mn(r:Rd):Rd×Int:=if(lR r).is (⟨#[123]⟩:UR)=true then(lR r,0)else iZ (lR r)
def mQ(r:Rd):Rd×bj:=((oM (mn r).1).1,⟨(r.av (⟨#[102,110]⟩:UR)).name.2,r.cV,(tq r).2,(mn r).2,(oM (mn r).1).2⟩)
def qx:Nat->Rd->List bj->Rd×List bj
 |0,r,L=>(r,L)
 |n+1,r,L=>if r.e=0/\r.kind 0=false then qx n (mQ r).1 (L++[(mQ r).2])else(r,L)
def oO(s:UR):Rd:=⟨s,(kX s).1,0,[],0,0,0⟩
def oi(s:UR):Rd×List bj:=qx ((oO s).rem+1) (oO s) []
def ut(t:List bq)(L:List bj):Bool:=decide (300<t.length) || decide (6<L.length) || L.any fun f=>decide (3<f.params.length)
def gY(s:UR):aH×Int×Int:=
 if(kX s).2.2≠0 then(⟨[],[]⟩,(kX s).2.1,(kX s).2.2)
 else if(oi s).1.e≠0 then(⟨[],[]⟩,(oi s).1.at_,(oi s).1.e)
 else if ut (oi s).1.nodes (oi s).2=true then(⟨[],[]⟩,0,4)
 else(⟨(oi s).1.nodes,(oi s).2⟩,0,0)
-- what is kept
def Rd.St.tS(s:Rd.St r r')(h:r.Inv)(he:r.e=0)(hi:r.i+1<=r'.i):r'.rem+1<=r.rem:=by have h1:=s.l;have h2:=s.lt;have h3:=h.pos;unfold Rd.rem;rw[if_pos he,h1];split<;>omega
def Rd.St.lW(h:r.Inv)(he:r.e=0)(hi:r'.e≠0):r'.rem+1<=r.rem:=by have h2:=h.lt;have h3:=h.pos;unfold Rd.rem;rw[if_pos he,if_neg hi];omega
def Rd.gQ{e:Int}(he:e≠0):(r.aE e).e≠0:=by
 unfold Rd.aE;split
 ·exact he
 ·assumption
def Rd.nX(h:r.Inv)(he:r.e=0)(t:UR):(r.av t).rem+1<=r.rem/\(r.av t).dO+1<=r.dO:=by
 unfold Rd.av;split
 ·rename_i hs;have hk:=Rd.bc hs;exact⟨Rd.dc h hk,by rw[(Rd.br h hk.2).2];omega⟩
 ·have ZJ:=Rd.gQ (r:=r) (e:=20) jC;refine⟨Rd.St.lW h he ZJ,?_⟩;unfold Rd.dO;rw[dN,gO,wl,if_pos he,if_neg ZJ];omega
def Rd.qV(h:r.Inv)(he:r.e=0):r.name.1.rem+1<=r.rem/\r.name.1.dO+1<=r.dO:=by
 unfold Rd.name;split
 ·rename_i hs;have hk:=Rd.dL hs jC;exact⟨Rd.dc h hk,by show r.inc.dO+1<=_;rw[(Rd.br h hk.2).2];omega⟩
 ·have ZJ:=Rd.gQ (r:=r) (e:=20) jC;refine⟨Rd.St.lW h he ZJ,?_⟩;show(r.aE 20).dO+1<=_;unfold Rd.dO;rw[dN,gO,wl,if_pos he,if_neg ZJ];omega
def Rd.gN(h:r.Inv)(ht:r.is t=true):(r.down.av t).rem+1<=r.rem/\(r.down.av t).dO+1<=r.dO:=by
 obtain⟨he,hk⟩:=Rd.bc ht;obtain⟨h1,h2,h3,h4,h5,h6⟩:=Rd.bO h he;by_cases e:r.down.e=0
 ·obtain⟨a,b⟩:=Rd.nX h1 e t;have:r.down.rem<=r.rem:=by
   unfold Rd.rem;rw[if_pos he,if_pos e,h3,h4];exact Nat.le_refl _
  omega
 ·have hs:=Rd.aK h1 t;have e2:(r.down.av t).e≠0:=hs.err e;refine⟨Rd.St.lW h he e2,?_⟩;have:r.down.dO+1<=r.dO:=by
   have hn:r.down.nodes=r.nodes:=by unfold Rd.down;split<;>simp[dN]
   unfold Rd.dO;rw[hn,h4,h3,if_pos he,if_neg e];omega
  have:=hs.dO;omega
def j4(h:r.Inv):Rd.St r (de r).1:=(td _).2.2.1 0 r h
theorem Dd:∀(n:Nat) (b:Bool) (r:Rd) (L:UP),r.Inv->Rd.St r (nJ n b r L).1
 |0,_,r,L,h=>by unfold nJ;exact .refl h
 |n+1,false,r,L,h=>by unfold nJ;exact .refl h
 |n+1,true,r,L,h=>by
  have s1:=j4 h;have h1:=s1.inv h;unfold nJ;split
  ·rename_i hs;have s2:=(Rd.br h1 (Rd.bc hs).2).1;exact(s1.trans s2).trans (Dd n _ _ _ (s2.inv h1))
  ·exact s1
def Ax(h:r.Inv):Rd.St r (pv r):=(Rd.dv h).trans (Rd.aK ((Rd.dv h).inv h) _)
def Dz(h:r.Inv):Rd.St r (nY r).1:=(Ax h).trans (Dd _ _ _ _ ((Ax h).inv h))
def Ux(h:r.Inv):Rd.St r ((nY r).1.av (⟨#[41]⟩:UR)):=(Dz h).trans (Rd.aK ((Dz h).inv h) _)
def Rd.j9(h:r.calls=true):r.kind 3=true:=by unfold Rd.calls at h;simp only[Bool.and_eq_true]at h;exact h.1.1
def DW(h:r.Inv)(hc:r.calls=true):Rd.St r (mW r).1/\(mW r).1.dO+2<=r.dO/\(mW r).1.rem+1<=r.rem:=by
 have hk:=Rd.dL (Rd.j9 hc) jC;have hn:r.name.1=r.inc:=by unfold Rd.name;rw[if_pos (Rd.j9 hc)]
 obtain⟨s1,e1⟩:=Rd.br h hk.2;have h1:=s1.inv h;have s2:Rd.St r.inc ((nY r).1.av (⟨#[41]⟩:UR)):=by
  have a1:Rd.St r.inc (pv r):=by unfold pv;rw[hn];exact Rd.aK h1 _
  have a2:Rd.St r.inc (nY r).1:=a1.trans (Dd _ _ _ _ (a1.inv h1));exact a2.trans (Rd.aK (a2.inv h1) _)
 have hp:=s2.dO;have s3:=Rd.cZ (s1.trans s2) jB 21 r.cV 0 r.name.2 (nY r).2;refine⟨s3,?_,?_⟩
 ·show(((nY r).1.av (⟨#[41]⟩:UR)).node _).dO+2<=_;rw[Rd.mq];omega
 ·refine s3.tS h hk.1 ?_;have:=s2.i;exact this
def zr(h:r.Inv):Rd.St r (lU r).1:=by
 unfold lU;split
 ·rename_i hs;obtain⟨s1,e1⟩:=Rd.br h (Rd.bc hs).2;exact Rd.cZ s1 jB _ _ _ _ _
 split
 ·rename_i hs;obtain⟨s1,e1⟩:=Rd.br h (Rd.bc hs).2;have h1:=s1.inv h;have s2:=Rd.aK h1 (⟨#[40]⟩:UR);have s3:=j4 (s2.inv h1);have s23:=s2.trans s3;have s4:=s23.trans (Rd.aK (s23.inv h1) (⟨#[41]⟩:UR));exact Rd.cZ (s1.trans s4) (by have:=s4.dO;omega) _ _ _ _ _
 split
 ·rename_i hc;exact(DW h hc).1
 ·exact j4 h
def BX(h:r.Inv)(hs:r.is (⟨#[91]⟩:UR)=true):Rd.St r.down (pe r).1/\Rd.St r ((pe r).1.av (⟨#[93]⟩:UR)).up:=by have he:=(Rd.bc hs).1;have h1:=(Rd.bO h he).1;have s1:=Rd.aK h1 (⟨#[91]⟩:UR);have s2:=s1.trans (j4 (s1.inv h1));exact⟨s2,Rd.fC h he (s2.trans (Rd.aK (s2.inv h1) _))⟩
def y8(h:r.Inv)(hs:r.is (⟨#[91]⟩:UR)=true):Rd.St r (((pe r).1.av (⟨#[93]⟩:UR)).up.av (⟨#[61]⟩:UR))/\Rd.St r (uW r).1:=by have s1:=(BX h hs).2;have s2:=s1.trans (Rd.aK (s1.inv h) (⟨#[61]⟩:UR));exact⟨s2,s2.trans (j4 (s2.inv h))⟩
def Mm(h:r.Inv)(he:r.e=0)(ln:Int):Rd.St r (qc r ln).1/\(qc r ln).1.rem+1<=r.rem:=by
 unfold qc;have s0:=Rd.dv h;have h0:=s0.inv h;obtain⟨n1,n2⟩:=Rd.qV h he
 -- a name, and what is behind it
 have fin:∀(q:Rd) k L,Rd.St r.name.1 q->Rd.St r (q.put k ln 0 r.name.2 L).1/\(q.put k ln 0 r.name.2 L).1.rem+1<=r.rem:=fun q k L s=>by refine⟨Rd.cZ (s0.trans s) (by have:=s.dO;omega) _ _ _ _ _,?_⟩;have:=s.rem;show q.rem+1<=_;omega
 split
 ·rename_i hc;obtain⟨s1,p1,r1⟩:=DW h hc;have s2:=Rd.aK (s1.inv h) (⟨#[59]⟩:UR);refine⟨Rd.cZ (s1.trans s2) (by have:=s2.dO;omega) _ _ _ _ _,?_⟩;have:=s2.rem;show((mW r).1.av (⟨#[59]⟩:UR)).rem+1<=_;omega
 split
 ·rename_i hs;have s1:=(y8 h0 hs).2;exact fin _ _ _ (s1.trans (Rd.aK (s1.inv h0) _))
 ·have s1:=Rd.aK h0 (⟨#[61]⟩:UR);have s2:=s1.trans (zr (s1.inv h0));exact fin _ _ _ (s2.trans (Rd.aK (s2.inv h0) _))
def Rd.gW{w:UR}(h:r.word=w)(h0:w≠⟨#[]⟩):r.kind 4=true:=by
 unfold Rd.word at h;split at h
 ·assumption
 ·exact absurd h.symm h0
theorem sD:∀n,(∀r:Rd,r.Inv->Rd.St r (gh n r).1)/\(∀(r:Rd) L,r.Inv->Rd.St r (mL n r L).1)/\(∀r:Rd,r.Inv->r.e=0->0<n->Rd.St r (nT n r).1/\(nT n r).1.rem+1<=r.rem)
 |0=>⟨fun r h=>by unfold gh;exact .refl h,fun r L h=>by unfold mL;exact .refl h,fun r h he hn=>by omega⟩
 |n+1=>by
  obtain⟨ib,is,it⟩:=sD n;refine⟨fun r h=>?_,fun r L h=>?_,fun r h he _=>?_⟩
  ·unfold gh;split
   ·rename_i hs;have he:=(Rd.bc hs).1;have h1:=(Rd.bO h he).1;have s1:=Rd.aK h1 (⟨#[123]⟩:UR);have s2:=is _ [] (s1.inv h1);have s12:=s1.trans s2;have s3:=Rd.aK (s12.inv h1) (⟨#[125]⟩:UR);have hp:=(Rd.gN h hs).2;refine Rd.cZ (Rd.fC h he (s12.trans s3)) ?_ _ _ _ _ _;have:=s2.dO;have:=s3.dO;show((mL n (r.down.av (⟨#[123]⟩:UR)) []).1.av (⟨#[125]⟩:UR)).dO+1<=_;omega
   ·exact Rd.fQ h 20 jC
  ·unfold mL;split
   ·rename_i hc;cases n with
    |zero=>unfold mL nT;exact .refl h
    |succ n=> have s1:=(it r h hc.1 jB).1;exact s1.trans (is _ _ (s1.inv h))
   ·exact .refl h
  ·-- a word, and what is behind it
   have fin:∀(w:UR) (q:Rd) k ln nm L,w≠⟨#[]⟩->r.word=w->(r.inc.Inv->Rd.St r.inc q)->Rd.St r (q.put k ln 0 nm L).1/\(q.put k ln 0 nm L).1.rem+1<=r.rem:=fun w q k ln nm L h0 hw s=>by have hk:=Rd.dL (Rd.gW hw h0) jC;obtain⟨s1,e1⟩:=Rd.br h hk.2;have s2:=s (s1.inv h);refine⟨Rd.cZ (s1.trans s2) (by have:=s2.dO;omega) _ _ _ _ _,?_⟩;have:=s2.rem;have:=Rd.dc h hk;show q.rem+1<=_;omega
   unfold nT;split
   ·rename_i hw;refine fin _ _ _ _ _ _ jC hw fun h1=>?_
    have s1:=Rd.dv h1;have s2:=s1.trans (Rd.aK (s1.inv h1) (⟨#[61]⟩:UR));have s3:=s2.trans (zr (s2.inv h1));exact s3.trans (Rd.aK (s3.inv h1) _)
   split
   ·rename_i hw;refine fin _ _ _ _ _ _ jC hw fun h1=>?_
    have s1:=j4 h1;exact s1.trans (Rd.aK (s1.inv h1) _)
   split
   ·rename_i hw;refine fin _ _ _ _ _ _ jC hw fun h1=>?_
    have s1:=j4 h1;exact s1.trans (ib _ (s1.inv h1))
   split
   ·rename_i hw;split
    ·rename_i hs;refine fin _ _ _ _ _ _ jC hw fun h1=>?_
     have s1:=j4 h1;have s2:=s1.trans (ib _ (s1.inv h1));have h2:=s2.inv h1;have s3:=(Rd.br h2 (Rd.bc hs).2).1;exact(s2.trans s3).trans (ib _ (s3.inv h2))
    ·refine fin _ _ _ _ _ _ jC hw fun h1=>?_
     have s1:=j4 h1;exact s1.trans (ib _ (s1.inv h1))
   split
   ·rename_i hw;split
    ·exact fin _ _ _ _ _ _ jC hw fun h1=>Rd.aK h1 _
    ·refine fin _ _ _ _ _ _ jC hw fun h1=>?_
     have s1:=j4 h1;exact s1.trans (Rd.aK (s1.inv h1) _)
   ·exact Mm h he _
def BT(h:r.Inv):Rd.St r (oM r).1:=(sD _).1 r h
def KM(h:sJ r.word≠0):r.e=0/\r.tok.kind≠0:=by refine Rd.dL (k:=4) (Rd.gW (r:=r) rfl fun e=>?_) jC;rw[e]at h;exact h jC
def Em(h:r.Inv):Rd.St r (iZ r).1:=by
 unfold iZ;split
 ·exact Rd.fQ h 20 jC
 ·rename_i ht;exact(Rd.br h (KM ht).2).1
def H8(h:r.Inv):Rd.St r (pG r):=(Rd.dv h).trans (Em ((Rd.dv h).inv h))
theorem Ky:∀(n:Nat) (b:Bool) (r:Rd) (L:List bM),r.Inv->Rd.St r (nb n b r L).1
 |0,_,r,L,h=>by unfold nb;exact .refl h
 |n+1,false,r,L,h=>by unfold nb;exact .refl h
 |n+1,true,r,L,h=>by
  have s1:=H8 h;have h1:=s1.inv h;unfold nb;split
  ·rename_i hs;have s2:=(Rd.br h1 (Rd.bc hs).2).1;exact(s1.trans s2).trans (Ky n _ _ _ (s2.inv h1))
  ·exact s1
def qo(h:r.Inv):Rd.St r (r.av (⟨#[102,110]⟩:UR))/\Rd.St r (r.av (⟨#[102,110]⟩:UR)).name.1/\Rd.St r (nz r)/\Rd.St (r.av (⟨#[102,110]⟩:UR)) (nz r):=by have s1:=Rd.aK h (⟨#[102,110]⟩:UR);have h1:=s1.inv h;have s2:=Rd.dv h1;have s3:=s2.trans (Rd.aK (s2.inv h1) (⟨#[40]⟩:UR));exact⟨s1,s1.trans s2,s1.trans s3,s3⟩
def CS(h:r.Inv):Rd.St (r.av (⟨#[102,110]⟩:UR)) (tq r).1:=(qo h).2.2.2.trans (Ky _ _ _ _ ((qo h).2.2.1.inv h))
def zt(h:r.Inv):Rd.St (r.av (⟨#[102,110]⟩:UR)) (lR r):=(CS h).trans (Rd.aK ((CS h).inv ((qo h).1.inv h)) _)
def yB(h:r.Inv):Rd.St (r.av (⟨#[102,110]⟩:UR)) (mn r).1:=by
 unfold mn;split
 ·exact zt h
 ·exact(zt h).trans (Em ((zt h).inv ((qo h).1.inv h)))
def EY(h:r.Inv):Rd.St r (mQ r).1/\(r.e=0->(mQ r).1.rem+1<=r.rem):=by have h1:=(qo h).1.inv h;have s:=(yB h).trans (BT ((yB h).inv h1));refine⟨(qo h).1.trans s,fun he=>?_⟩;have:=(Rd.nX h he (⟨#[102,110]⟩:UR)).1;have:(oM (mn r).1).1.rem<=_:=s.rem;show(oM (mn r).1).1.rem+1<=_;omega
def SR{e:Nat}(he:e<=s.size)(hj:a+j<e):eT (s.extract a e) (j:Nat)=eT s ((a+j:Nat):Int):=by unfold eT;have h1:(s.extract a e).data=s.data.extract a e:=jE;rw[h1];simp only[Int.toNat_natCast];have hs:e<=s.data.size:=he;rw[Array.getElem?_extract];rw[jP]
def SV(ha:a<s.size)(h:(ix s a).2.2=0):(ix s a).1.kind≠0/\((ix s a).1.kind=1->sn (ix s a).1.text):=by
 unfold ix at h ⊢;split at h<;>rename_i h1
 ·rw[if_pos h1];split at h<;>rename_i h2
  ·rw[if_pos h2];refine⟨fun e=>(by cases e),fun _=>?_⟩;have hb:=(vM (p:=j8) (s:=s) (i:=a) jB).2;have hp:=xH ha h1;have U':(s.extract a (iP j8 s a)).size=iP j8 s a-a:=by rw[ByteArray.size_extract];omega
   refine⟨by show 0<(s.extract a (iP j8 s a)).size;omega,h2,fun j hj=>?_⟩;have hj:j<(s.extract a (iP j8 s a)).size:=hj;show j8 (eT (s.extract a (iP j8 s a)) j)=true;rw[SR hb jB];exact Fg (n:=s.size+1) (i:=a) jB (by show _<iP j8 s a;omega)
  ·cases h
 ·rw[if_neg h1];split at h<;>rename_i h2
  ·rw[if_pos h2];split at h<;>rename_i h3
   ·rw[if_pos h3];exact⟨fun e=>(by cases e),fun e=>(by cases e)⟩
   ·rw[if_neg h3];split at h<;>rename_i h4
    ·cases h
    ·rw[if_neg h4];exact⟨fun e=>(by cases e),fun e=>(by cases e)⟩
  ·rw[if_neg h2];split at h<;>rename_i h3
   ·rw[if_pos h3];exact⟨fun e=>(by cases e),fun e=>(by cases e)⟩
   ·rw[if_neg h3];split at h<;>rename_i h4
    ·cases h
    ·rw[if_neg h4];exact⟨fun e=>(by cases e),fun e=>(by cases e)⟩
def B7(t:cB):Prop:=t.kind≠0/\(t.kind=1->sn t.text)
theorem Kb(s:UR):∀(n i:Nat) (out:List cB),s.size<n+i->i<=s.size->(lI s n i out).2.2=0->out.length<=i->(∀t∈out,B7 t)->∃ts,(lI s n i out).1=ts++[⟨0,⟨#[]⟩,s.size⟩]/\ts.length<=s.size/\∀t∈ts,B7 t
 |0,i,out,h1,h2,_,_,_=>by omega
 |n+1,i,out,h1,h2,he,hl,ho=>by
  unfold lI at he ⊢;split at he<;>rename_i hi
  ·rw[if_pos hi];split at he<;>rename_i h3
   ·rw[if_pos h3];obtain⟨e,h4,h5,h6⟩:=zQ hi h3;rw[h4,Int.toNat_natCast]at he ⊢;have:=vY (s:=s) (i:=e) h6;refine Kb s n _ _ jB this.2 he (by rw[List.length_append];simp;omega) fun t ht=>?_
    rcases List.mem_append.1 ht with ht|ht
    ·exact ho t ht
    ·rw[List.mem_singleton.1 ht];exact SV hi h3
   ·exact(h3 he).elim
  ·rw[if_neg hi];exact⟨out,rfl,jB,ho⟩
def Lz(he:(kX s).2.2=0):s.size<=600/\∃ts,(kX s).1=ts++[⟨0,⟨#[]⟩,s.size⟩]/\ts.length<=s.size/\∀t∈ts,B7 t:=by
 unfold kX at he ⊢;split at he<;>rename_i h
 ·cases he
 ·rw[if_neg h];have h0:=vY (s:=s) (i:=0) (Nat.zero_le _);exact⟨jB,Kb s (s.size+1) _ _ jB h0.2 he jE fun t ht=>by simp at ht⟩
def MH[Inhabited α]{l m:List α}(h:k<l.length):nth (l++m) k=nth l k:=by simp only[nth,List.getD_eq_getElem?_getD,List.getElem?_append_left h]
def fa[Inhabited α]{l:List α}(h:k<l.length):nth l k∈l:=by rw[fM h];exact List.getElem_mem h
def Hg(he:(kX s).2.2=0):(oO s).Inv:=by
 obtain⟨h0,ts,h1,h2,h3⟩:=Lz he;have hl:(oO s).l=ts++[⟨0,⟨#[]⟩,s.size⟩]:=h1;have hn:(oO s).l.length=ts.length+1:=by rw[hl];simp
 have Va:nth (ts++[⟨0,⟨#[]⟩,s.size⟩]:List cB) ts.length=⟨0,⟨#[]⟩,s.size⟩:=by simp[nth]
 refine⟨by show s.size<=1000;omega,Int.le_refl _,by show(0:Int)<_;omega,jB,fun k hk Vr=>?_,fun k hk Vr=>?_,Int.le_refl _,by show(0:Int)<=17;decide,fun _=>by show(0:Int)<=16;decide,?_⟩
 ·rw[hl]at Vr ⊢;by_cases e:k<ts.length
  ·rw[MH e]at Vr ⊢;exact(h3 _ (fa e)).2 Vr
  ·have:k=ts.length:=jB;subst this;rw[Va]at Vr;cases Vr
 ·by_cases e:k<ts.length
  ·omega
  ·have:k=ts.length:=jB;subst this;rw[hl,Va]at Vr;exact(Vr rfl).elim
 ·show((0:Nat):Int)+3*((oO s).l.length-0)+1<=8000;omega
end Go.Gd
namespace Go.Proofs.YtijdhbokcdpklaaGreatDoor
open Go Go.Gd Tryz
@[go_sem] def qgG:dh prog 3=some 1/\dI prog 3=some false/\dR prog 3=some [.int .i64 0]/\ig prog 3=false/\sK prog 3=false/\xm prog 3=false/\C8 prog 3=some .i64/\ku prog 3=8/\dI prog 4=some false/\ig prog 4=false/\sK prog 4=false/\xm prog 4=true/\dh prog 5=some 1/\dI prog 5=some false/\dh prog 9=some 1/\dI prog 9=some false/\dR prog 9=some [.string ⟨#[]⟩]/\tz prog 9=true/\ku prog 9=16/\iC prog 22=some 7/\ig prog 22=true/\dh prog 24=some 1/\dI prog 24=some false/\iu prog 24=some 66:=by and_intros<;>kernel_rfl
@[go_sem] def qfu:iC prog 24=some 5/\ig prog 24=true/\dh prog 25=some 1/\dI prog 25=some false/\iu prog 25=some 98/\iC prog 25=some 5/\ig prog 25=true/\dh prog 27=some 2/\dI prog 27=some true/\dR prog 27=some [.slice none 0 0,.slice none 0 0]/\cH prog 27 0=some 0/\cH prog 27 1=some 1/\jf prog 27=some [(0,1),(1,1)]/\dh prog 28=some 1/\dI prog 28=some false/\dR prog 28=some [.slice none 0 0]/\iu prog 28=some 3/\iC prog 28=some 1/\ig prog 28=true/\ku prog 28=24/\dh prog 30=some 6/\dI prog 30=some true/\dR prog 30=some [.slice none 0 0,.slice none 0 0,.slice none 0 0,.slice none 0 0,.slice none 0 0,.slice none 0 0]/\cH prog 30 0=some 0:=by and_intros<;>kernel_rfl
@[go_sem] def j75:cH prog 30 1=some 2/\cH prog 30 2=some 3/\cH prog 30 3=some 4/\cH prog 30 4=some 5/\jf prog 30=some [(0,2),(2,1),(3,1),(4,1),(5,1)]/\dh prog 31=some 1/\dI prog 31=some false/\dh prog 35=some 1/\dI prog 35=some false/\iu prog 35=some 49/\iC prog 35=some 4/\ig prog 35=true/\dh prog 37=some 3/\dI prog 37=some true/\dR prog 37=some [.slice none 0 0,.int .i64 0,.int .i64 0]/\cH prog 37 0=some 0/\cH prog 37 1=some 1/\cH prog 37 2=some 2/\jf prog 37=some [(0,1),(1,1),(2,1)]/\dh prog 42=some 3/\dI prog 42=some true/\dR prog 42=some [.int .i64 0,.int .i64 0,.string ⟨#[]⟩]/\cH prog 42 0=some 0/\cH prog 42 1=some 1:=by and_intros<;>kernel_rfl
@[go_sem] def j8J:wC prog 42 1=some (3,1)/\cH prog 42 2=some 2/\jf prog 42=some [(0,1),(1,1),(2,1)]/\ku prog 42=32/\dh prog 44=some 7/\dI prog 44=some true/\dR prog 44=some [.int .u8 0,.int .i64 0,.string ⟨#[]⟩,.string ⟨#[]⟩,.int .i64 0,.int .i64 0,.string ⟨#[]⟩]/\cH prog 44 0=some 0/\cH prog 44 1=some 1/\cH prog 44 2=some 2/\cH prog 44 3=some 3/\cH prog 44 4=some 4/\dh prog 47=some 1/\dI prog 47=some false/\dR prog 47=some [.slice none 0 0]/\iu prog 47=some 87/\iC prog 47=some 5/\ig prog 47=true/\dh prog 49=some 4/\dI prog 49=some true/\dR prog 49=some [.string ⟨#[]⟩,.slice none 0 0,.slice none 0 0,.slice none 0 0]/\cH prog 49 0=some 0/\cH prog 49 1=some 1/\cH prog 49 2=some 2:=by and_intros<;>kernel_rfl
@[go_sem] def j8n:cH prog 49 3=some 3/\jf prog 49=some [(0,1),(1,1),(2,1),(3,1)]/\ku prog 49=88/\cH prog 56 0=some 0/\cH prog 56 1=some 1/\dh prog 66=some 5/\dI prog 66=some true/\dR prog 66=some [.int .i64 0,.int .i64 0,.int .i64 0,.string ⟨#[]⟩,.slice none 0 0]/\cH prog 66 0=some 0/\cH prog 66 1=some 1/\cH prog 66 2=some 2/\cH prog 66 3=some 3/\cH prog 66 4=some 4/\wC prog 66 4=some (28,4)/\jf prog 66=some [(0,1),(1,1),(2,1),(3,1),(4,1)]/\ku prog 66=64/\dh prog 87=some 5/\dI prog 87=some true/\dR prog 87=some [.int .i64 0,.string ⟨#[]⟩,.int .i64 0,.int .i64 0,.string ⟨#[]⟩]/\cH prog 87 0=some 0/\cH prog 87 1=some 1/\cH prog 87 2=some 2/\jf prog 87=some [(0,1),(1,1),(2,3)]/\zx prog 87=some [.int .i64,.str,.int .i64,.int .i64,.str]:=by and_intros<;>kernel_rfl
@[go_sem] def qdP:ku prog 87=56/\dh prog 89=some 1/\dI prog 89=some false/\iu prog 89=some 133/\iC prog 89=some 3/\dR prog 94=some [.string ⟨#[]⟩,.slice none 0 0,.int .i64 0,.slice none 0 0,.int .i64 0,.int .i64 0,.int .i64 0]/\cH prog 94 0=some 0/\cH prog 94 1=some 1/\cH prog 94 2=some 2/\cH prog 94 3=some 3/\cH prog 94 4=some 4/\cH prog 94 5=some 5/\cH prog 94 6=some 6/\jf prog 94=some [(0,1),(1,1),(2,1),(3,1),(4,1),(5,1),(6,1)]/\dh prog 95=some 1/\dI prog 95=some false/\dR prog 95=some [.nilFunc]/\dh prog 96=some 1/\dI prog 96=some false/\iu prog 96=some 140/\iC prog 96=some 2/\ig prog 96=true/\dh prog 98=some 5/\dI prog 98=some true:=by and_intros<;>kernel_rfl
@[go_sem] def qgu:dR prog 98=some [.string ⟨#[]⟩,.int .i64 0,.slice none 0 0,.int .i64 0,.int .i64 0]/\cH prog 98 0=some 0/\cH prog 98 2=some 2/\cH prog 98 3=some 3/\cH prog 98 4=some 4/\jf prog 98=some [(0,1),(1,1),(2,1),(3,1),(4,1)]/\ku prog 98=64/\dh prog 101=some 1/\dI prog 101=some false/\dR prog 101=some [.slice none 0 0]/\iu prog 101=some 144/\iC prog 101=some 3/\ig prog 101=true/\dR prog 103=some [.slice none 0 0,.slice none 0 0,.slice none 0 0,.slice none 0 0,.slice none 0 0,.slice none 0 0,.int .i64 0,.slice none 0 0,.int .i64 0,.int .i64 0,.int .i64 0]/\cH prog 103 0=some 0/\cH prog 103 1=some 6/\cH prog 103 2=some 7/\cH prog 103 3=some 8/\cH prog 103 4=some 9/\cH prog 103 5=some 10/\jf prog 103=some [(0,6),(6,1),(7,1),(8,1),(9,1),(10,1)]/\dh prog 110=some 1/\dI prog 110=some false/\iu prog 110=some 179:=by and_intros<;>kernel_rfl
@[go_sem] def qbG:iC prog 110=some 3/\ig prog 110=true/\iu prog 111=some 28/\dh prog 112=some 1/\dI prog 112=some false/\iu prog 112=some 9/\iC prog 112=some 1/\ig prog 112=true/\dh prog 114=some 7/\dI prog 114=some true/\dR prog 114=some [.slice none 0 0,.slice none 0 0,.int .i64 0,.slice none 0 0,.int .i64 0,.int .i64 0,.int .i64 0]/\cH prog 114 0=some 0/\cH prog 114 2=some 2/\cH prog 114 4=some 4/\cH prog 114 6=some 6/\wC prog 114 6=some (3,6)/\jf prog 114=some [(0,1),(1,1),(2,1),(3,1),(4,1),(5,1),(6,1)]/\iu prog 121=some 47/\iC prog 121=some 1/\ig prog 121=true/\dh prog 125=some 1/\dI prog 125=some false/\dh prog 133=some 3/\dI prog 133=some true:=by and_intros<;>kernel_rfl
@[go_sem] def qc8:dR prog 133=some [.int .i64 0,.string ⟨#[]⟩,.int .i64 0]/\cH prog 133 0=some 0/\cH prog 133 1=some 1/\cH prog 133 2=some 2/\jf prog 133=some [(0,1),(1,1),(2,1)]/\ku prog 133=32/\dh prog 140=some 2/\dI prog 140=some true/\dR prog 140=some [.string ⟨#[]⟩,.int .i64 0]/\cH prog 140 0=some 0/\cH prog 140 1=some 1/\jf prog 140=some [(0,1),(1,1)]/\ku prog 140=24/\dh prog 144=some 3/\dI prog 144=some true/\dR prog 144=some [.string ⟨#[]⟩,.int .i64 0,.int .i64 0]/\cH prog 144 0=some 0/\cH prog 144 1=some 1/\cH prog 144 2=some 2/\jf prog 144=some [(0,1),(1,1),(2,1)]/\ku prog 144=32/\yG prog 155=false/\dR prog 158=some [.slice none 0 0,.slice none 0 0,.slice none 0 0,.slice none 0 0,.slice none 0 0,.slice none 0 0,.pointer none,.slice none 0 0]/\cH prog 158 0=some 0:=by and_intros<;>kernel_rfl
@[go_sem] def j6t:cH prog 158 1=some 6/\cH prog 158 2=some 7/\jf prog 158=some [(0,6),(6,1),(7,1)]/\dh prog 160=some 1/\dI prog 160=some false/\iu prog 160=some 176/\iC prog 160=some 4/\ig prog 160=true/\dh prog 162=some 2/\dI prog 162=some true/\dR prog 162=some [.slice none 0 0,.slice none 0 0]/\cH prog 162 0=some 0/\cH prog 162 1=some 1/\jf prog 162=some [(0,1),(1,1)]/\dh prog 163=some 1/\dI prog 163=some false/\iu prog 163=some 169/\iC prog 163=some 1/\ig prog 163=true/\dh prog 164=some 1/\dI prog 164=some false/\dR prog 166=some [.slice none 0 0,.slice none 0 0,.slice none 0 0,.slice none 0 0,.slice none 0 0,.slice none 0 0,.slice none 0 0,.slice none 0 0,.slice none 0 0,.pointer none,.slice none 0 0,.int .i64 0,.int .i64 0,.int .i64 0,.int .i64 0]/\cH prog 166 0=some 0/\cH prog 166 1=some 6:=by and_intros<;>kernel_rfl
@[go_sem] def j6z:cH prog 166 2=some 8/\cH prog 166 3=some 9/\cH prog 166 4=some 10/\cH prog 166 5=some 11/\cH prog 166 6=some 12/\cH prog 166 7=some 13/\cH prog 166 8=some 14/\jf prog 166=some [(0,6),(6,2),(8,1),(9,1),(10,1),(11,1),(12,1),(13,1),(14,1)]/\dh prog 169=some 1/\dI prog 169=some false/\dR prog 169=some [.pointer none]/\ku prog 169=8/\dh prog 170=some 1/\dI prog 170=some false/\iu prog 170=some 42/\iC prog 170=some 3/\ig prog 170=true/\tz prog 170=false/\cH prog 172 0=some 0/\dR prog 174=some [.slice none 0 0,.int .i64 0,.int .i64 0,.int .i64 0,.slice none 0 0]/\cH prog 174 0=some 0/\cH prog 174 1=some 1/\cH prog 174 2=some 2/\cH prog 174 3=some 3:=by and_intros<;>kernel_rfl
@[go_sem] def j6L:cH prog 174 4=some 4/\jf prog 174=some [(0,1),(1,1),(2,1),(3,1),(4,1)]/\dh prog 176=some 4/\dI prog 176=some true/\dR prog 176=some [.int .i64 0,.int .i64 0,.int .i64 0,.string ⟨#[]⟩]/\cH prog 176 0=some 0/\cH prog 176 1=some 1/\cH prog 176 2=some 2/\cH prog 176 3=some 3/\jf prog 176=some [(0,1),(1,1),(2,1),(3,1)]/\ku prog 176=40/\dh prog 179=some 3/\dR prog 179=some [.int .i64 0,.int .i64 0,.slice none 0 0]/\cH prog 179 1=some 1/\jf prog 179=some [(0,1),(1,1),(2,1)]/\ku prog 179=40/\dR prog 196=some [.slice none 0 0,.slice none 0 0]/\cH prog 196 0=some 0/\cH prog 196 1=some 1/\jf prog 196=some [(0,1),(1,1)]/\dh prog 202=some 7/\dR prog 202=some [.slice none 0 0,.slice none 0 0,.slice none 0 0,.slice none 0 0,.slice none 0 0,.slice none 0 0,.slice none 0 0]/\cH prog 202 0=some 0/\cH prog 202 1=some 6:=by and_intros<;>kernel_rfl
@[go_sem] def qch:jf prog 202=some [(0,6),(6,1)]/\aS prog 5=true/\aS prog 6=true/\aS prog 7=true/\aS prog 8=true/\aS prog 9=true/\aS prog 10=true/\aS prog 11=true/\aS prog 12=true/\aS prog 13=true/\aS prog 14=true/\aS prog 15=true/\aS prog 16=true/\aS prog 17=true/\aS prog 18=true/\aS prog 19=true/\aS prog 20=true/\aS prog 21=true/\aS prog 22=true/\aS prog 23=true/\aS prog 24=true/\aS prog 25=true/\aS prog 26=true/\aS prog 27=true:=by and_intros<;>kernel_rfl
@[go_sem] def qea:aS prog 28=true/\aS prog 29=true/\aS prog 30=true/\aS prog 31=true/\aS prog 32=true/\aS prog 33=true/\aS prog 34=true/\aS prog 35=true/\aS prog 36=true/\aS prog 37=true/\aS prog 38=true/\aS prog 39=true/\aS prog 40=true/\aS prog 41=true/\aS prog 42=true/\aS prog 43=true/\aS prog 44=true/\aS prog 45=true/\aS prog 46=true/\aS prog 47=true/\aS prog 48=true/\aS prog 49=true/\aS prog 50=true/\aS prog 51=true:=by and_intros<;>kernel_rfl
@[go_sem] def qey:aS prog 52=true/\aS prog 53=true/\aS prog 54=true/\aS prog 56=true/\aS prog 57=true/\aS prog 58=true/\aS prog 59=true/\aS prog 60=true/\aS prog 61=true/\aS prog 62=true/\aS prog 63=true/\aS prog 64=true/\aS prog 65=true/\aS prog 66=true/\aS prog 67=true/\aS prog 68=true/\aS prog 69=true/\aS prog 70=true/\aS prog 71=true/\aS prog 72=true/\aS prog 73=true/\aS prog 74=true/\aS prog 75=true/\aS prog 76=true:=by and_intros<;>kernel_rfl
@[go_sem] def qeW:aS prog 77=true/\aS prog 78=true/\aS prog 79=true/\aS prog 80=true/\aS prog 81=true/\aS prog 83=true/\aS prog 84=true/\aS prog 85=true/\aS prog 86=true/\aS prog 87=true/\aS prog 88=true/\aS prog 89=true/\aS prog 90=true/\aS prog 91=true/\aS prog 92=true/\aS prog 93=true/\aS prog 94=true/\aS prog 95=true/\aS prog 96=true/\aS prog 97=true/\aS prog 98=true/\aS prog 99=true/\aS prog 100=true/\aS prog 101=true:=by and_intros<;>kernel_rfl
@[go_sem] def j91:aS prog 102=true/\aS prog 103=true/\aS prog 104=true/\aS prog 105=true/\aS prog 106=true/\aS prog 107=true/\aS prog 109=true/\aS prog 110=true/\aS prog 111=true/\aS prog 112=true/\aS prog 113=true/\aS prog 114=true/\aS prog 115=true/\aS prog 116=true/\aS prog 117=true/\aS prog 118=true/\aS prog 119=true/\aS prog 120=true/\aS prog 121=true/\aS prog 122=true/\aS prog 125=true/\aS prog 126=true/\aS prog 127=true/\aS prog 128=true:=by and_intros<;>kernel_rfl
@[go_sem] def qap:aS prog 129=true/\aS prog 130=true/\aS prog 131=true/\aS prog 132=true/\aS prog 133=true/\aS prog 134=true/\aS prog 135=true/\aS prog 136=true/\aS prog 137=true/\aS prog 138=true/\aS prog 139=true/\aS prog 141=true/\aS prog 142=true/\aS prog 143=true/\aS prog 144=true/\aS prog 145=true/\aS prog 146=true/\aS prog 147=true/\aS prog 148=true/\aS prog 149=true/\aS prog 150=true/\aS prog 151=true/\aS prog 152=true/\aS prog 153=true:=by and_intros<;>kernel_rfl
@[go_sem] def qaN:aS prog 154=true/\aS prog 155=true/\aS prog 156=true/\aS prog 157=true/\aS prog 158=true/\aS prog 159=true/\aS prog 160=true/\aS prog 161=true/\aS prog 162=true/\aS prog 163=true/\aS prog 164=true/\aS prog 165=true/\aS prog 167=true/\aS prog 168=true/\aS prog 169=true/\aS prog 170=true/\aS prog 171=true/\aS prog 172=true/\aS prog 173=true/\aS prog 174=true/\aS prog 175=true/\aS prog 176=true/\aS prog 177=true/\aS prog 178=true:=by and_intros<;>kernel_rfl
@[go_sem] def qbb:aS prog 179=true/\aS prog 180=true/\aS prog 183=true/\aS prog 184=true/\aS prog 224=true/\aS prog 225=true/\aS prog 226=true/\aS prog 227=true/\aS prog 228=true/\aS prog 229=true/\aS prog 230=true/\aS prog 231=true/\aS prog 232=true/\aS prog 233=true/\aS prog 234=true/\aS prog 235=true:=by and_intros<;>kernel_rfl
def mixed:prog.follows .mixedOrders=true:=jG
def jX:qs prog 238=some (false,3):=jG
@[go_sem] def qbZ:wK prog 238=true:=jG
def rE:qs prog 245=some (true,3):=jG
@[go_sem] def qb0:wK prog 245=true:=jG
end Go.Proofs.YtijdhbokcdpklaaGreatDoor