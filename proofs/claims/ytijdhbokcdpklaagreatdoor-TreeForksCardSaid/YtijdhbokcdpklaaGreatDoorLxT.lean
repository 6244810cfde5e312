/- Lemmas. No conditions. -/
import Derived.Test.YtijdhbokcdpklaaGreatDoorGdY
import Derived.ProofKit
import Derived.Deep.Slices
import Derived.Carry
import Derived.Laws.MakeOwn
import Derived.OpenShut
import Derived.MapKept
import Derived.Lib.Overlaps
import Derived.Test.YtijdhbokcdpklaaGreatDoorProg
import Derived.KernelRfl
set_option linter.all false
namespace Go.Gd
open Go Go.ChangeShapes Go.WideShapes Go.ChangeAt Go.RowKit Go.Deep
@[reducible] def n0(w:World):NW:={ toWorld:=w,O:=fun _=>False,nm:=fun _ _=>none }
def oJ(P:UP)(t:UJ)(S:UE->Prop):Prop:=
 ∀(T:Type) (enc:UJ×Value->T) (w:World) (fuel:Nat) (cs:UM) (x:DataW T×List MemPlace),
  DataW.trod enc P w 0 (fun _=>true) true fuel t cs=some x->∃us,S us/\cf (n0 w) us cs
section
variable {P:UP}{t:UJ}
def oJ.mono{S S':UE->Prop}(h:oJ P t S)(hs:∀us,S us->S' us):oJ P t S':=fun T enc w fuel cs x hx=>by obtain⟨us,h1,h2⟩:=h T enc w fuel cs x hx;exact⟨us,hs us h1,h2⟩
def vR{w:NW}{a:AV}{v:Value}(h:ax w a v):cf w [a] [v]:=⟨rfl,fun i b u hb hu=>by
 cases i with
 |zero=>simp at hb hu;subst hb hu;exact h
 |succ i=>simp at hb⟩
def Im{w:NW}{a:AV}{v:Value}{us:UE}{vs:UM}(h:ax w a v)(hs:cf w us vs):cf w (a::us) (v::vs):=⟨by simp[hs.1],fun i b u hb hu=>by
 cases i with
 |zero=>simp at hb hu;subst hb hu;exact h
 |succ i=>exact hs.2 i b u (by simpa using hb) (by simpa using hu)⟩
def Ah{k:IntKind}(ht:P.underlying t=some (.int k)):oJ P t (fun us=>∃n:Int,(Lit.int k n).wf=true/\us=[.raw (.int k n)]):=fun T enc w fuel cs x hx=>by obtain⟨n,rfl,_,hwf⟩:=DataW.trod_int ht hx;exact⟨_,⟨n,hwf,rfl⟩,vR (.raw _)⟩
def A6(ht:P.underlying t=some .string):oJ P t (fun us=>∃s:UI,us=[.raw (.string s)]):=fun T enc w fuel cs x hx=>by obtain⟨n,rfl,_,hwf⟩:=DataW.trod_string ht hx;exact⟨_,⟨n,rfl⟩,vR (.raw _)⟩
def AM:List (UE->Prop)->UE->Prop
 |[],us=>us=[]
 |S::Ss,us=>∃a b,S a/\AM Ss b/\us=a++b
def AF(P:UP):List Field->List (UE->Prop)->Prop
 |[],[]=>True
 |f::l,S::Ss=>oJ P f.type S/\AF P l Ss
 |_,_=>False
def xo(P:UP):List Field->Nat->UO
 |[],o,n=>o == n
 |f::l,o,n=>f.offset == o && xo P l (o+P.cellsOf f.type) n
def N6{w:NW}{us vs:UE}{cs:UM}{o n:Nat}(h1:cf w us ((cs.drop o).take n))(h2:cf w vs (cs.drop (o+n)))(hn:o+n<=cs.length):cf w (us++vs) (cs.drop o):=by
 have l1:us.length=n:=by rw[h1.1,List.length_take,List.length_drop];omega
 refine⟨by rw[List.length_append,l1,h2.1,List.length_drop,List.length_drop];omega,fun i a v ha hv=>?_⟩;by_cases hi:i<n
 ·rw[List.getElem?_append_left jB]at ha;exact h1.2 i a v ha (by rw[List.getElem?_take,if_pos hi];exact hv)
 ·rw[List.getElem?_append_right jB,l1]at ha;refine h2.2 (i-n) a v ha ?_;rw[List.getElem?_drop]at hv ⊢;rw[show o+n+(i-n)=o+i from jB];exact hv
theorem Er{T:Type}{enc:UJ×Value->T}{w:World}{m:Nat}{cs:UM}:∀(l:List Field) (Ss:List (UE->Prop)) (o:Nat),AF P l Ss->xo P l o cs.length=true->
  (∀f∈l,∃y,DataW.trod enc P w 0 (fun _=>true) true m f.type ((cs.drop f.offset).take (P.cellsOf f.type))=some y)->∃us,AM Ss us/\cf (n0 w) us (cs.drop o)/\o<=cs.length
 |[],[],o,_,ho,_=>by simp only[xo,beq_iff_eq]at ho;subst ho;exact⟨[],rfl,by rw[List.drop_length];exact⟨rfl,fun i a v ha=>by simp at ha⟩,Nat.le_refl _⟩
 |f::l,S::Ss,o,hd,ho,hf=>by
  simp only[xo,Bool.and_eq_true,beq_iff_eq]at ho;obtain⟨y,hy⟩:=hf f jE;rw[ho.1]at hy;obtain⟨a,ha,WC⟩:=hd.1 T enc w m _ y hy;obtain⟨b,hb,hrb,Uq⟩:=Er l Ss _ hd.2 ho.2 fun g hg=>hf g (by simp[hg])
  exact⟨a++b,⟨a,b,ha,hb,rfl⟩,N6 WC hrb Uq,jB⟩
 |[],_::_,_,hd,_,_=>hd.elim
 |_::_,[],_,hd,_,_=>hd.elim
def GY{fs:Array Field}{Ss:List (UE->Prop)}(ht:P.underlying t=some (.struct fs))(ho:xo P fs.toList 0 (P.cellsOf t)=true)(hd:AF P fs.toList Ss):oJ P t (AM Ss):=fun T enc w fuel cs x hx=>by
 obtain⟨xs,n,rfl,rfl,hl,hn,hf⟩:=DataW.trod_struct ht hx;obtain⟨us,h1,h2,_⟩:=Er (T:=T) (enc:=enc) (w:=w) (m:=n) (cs:=cs) fs.toList Ss 0 hd (by rw[hl];exact ho) fun f Zq=>by obtain⟨i,hi,e⟩:=List.getElem_of_mem Zq;have:=hf i f (by rw[<-Array.getElem?_toList,List.getElem?_eq_getElem hi,e]);rw[List.getElem?_eq_getElem (by rw[hn];simpa using hi)]at this;exact⟨_,this⟩
 exact⟨us,h1,by simpa using h2⟩
def Kq{e:UJ}{α:Type}[Inhabited α]{ok:α->Prop}{encA:α->UE}{sz:Nat}(ht:P.underlying t=some (.slice e))(hc:P.cellsOf e=sz)(Uu:0<sz)(he:oJ P e (fun us=>∃a,ok a/\us=encA a))(hl:∀a,(encA a).length=sz) :
  oJ P t (fun us=>∃l:List α,((∀a∈l,ok a)/\l.length<=9223372036854775807)/\us=[aP encA sz l]):=fun T enc w fuel cs x hx=>by
 rcases open_slice ht hx with⟨rfl,_⟩|⟨a,len,cap,m,n,D,Pl,rfl,_,hlc,Uw,hm,_,hr⟩
 ·exact⟨_,⟨[],⟨jE,jE⟩,rfl⟩,vR (.gG _ _ _ _ jE)⟩
 ·simp only[if_true]at hm;obtain rfl:cap=m:=hm.symm;have Vq:∀i,i<len->∃g:α,ok g/\∃cs',w.cells? 0 (a.add (i*sz)) sz=some cs'/\cf (n0 w) (encA g) cs':=fun i hi=>by
   obtain⟨cs',h1,h2⟩:=hr i jB;rw[hc]at h1;obtain⟨us,⟨g,hok,rfl⟩,U2⟩:=he T enc w n cs' _ h2;exact⟨g,hok,cs',h1,U2⟩
  obtain⟨g,hg⟩:∃g:Nat->α,∀i,i<len->ok (g i)/\∃cs',w.cells? 0 (a.add (i*sz)) sz=some cs'/\cf (n0 w) (encA (g i)) cs':=by
   classical
   exact⟨fun i=>if h:i<len then(Vq i h).choose else default,fun i hi=>by simp only[dif_pos hi];exact(Vq i hi).choose_spec⟩
  have VB:((List.range len).map g).length=len:=jE;refine⟨_,⟨(List.range len).map g,⟨fun y hy=>?_,by rw[VB];have:cap<=9223372036854775807:=Uw;omega⟩,rfl⟩,vR ?_⟩
  ·obtain⟨i,hi,rfl⟩:=List.mem_map.1 hy;exact(hg i (by simpa using hi)).1
  ·have Uo:(((List.range len).map g).map encA).length=len:=jE;have hn:∀i,i<len->(((List.range len).map g).map encA).getD i []=encA (g i):=fun i hi=>by simp[List.getD_eq_getElem?_getD,hi]
   by_cases h0:len=0
   ·subst h0;exact .gG _ _ _ _ jE
   ·have D':∀i j,i<len->j<sz->∃v,w.cell? (a.add (i*sz+j))=some v/\∀u,(encA (g i))[j]?=some u->ax (n0 w) u v:=fun i j hi hj=>by
     obtain⟨_,cs',h1,h2⟩:=hg i hi;obtain⟨_,I',Vm⟩:=World.cells?_some h1;have hv:cs'[j]?=some cs'[j]:=List.getElem?_eq_getElem jB;refine⟨cs'[j],?_,fun u hu=>h2.2 j u _ hu hv⟩;rw[<-xF,Vm j hj,hv]
    have:=ax.sl (w:=n0 w) (d:=encA default) false sz (((List.range len).map g).map encA) a cap (fun k=>(w.cell? (a.add k)).getD undef) jB jB jE (fun cs Vy=>by
     obtain⟨y,_,rfl⟩:=List.mem_map.1 Vy;exact hl y) (by
     obtain⟨_,cs',h1,_⟩:=hg 0 jB;have:=World.cells?_block h1 Uu;rwa [pK]at this) (fun h=>h) (fun i j hi hj=>by
     obtain⟨v,hv,_⟩:=D' i j jB hj;rw[hv];rfl) (fun i j u hi hu=>by
     rw[hn i jB]at hu;have hj:j<sz:=by rw[<-hl (g i)];exact(List.getElem?_eq_some_iff.1 hu).1
     obtain⟨v,hv,U2⟩:=D' i j jB hj;rw[hv];exact U2 u hu)
    rw[Uo]at this;exact this
-- arguments
variable {T:Type}{enc:UJ×Value->T}{w:World}{v:Value}{d:DataW T}{ps:List MemPlace}{base:Nat}
def Kk{S:AV->Prop}(hd:oJ P t (fun us=>∃a,S a/\us=[a]))(hv:v.cells.toList=[v])(h:DataW.Trod enc P w 0 (fun _=>true) true t v d ps):∃a,S a/\ax (n0 w) a v:=by obtain⟨fuel,hf⟩:=h;rw[hv]at hf;obtain⟨us,⟨a,hs,rfl⟩,hr⟩:=hd T enc w fuel _ _ hf;exact⟨a,hs,hr.2 0 a v rfl rfl⟩
end
section
variable {P:UP}{T:Type}{enc:UJ×Value->T}
theorem Gs(hl:laidOutB P=true){W W':World}(hb:Below W.heap.size W W'):∀(ts:List UJ) (vs:UM) (ds:List (DataW T)) (ps:List MemPlace),(∀t∈ts,P.readableRec t=true/\t<P.types.size)->
  DataW.TrodAll enc P W 0 (fun _=>true) true ts vs ds ps->(∀x∈ps,x.block<W.heap.size)->DataW.TrodAll enc P W' 0 (fun b=>decide (b<W.heap.size)) true ts vs ds ps
 |[],[],[],ps,_,h,_=>h
 |t::ts,v::vs,d::ds,ps,hr,h,O'=>by obtain⟨p,q,h1,h2,rfl⟩:=h;exact⟨p,q,Below.trod hl (hr t jE).1 (hr t jE).2 h1 hb fun x hx=>O' x (by simp[hx]),Gs hl hb ts vs ds q (fun t ht=>hr t (by simp[ht])) h2 fun x hx=>O' x (by simp[hx]),rfl⟩
 |[],_::_,_,_,_,h,_=>h.elim
 |[],[],_::_,_,_,h,_=>h.elim
 |_::_,[],_,_,_,h,_=>h.elim
 |_::_,_::_,[],_,_,h,_=>h.elim
def Rg{fn:Func}{s:ChangeSpec}{apart oo handsOn:Bool}{W W':World}{args:UL}{ds:List (DataW T)}{before:List MemPlace}{tb:UJ}(hW:DataW.Whole enc P fn.params.toList s.vars apart W args.toList ds [] before)
  (hx:Below W.heap.size W W') (hl:laidOutB P=true) (hr:∀t∈fn.params.toList,P.readableRec t=true/\t<P.types.size) (hrt:fn.resultTypes=#[tb]) (hb:P.underlying tb=some .bool) (hv:s.vars=[])
  (e1:(s.fn T (ds++[])).results=[.lit (.bool true)]) (e2:(s.fn T (ds++[])).args=ds) (e3:(s.fn T (ds++[])).vars=[]):s.post enc P fn apart oo handsOn false W args (.bool true) W':=by
 have hW':=hW;obtain⟨p,q,hA,hV,rfl,hfz,ZS⟩:=hW;rw[hv]at hV;have hq:q=[]:=hV;subst hq;refine⟨ds,[],_,[],p,[],hW',?_,?_,?_,hx.frame _,fun h=>by cases h⟩
 ·rw[hrt,e1];exact trodAll_mk1 (shut_bool hb true)
 ·rw[e2];exact Gs hl hx _ _ _ _ hr hA fun x Va=>by simpa using hW'.lt x (by simpa using Va)
 ·rw[hv,e3];exact rfl
def JR(W:World)(hg:ku (n0 W)):aJ (n0 W) (entry []):={
 cd:=hg
 rows:=fun i r h=>(by cases h)
 di:=fun i m z h=>(by cases h)
 inj:=fun i m j n b t s t' s' h _=>(by cases h)
 own:=fun i m b t s h=>(by cases h)
 fin:=fun b h=>h.elim }
def Tm{f:FuncId}{avs:UE}{args:UL}{W:World}(hg:ku (n0 W))(h:aC P f avs (.raw (.bool true)))(ha:cf (n0 W) avs args.toList):Calls P f args W fun e W'=>e=.returned (.bool true)/\Below W.heap.size W W':=by refine(h (n0 W) args (JR W hg) ⟨by rw[ha.1];simp,fun i a v h1 h2=>ha.2 i a v h1 (by rw[Array.getElem?_toList];exact h2)⟩).mono ?_;rintro e w' ⟨v,r,H',w2,rfl,rfl,⟨rfl,_⟩,_,g2,g3⟩;have:=db g2;subst this;exact⟨rfl,⟨g3.os,g3.tape,g3.output,g3.size,fun k hk=>(g3.free k hk (fun h=>h)).1⟩⟩
end
section
variable {P:UP}{f:FuncId}{args cs:UE}{H:Hp}{K:UB}{q:Prop}
def cl{l l0:UD}{r0:AV}(hc:ab P f (args++cs) l fun r l'=>r=r0/\l'=l0)(k:q)(h1:rY l H:=by exact dD)(h0:aS P f=true:=by exact dD)(h2:aY (fun i=>(ids l).contains i) (args++cs)=true:=by exact dD)(h3:rQ (fun i=>(ids l).contains i) l:=by exact dD)
 (h4:oo (ids l) H l0:=by exact dD) (h5:(ids l0).Nodup:=by exact dD) (e:K r0 ⟨H.B,gF H.l l0⟩=q:=by exact fq):fg P (.dW f cs) args H K:=Pt h0 (vz hc h1 h2 h3 h4 h5 (e ▸ k))
def cq{R:AV->Prop}{r0:AV}(hc:aC P f args r0)(k:q)(h0:aS P f=true:=by exact dD)(h2:aY eu args=true:=by exact dD)(e:R r0=q:=by exact fq) :
  ∃r,(fg P (.raw (.func (.func f) #[] #[])) args H fun r' H'=>r'=r/\H'=H)/\R r:=⟨r0,nZ h0 (y5 hc h2 ⟨rfl,rfl⟩),e ▸ k⟩
end
def Sub(a' a:AV):Prop:=∀(w:NW) v,ax w a' v->ax w a v
def ny:UE->UE->Prop
 |[],[]=>True
 |a::l,b::m=>Sub a b/\ny l m
 |_,_=>False
def Sub.refl(a:AV):Sub a a:=fun _ _ h=>h
def Sub.nil(sz:Nat)(d:UE):Sub (.raw (.slice none 0 0)) (.sl false sz [] d):=fun w v h=>by have:=db h;subst this;exact .gG _ _ _ _ jE
def Sub.lit(sz:Nat)(css:UC)(d d':UE):Sub (.sl true sz css d) (.sl false sz css d'):=fun w v h=>by
 cases h with
 |gG _ _ A c _=>exact .gG _ _ _ _ jE
 |sl _ _ _ a c vs hn hc hx Uu hb hH D' h=>exact .sl false sz css a c vs hn hc jE Uu hb hH D' h
theorem ny.get:∀{l m:UE},ny l m->l.length=m.length/\∀(i:Nat) a b,l[i]?=some a->m[i]?=some b->Sub a b
 |[],[],_=>⟨rfl,fun i a b h=>by simp at h⟩
 |x::l,y::m,h=>by
  have ih:=ny.get h.2;refine⟨by simp[ih.1],fun i a b ha hb=>?_⟩;cases i with
  |zero=>simp at ha hb;subst ha hb;exact h.1
  |succ i=>exact ih.2 i a b (by simpa using ha) (by simpa using hb)
 |[],_::_,h=>h.elim
 |_::_,[],h=>h.elim
def GW{P:UP}{f:FuncId}{args args':UE}{r:AV}(hc:aC P f args r)(h:ny args' args):aC P f args' r:=fun w vs h1 h2=>hc w vs h1 ⟨h.get.1.symm.trans h2.1,fun i a v ha hv=>by
 have hi:i<args'.length:=by rw[h.get.1];exact(List.getElem?_eq_some_iff.1 ha).1
 exact h.get.2 i args'[i] a (List.getElem?_eq_getElem hi) ha w v (h2.2 i _ v (List.getElem?_eq_getElem hi) hv)⟩
end Go.Gd
namespace Go.Gd
open Go
variable{zs:UM}{n sz:Nat}
def OO{w:NW}{z:UL}(hz:z.toList=zs)(hl:zs.length=sz)(h0:0<sz)(k:Nat)(a:AV)(v:Value)(ha:(List.replicate n (zs.map AV.raw)).flatten[k]?=some a)(hv:(madeCells z (n*sz))[k]?=some v):ax w a v:=by
 have Yg:z.size=sz:=by rw[<-hl,<-hz];simp
 have hk:k<n*sz:=by have:=(Array.getElem?_eq_some_iff.1 hv).1;rwa [size_madeCells]at this
 obtain⟨i,j,hi,hj,rfl⟩:=u0 hk;have Vy:∀cs∈List.replicate n (zs.map AV.raw),cs.length=sz:=fun cs Vy=>by rw[(List.mem_replicate.1 Vy).2];simpa using hl
 have hg:=qF Vy (i:=i) (j:=j) (by simpa using hi) hj;rw[hg]at ha;have:(List.replicate n (zs.map AV.raw)).getD i []=zs.map AV.raw:=by simp[List.getD_eq_getElem?_getD,hi]
 rw[this]at ha;simp only[List.getElem?_map,Option.map_eq_some_iff]at ha;obtain⟨x,hx,rfl⟩:=ha;have e:(i*sz+j) % sz=j:=by rw[Nat.add_comm,Nat.add_mul_mod_self_right];exact Nat.mod_eq_of_lt hj
 have:v=x:=by
  have Yx:(madeCells z (n*sz))[i*sz+j]?=some (z[(i*sz+j) % z.size]!):=by simp[madeCells,hk]
  rw[Yx]at hv;have hv:=Option.some.inj hv;rw[<-hv,Yg,e];have hjz:j<z.size:=jB;rw[getElem!_pos z j hjz];have Va:z.toList[j]?=some x:=by rw[hz];exact hx
  rw[Array.getElem?_toList]at Va;exact Option.some.inj ((Array.getElem?_eq_getElem hjz).symm.trans Va)
 subst this;exact .raw _
variable{K:UB}{q:Prop}{t:UJ}
def Nz{P:UP}{ev:UK}{H:Hp}{ty:UJ}(i:Nat){et:UJ}{l c:Operand}(k:q)(hl:ev l=.raw (.int .i64 (n:Int)):=by rfl)(hc:ev c=.raw (.int .i64 (n:Int)):=by rfl)(ht:ir P t=some et:=by(simp only[go_sem];rfl))(hs:dc P et=some sz:=by(simp only[go_sem];rfl))(hz:dR P et=some zs:=by(simp only[go_sem];rfl))(WT:zs.length=sz:=by rfl)(h0:0<sz:=by decide)(hr:room (j4 P et) n:=by(simp only[go_sem];omega))(hi:H.get i=none:=by rfl)
  (e:K (.rs i n sz n) (H.put i (.aG et sz (List.replicate n (zs.map .raw))))=q:=by exact fq):jM P (.makeSlice t l c) ty ev H K:=fun w ρ dst pos after guard hw hρ=>by
 have h1:=hρ l (by simp[Op.operands]);have h2:=hρ c (by simp[Op.operands]);rw[hl]at h1;rw[hc]at h2;have e1:=db h1;have e2:=db h2;have hu:P.underlying t=some (.slice et):=sK ht;unfold dc at hs;cases hf:P.info? et with
 |none=>rw[hf]at hs;cases hs
 |some inf=>
  rw[hf]at hs;have Uu:inf.size=sz:=by simpa using hs
  have U':=hz;unfold dR at U';rw[hf]at U';simp only[Option.bind_some,Option.map_eq_some_iff]at U';obtain⟨z,hzz,haQ⟩:=U';have Yt:j4 P et=inf.bytes:=by unfold j4;rw[hf];rfl
  obtain⟨r1,r2⟩:=hr;rw[Yt]at r1;have B':=run_make (P:=P) w.toWorld t et inf z hu hf hzz .i64 .i64 (n:Int) (n:Int) jB jB (by have h:((n*inf.bytes:Nat):Int)<=140737488355328:=jB;rw[Int.natCast_mul,Int.mul_comm]at h;omega) jB
  simp only[Int.toNat_natCast]at B';rw[Uu]at B';have Vy:∀cs∈List.replicate n (zs.map AV.raw),cs.length=sz:=fun cs Vy=>by rw[(List.mem_replicate.1 Vy).2];simpa using WT
  have VN:=gu Vy;simp only[List.length_replicate]at VN;obtain⟨q1,q2⟩:=v6 (row:=.aG et sz (List.replicate n (zs.map AV.raw))) hw (hw.none hi _) (fun r' hr=>by rw[hi]at hr;cases hr) ⟨h0,Vy⟩ (madeCells z.cells (n*sz)) ⟨rfl,by show(List.replicate n (zs.map AV.raw)).flatten.length<=_;rw[VN,size_madeCells];exact Nat.le_refl _⟩ (fun k a v ha hv=>OO haQ WT h0 k a v ha hv);refine⟨_,_,.rs i n sz n,e ▸ k,q1,q2,.inl ⟨.slice (some ⟨w.heap.size,0,none⟩) n n,?_,?_⟩⟩
  ·simp only[execOp,e1,e2];simp[B'];rfl
  ·have US:(((w.to (w.alloc (.cells (madeCells z.cells (n*sz)) et))).gi w.heap.size).name i n (.at w.heap.size (n*sz) sz)).nm i n=some (.at w.heap.size (n*sz) sz):=NW.cz _ _ _ _;have:=ax.rs (w:=((w.to (w.alloc (.cells (madeCells z.cells (n*sz)) et))).gi w.heap.size).name i n (.at w.heap.size (n*sz) sz)) i n sz n w.heap.size (n*sz) n US rfl jl h0;have e3:(Row.aG et sz (List.replicate n (zs.map AV.raw))).fR=n:=by show(List.replicate n (zs.map AV.raw)).length=n;simp
   have e4:(madeCells z.cells (n*sz)).size=n*sz:=size_madeCells _ _;rw[e3,e4];exact this
open Go.ChangeShapes Go.WideShapes Go.ChangeAt Go.RowKit
def gB(a k:Nat):Nat:=1000+(8*k+a)
def yh(a k:Nat):1000<=gB a k:=by unfold gB;omega
def Ac{a b k j:Nat}(ha:a<8)(hb:b<8)(h:gB a k=gB b j):a=b/\k=j:=by unfold gB at h;omega
def ov(a:Nat)(f:UQ):Nat->Nat->List UR->UD
 |_,0,l=>l
 |k,n+1,l=>(gB a k,f k)::ov a f (k+1) n l
def iT(a n:Nat)(f:UQ)(l:UD):UD:=ov a f 0 n l
theorem A5(a:Nat)(ha:a<8)(f:UQ)(l:UD):∀(n k j:Nat),aA (ov a f k n l) (gB a j)=if k<=j/\j<k+n then some (f j)else aA l (gB a j)
 |0,k,j=>by unfold ov;rw[jN]
 |n+1,k,j=>by
  show(if gB a j=gB a k then some (f k)else aA (ov a f (k+1) n l) (gB a j))=_;by_cases e:j=k
  ·subst e;rw[if_pos rfl,jP]
  ·rw[if_neg (fun h=>e (Ac ha ha h).2),A5 a ha f l n (k+1) j];by_cases h:k+1<=j/\j<k+1+n
   ·rw[if_pos h,jP]
   ·rw[if_neg h,jN]
theorem zV(a:Nat)(f:UQ)(l:UD)(i:Nat)(hi:∀k,i≠gB a k):∀(n k:Nat),aA (ov a f k n l) i=aA l i
 |0,k=>rfl
 |n+1,k=>by show(if i=gB a k then some (f k)else aA (ov a f (k+1) n l) i)=_;rw[if_neg (hi k)];exact zV a f l i hi n (k+1)
@[go_sem] def uR(a n:Nat)(f:UQ)(l:UD)(i:Nat)(h:i<1000):aA (iT a n f l) i=aA l i:=zV a f l i (fun k e=>by have:=yh a k;omega) n 0
@[go_sem] def rD(a n:Nat)(f:UQ)(l:UD)(b k:Nat)(ha:a<8)(hb:b<8)(h:a≠b):aA (iT a n f l) (gB b k)=aA l (gB b k):=zV a f l _ (fun j e=>h (Ac hb ha e).1.symm) n 0
@[go_sem] def uC(a n:Nat)(f:UQ)(l:UD)(k:Nat)(ha:a<8)(h:k<n):aA (iT a n f l) (gB a k)=some (f k):=by unfold iT;rw[A5 a ha,jP]
@[go_sem] def OX(a n:Nat)(f:UQ)(l:UD)(k:Nat)(ha:a<8)(h:n<=k):aA (iT a n f l) (gB a k)=aA l (gB a k):=by unfold iT;rw[A5 a ha,jN]
def wx(a n:Nat)(ha:a<8)(f:UQ)(l:UD)(i:Nat):(∃k,k<n/\i=gB a k/\aA (iT a n f l) i=some (f k))\/((∀k,k<n->i≠gB a k)/\aA (iT a n f l) i=aA l i):=by
 by_cases h:∃k,i=gB a k
 ·obtain⟨k,rfl⟩:=h;by_cases hk:k<n
  ·exact .inl ⟨k,hk,rfl,uC a n f l k ha hk⟩
  ·exact .inr ⟨fun j hj e=>hk ((Ac ha ha e).2 ▸ hj),OX a n f l k ha jB⟩
 ·exact .inr ⟨fun k _ e=>h ⟨k,e⟩,zV a f l i (fun k e=>h ⟨k,e⟩) n 0⟩
def wJ{α:Type}(n:Nat)(f:Nat->α):List α:=(List.range n).map f
def DJ{q:UO}{f:Nat->UE}(h:∀k,k<n->aY q (f k)=true):QL q (wJ n f):=fun c hc=>by obtain⟨k,hk,rfl⟩:=List.mem_map.1 hc;exact h k (by simpa using hk)
variable{B:UH}{l:UD}
def Ia{r:AV}(l':UD)(h:∀i,aA l i=aA l' i):iD r ⟨B,l⟩ r ⟨B,l'⟩:=fun w v h1 h2=>by
 have hg:∀i,(Hp.mk B l').get i=(Hp.mk B l).get i:=fun i=>(h i).symm
 exact⟨w,rfl,{ rows:=fun i r hi=>h1.rows i r ((hg i) ▸ hi),di:=fun i m z hz=>by rw[hg];exact h1.di i m z hz,inj:=h1.inj,own:=h1.own,fin:=h1.fin,cd:=h1.cd },h2,{ ExtQ.refl _ w with base:=rfl }⟩
def BM{w:NW}{l':UD}(h:∀i,aA l i=aA l' i)(h1:aJ w ⟨B,l⟩):aJ w ⟨B,l'⟩:=by
 have hg:∀i,(Hp.mk B l').get i=(Hp.mk B l).get i:=fun i=>(h i).symm
 exact{ rows:=fun i r hi=>h1.rows i r ((hg i) ▸ hi),di:=fun i m z hz=>by rw[hg];exact h1.di i m z hz,inj:=h1.inj,own:=h1.own,fin:=h1.fin,cd:=h1.cd }
structure Lays(E:List (Nat×Row)->List (Nat×Row))(tl:List (Nat×Row)):Prop where
 get:∀i,aA (E tl) i=(aA (E []) i).or (aA tl i)
 apart:∀i r,aA tl i=some r->aA (E []) i=none
def C9{P:UP}{f:FuncId}{args:UE}{tl:UD}{E E':List UR->UD}{r0:AV}(hc:ab P f args (E []) fun r l'=>r=r0/\l'=E' [])(h1:Lays E tl)(h2:Lays E' tl)(h3:(ids (E' [])).Nodup)
  (ha:aY (fun i=>(ids (E [])).contains i) args=true) (hr:∀i r,aA (E []) i=some r->aY (fun i=>(ids (E [])).contains i) r.cells=true) (hk:K r0 ⟨B,E' tl⟩) (h4:∀i,aA (E []) i≠none->aA (E' []) i≠none):dm P f args ⟨B,E tl⟩ K:=fun w vs hw hv=>by
 refine(y0 (H:=⟨B,E tl⟩) (K:=fun r H'=>r=r0/\∃l',H'=⟨B,l'⟩/\∀i,aA l' i=aA (E' tl) i) hc (fun i r hi=>?_) ha hr (fun r l' ⟨e1,e2⟩=>⟨fun i s hs=>?_,by rw[e2];exact h3,e1,_,rfl,fun i=>?_⟩) hw hv).mono ?_
 ·show aA (E tl) i=some r;rw[h1.get,hi];rfl
 ·cases e:aA (E []) i with
  |some x=>exact .inl (tn e)
  |none=>
   right
   show aA (E tl) i=none;rw[h1.get,e,Option.none_or];cases e':aA tl i with
   |none=>rfl
   |some y=>rw[e2]at hs;have:=h2.apart i y e';rw[this]at hs;cases hs
 ·rw[e2,uf _ _ _ (fun _ _ _=>trivial) h3,h2.get,h1.get];cases e:aA (E' []) i with
  |some x=>rfl
  |none=>
   have:aA (E []) i=none:=Classical.byContradiction fun h=>h4 i h e
   rw[this];rfl
 ·rintro e W ⟨v,r,H',w',rfl,rfl,⟨rfl,l',rfl,hl⟩,g1,g2,g3⟩;exact⟨v,_,⟨B,E' tl⟩,w',rfl,rfl,hk,BM hl g1,g2,{ g3 with base:=rfl }⟩
def cL{P:UP}(i:Nat){H:Hp}(k:q)(hi:H.get i=none:=by first|rfl|exact dD)(hz:dR P t=some zs:=by(simp only[go_sem];rfl))(e:K (.pt i 0 0 0) (H.put i (.var t (zs.map .raw)))=q:=by exact fq):ob P H t K:=Ak i hz hi (e ▸ k)
def aV(i:Nat){x:AV}{H:Hp}(k:q)(hi:H.get i=none:=by first|rfl|exact dD)(ho:cM x.cells=true:=by simp only[go_sem])(e:K (.pt i 0 0 0) (H.put i (.var t x.cells))=q:=by exact fq):qI H t x K:=yP i ho hi (e ▸ k)
section
variable {α:Type}[DecidableEq α]
def pT(n:α):List α->UE->Option AV
 |k::ks,v::vs=>if n=k then some v else pT n ks vs
 |_,_=>none
def nH(n:α)(x:AV):List α->UE->UE
 |k::ks,v::vs=>if n=k then x::vs else v::nH n x ks vs
 |_,_=>[x]
def nB(n:α):List α->List α
 |k::ks=>if n=k then k::ks else k::nB n ks
 |[]=>[n]
theorem Ki(n:α)(x:AV):∀(ks:List α) (vs:UE),ks.length=vs.length->(nB n ks).length=(nH n x ks vs).length
 |[],[],_=>rfl
 |[],_::_,h=>by simp at h
 |_::_,[],h=>by simp at h
 |k::ks,v::vs,h=>by
  have h:ks.length=vs.length:=by simpa using h
  unfold nB nH;split
  ·simp[h]
  ·simp[Ki n x ks vs h]
structure kq(P:Program)(kt:TypeId)(enc:α->Value):Prop where
 Tk:∃d,P.underlying kt=some d/\∀a b,Instr.sameNow d (enc a) (enc b)=some (decide (a=b))
 yO:∀(w:World) a e,(Instr.checkKey e 10000 kt (enc a)).run P w=.ok () w
 bits:∀a,Instr.sameBits 10000 (enc a) (enc a)=true
variable{P:UP}{kt:UJ}
def L5(h:P.underlying kt=some (.int .i64)):kq P kt (Value.int .i64):=⟨⟨_,h,fun a b=>by simp[Instr.sameNow];rfl⟩,fun w a e=>MapKept.run_checkKey h (by simp[MapKept.IsKey]) e 9999,fun a=>by unfold Instr.sameBits;simp⟩
def Lw(h:P.underlying kt=some .string):kq P kt Value.string:=⟨⟨_,h,fun a b=>by
 have:(a == b)=decide (a=b):=by rw[Bool.eq_iff_iff,MapKept.bytes_beq];simp
 simp only[Instr.sameNow,this]⟩,fun w a e=>MapKept.run_checkKey h (by simp[MapKept.IsKey]) e 9999,fun a=>by unfold Instr.sameBits;exact(MapKept.bytes_beq a a).2 rfl⟩
def nT(n:α):List α->UM->Nat->Option (Nat×Value)
 |k::ks,v::vs,i=>if n=k then some (i,v)else nT n ks vs (i+1)
 |_,_,_=>none
theorem Fy{d:TypeDesc}{enc:α->Value}(h:∀a b,Instr.sameNow d (enc a) (enc b)=some (decide (a=b)))(n:α):∀(ks:List α) (vs:UM) (b i:Nat),Instr.findNow d (enc n) (iQ b (ks.map enc) vs) i=some (nT n ks vs i)
 |[],vs,b,i=>by simp[iQ,nT,Instr.findNow]
 |k::ks,[],b,i=>by simp[iQ,nT,Instr.findNow]
 |k::ks,v::vs,b,i=>by
  simp only[List.map_cons,iQ,nT,Instr.findNow,h];by_cases e:n=k
  ·simp[e]
  ·simp[e,Fy h n ks vs (b+1) (i+1)]
theorem AX{n:α}:∀{ks:List α} {vs:UM} {i j:Nat} {v:Value},nT n ks vs i=some (j,v)->∃k,j=i+k/\vs[k]?=some v/\ks[k]?=some n/\k<ks.length/\
  (∀zl:UE,zl.length=ks.length->pT n ks zl=zl[k]?/\(∀x,nH n x ks zl=zl.set k x))/\nB n ks=ks
 |[],_,_,_,_,h=>by simp[nT]at h
 |_::_,[],_,_,_,h=>by simp[nT]at h
 |k::ks,v'::vs,i,j,v,h=>by
  unfold nT at h;split at h
  ·rename_i e;cases h;refine⟨0,rfl,rfl,by simp[e],jE,fun zl hl=>?_,by simp[nB,e]⟩;cases zl with
   |nil=>simp at hl
   |cons a zl=>exact⟨by simp[pT,e],fun x=>by simp[nH,e]⟩
  ·rename_i e;obtain⟨q,h1,h2,h3,h5,h4,h6⟩:=AX h;refine⟨q+1,jB,by simpa using h2,by simpa using h3,by simpa using h5,fun zl hl=>?_,by unfold nB;rw[if_neg e,h6]⟩;cases zl with
   |nil=>simp at hl
   |cons a zl=> obtain⟨g1,g2⟩:=h4 zl (by simpa using hl);exact⟨by unfold pT;rw[if_neg e,g1];rfl,fun x=>by unfold nH;rw[if_neg e,g2];rfl⟩
theorem BU{n:α}:∀{ks:List α} {vs:UM} {i:Nat},ks.length=vs.length->nT n ks vs i=none->(∀zl:UE,zl.length=ks.length->pT n ks zl=none/\∀x,nH n x ks zl=zl++[x])/\nB n ks=ks++[n]
 |[],_,_,_,_=>⟨fun zl hl=>by
   have:zl=[]:=by simpa using hl
   subst this;exact⟨rfl,fun x=>rfl⟩,rfl⟩
 |_::_,[],_,h,_=>by simp at h
 |k::ks,v'::vs,i,hl,h=>by
  unfold nT at h;split at h
  ·cases h
  ·rename_i e;obtain⟨g1,g2⟩:=BU (by simpa using hl) h;refine⟨fun zl Xg=>?_,by unfold nB;rw[if_neg e,g2];rfl⟩;cases zl with
   |nil=>simp at Xg
   |cons a zl=> obtain⟨q1,q2⟩:=g1 zl (by simpa using Xg);exact⟨by unfold pT;rw[if_neg e,q1],fun x=>by unfold nH;rw[if_neg e,q2];rfl⟩
theorem Ej:∀(b:Nat) (ks vs:UM) (k v:Value),ks.length=vs.length->iQ b (ks++[k]) (vs++[v])=iQ b ks vs++[⟨k,v,b+ks.length⟩]
 |b,[],[],k,v,_=>by simp[iQ]
 |b,[],_::_,k,v,h=>by simp at h
 |b,_::_,[],k,v,h=>by simp at h
 |b,k'::ks,v'::vs,k,v,h=>by have:=Ej (b+1) ks vs k v (by simpa using h);simp only[List.cons_append,iQ,this,List.length_cons];rw[show b+1+ks.length=b+(ks.length+1) from jB]
theorem Eo:∀(b:Nat) (ks vs:UM) (j:Nat) (k v:Value),ks[j]?=some k->vs[j]?=some v->(iQ b ks vs)[j]?=some ⟨k,v,b+j⟩
 |b,[],_,j,k,v,h,_=>by simp at h
 |b,_::_,[],j,k,v,_,h=>by simp at h
 |b,k'::ks,v'::vs,0,k,v,h1,h2=>by simp at h1 h2;subst h1 h2;rfl
 |b,k'::ks,v'::vs,j+1,k,v,h1,h2=>by have:=Eo (b+1) ks vs j k v (by simpa using h1) (by simpa using h2);simp only[iQ,List.getElem?_cons_succ,this];rw[show b+1+j=b+(j+1) from jB]
theorem I2:∀(b:Nat) (ks vs:UM) (j:Nat) (k v:Value),ks[j]?=some k->j<vs.length->iQ b ks (vs.set j v)=(iQ b ks vs).modify j fun e=>{ e with key:=k,val:=v }
 |b,[],_,j,k,v,h,_=>by simp at h
 |b,_::_,[],j,k,v,_,h=>by simp at h
 |b,k'::ks,v'::vs,0,k,v,h1,_=>by simp at h1;subst h1;simp[iQ]
 |b,k'::ks,v'::vs,j+1,k,v,h1,h2=>by have:=I2 (b+1) ks vs j k v (by simpa using h1) (by simpa using h2);simp[iQ,this]
def FT{enc:α->Value}(K:kq P kt enc)(w:World)(n:α)(ks:List α)(vs:UM)(b:Nat):(Instr.findKey kt (enc n) (iQ b (ks.map enc) vs)).run P w=.ok (nT n ks vs 0) w:=by obtain⟨d,h1,h2⟩:=K.Tk;simp[Instr.findKey,run_underlying h1,Fy h2,Result.andThen]
end
section
variable {P:UP}{H:Hp}{α:Type}[DecidableEq α]
variable{i:Nat}{vs:UE}
def GO{w:NW}(hw:aJ w H){ks:UM}{b t s:Nat}(hi:H.get i=some (.mp ks vs))(hn:w.nm i 0=some (.at b t s)) :
  s=0/\ks.length=vs.length/\∃cur:UL,w.heap[b]?=some (.map (iQ 0 ks cur.toList).toArray ks.length)/\cur.size=vs.length/\∀(k:Nat) a v,vs[k]?=some a->cur[k]?=some v->ax w a v:=by
 obtain⟨hok,z,hz,UU⟩:=hw.rows _ _ hi;have:z=.at b t s:=by have hz:w.nm i 0=some z:=hz;rw[hn]at hz;cases hz;rfl
 subst this;obtain⟨h1,cur,hh,Ve,hr⟩:=UU;exact⟨h1,hok,cur,hh,Ve,hr⟩
variable{ty t:UJ}{K:UB}{q:Prop}
def ut(i:Nat){ev:UK}(k:q)(hi:H.get i=none:=by first|rfl|exact dD)(e:K (.mr i) (H.put i (.mp [] []))=q:=by exact fq):jM P (.makeMap t none) ty ev H K:=fun w ρ dst pos after guard hw hρ=>by
 obtain⟨q1,q2⟩:=v6 (row:=.mp [] []) hw (hw.none hi _) (fun r' hr=>by rw[hi]at hr;cases hr) rfl #[] rfl (fun k a v ha hv=>by have ha:([]:UE)[k]?=some a:=ha;simp at ha)
 refine⟨_,_,.mr i,e ▸ k,q1,q2,.inl ⟨.map (some w.heap.size),?_,.mr _ _ _ _ (NW.cz _ _ _ _)⟩⟩;simp[execOp,Instr.makeMap,newObj,Result.andThen];rfl
variable{et:UJ}{om ox:Operand}{op:Op}{enc:α->Value}
def Gl{ev:UK}{kt:UJ}{ok:Operand}{ks:List α}{n:α}{x:AV}(WE:op=.insert t om ok ox\/op=.mapUpdate t om ok ox)(hK:kq P kt enc)(ht:P.underlying t=some (.map kt et))
  (hm:ev om=.mr i) (hk:ev ok=.raw (enc n)) (hx:ev ox=x) (hi:H.get i=some (.mp (ks.map enc) vs)) (k:q) (e:K .any (H.put i (.mp ((nB n ks).map enc) (nH n x ks vs)))=q):jM P op ty ev H K:=fun w ρ dst pos after guard hw hρ=>by
 have ho:om∈op.operands.toList/\ok∈op.operands.toList/\ox∈op.operands.toList:=by rcases WE with rfl|rfl<;>simp[Op.operands]
 have h1:=hρ om ho.1;have h2:=hρ ok ho.2.1;have h3:=hρ ox ho.2.2;rw[hm]at h1;rw[hk]at h2;rw[hx]at h3;have e2:=db h2;cases e1:ρ om with
 |map r=>
  rw[e1]at h1;cases h1 with
  |mr _ b u s hn=>
  obtain⟨rfl,hl,cur,hh,Uu,hr⟩:=GO hw hi hn;have hl:ks.length=vs.length:=by simpa using hl
  have Uo:ks.length=cur.toList.length:=by simp;omega
  have hb:b<w.heap.size:=hw.lt hn;have run:∀(vs':UM) (ks':List α),ks'.length=vs'.length->(nH n x ks vs).length=vs'.length->nB n ks=ks'->
    (Instr.mapUpdate t (ρ om) (ρ ok) (ρ ox)).run P w.toWorld=.ok () { w.toWorld with heap:=w.heap.setIfInBounds b (.map (iQ 0 (ks'.map enc) vs').toArray ks'.length) }->
    (∀(k:Nat) a v,(nH n x ks vs)[k]?=some a->vs'[k]?=some v->ax w a v)->∃(w':NW) (H':Hp) (r:AV),K r H'/\aJ w' H'/\Ext w H w' H'/\((∃v,(execOp ρ ⟨dst,op,ty,pos,after,guard⟩).run P w.toWorld=.ok (.value v) w'.toWorld/\ax w' r v)\/((execOp ρ ⟨dst,op,ty,pos,after,guard⟩).run P w.toWorld=.ok .skip w'.toWorld/\r=.any)):=fun vs' ks' VY Uz XA B' U2=>by
   obtain⟨g1,g2⟩:=Gp (W:={ w.toWorld with heap:=w.heap.setIfInBounds b (.map (iQ 0 (ks'.map enc) vs').toArray ks'.length) }) (row:=.mp (ks.map enc) vs) (row':=.mp ((nB n ks).map enc) (nH n x ks vs)) hw hi hn rfl jl (by show((nB n ks).map enc).length=_;rw[List.length_map];exact Ki n x ks vs hl) rfl rfl rfl jE (fun c hc=>by
    show(w.heap.setIfInBounds b _)[c]?=_;rw[Array.getElem?_setIfInBounds,if_neg (fun h=>hc h.symm)]) vs'.toArray (by
    show(w.heap.setIfInBounds b _)[b]?=_;rw[Array.getElem?_setIfInBounds,if_pos rfl,if_pos hb,XA];simp[Row.obj]) (by show vs'.toArray.size=_;simp;omega) (fun k a v ha hv=>U2 k a v ha (by simpa using hv))
   refine⟨_,_,.any,e ▸ k,g1,g2,.inr ⟨?_,rfl⟩⟩;rcases WE with rfl|rfl
   ·simp only[execOp,B'];simp[B',Result.andThen];rfl
   ·simp only[execOp,B'];simp[B',Result.andThen];rfl
  have VD:=FT hK w.toWorld n ks cur.toList 0;cases hf:nT n ks cur.toList 0 with
  |none=>
   obtain⟨f1,f2⟩:=BU Uo hf;obtain⟨f3,f4⟩:=f1 vs jB;refine run (cur.toList++[ρ ox]) (ks++[n]) jF (by rw[f4];simp;omega) f2 ?_ ?_
   ·rw[e1,e2];have es:=Ej 0 (ks.map enc) cur.toList (enc n) (ρ ox) (by simpa using Uo);rw[Nat.zero_add,List.length_map]at es;rw[List.map_append,List.map_singleton,es];simp[Instr.mapUpdate,run_underlying ht,MapKept.run_getObj_map hh,hK.yO,VD,hf,MapKept.run_setObj_map _ hh,Result.andThen]
   ·intro k a v ha hv;rw[f4]at ha;rcases Nat.lt_or_ge k vs.length with h|h
    ·rw[List.getElem?_append_left h]at ha;rw[List.getElem?_append_left jF]at hv;exact hr k a v ha (by simpa using hv)
    ·rw[List.getElem?_append_right h]at ha;rw[List.getElem?_append_right jF]at hv;have UW:k-vs.length=0:=by
      have:=(List.getElem?_eq_some_iff.1 ha).1;simp at this;omega
     rw[UW]at ha;rw[show k-cur.toList.length=0 by simp;omega]at hv;simp at ha hv;subst ha hv;exact h3
  |some jv=>
   obtain⟨j,v0⟩:=jv;obtain⟨k0,rfl,f2,f3,f5,f4,f6⟩:=AX hf;rw[Nat.zero_add]at hf;obtain⟨f7,f8⟩:=f4 vs jB;refine run (cur.toList.set k0 (ρ ox)) ks jF (by rw[f8];simp;omega) f6 ?_ ?_
   ·rw[e1,e2];have YU:(ks.map enc)[k0]?=some (enc n):=by simp[f3]
    have es:=I2 0 (ks.map enc) cur.toList k0 (enc n) (ρ ox) YU jB;have eg:=Eo 0 (ks.map enc) cur.toList k0 (enc n) v0 YU f2;rw[es];have VG:∀g,(iQ 0 (ks.map enc) cur.toList).toArray.modify k0 g=((iQ 0 (ks.map enc) cur.toList).modify k0 g).toArray:=fun g=>jE
    simp[Instr.mapUpdate,run_underlying ht,MapKept.run_getObj_map hh,hK.yO,VD,hf,MapKept.run_setObj_map _ hh,Result.andThen,eg,Instr.keyThatStays,hK.bits]
   ·intro k a v ha hv;rw[f8,List.getElem?_set]at ha;rw[List.getElem?_set]at hv;by_cases UY:k0=k
    ·rw[if_pos UY]at ha hv;split at ha
     ·split at hv
      ·cases ha;cases hv;exact h3
      ·cases hv
     ·cases ha
    ·rw[if_neg UY]at ha hv;exact hr k a v ha (by simpa using hv)
 |_=>rw[e1]at h1;cases h1
def oO(n:α)(ks:List α)(vs:UE)(z:AV)(ok:Bool):AV:=if ok=true then(match pT n ks vs with|some v=>.aQ [v,.raw (.bool true)]|none=>.aQ [z,.raw (.bool false)])else(pT n ks vs).getD z
def DI{ev:UK}{kt:UJ}{c:Bool}{ks:List α}{n:α}{z:Value}(hK:kq P kt enc)(ht:P.underlying t=some (.map kt et))(hz:(P.info? et).bind (·.zero)=some z)
  (hm:ev om=.mr i) (hk:ev ox=.raw (enc n)) (hi:H.get i=some (.mp (ks.map enc) vs)) (k:q) (e:K (oO n ks vs (.raw z) c) H=q):jM P (.lookup t om ox c) ty ev H K:=fun w ρ dst pos after guard hw hρ=>by
 have h1:=hρ om (by simp[Op.operands]);have h2:=hρ ox (by simp[Op.operands]);rw[hm]at h1;rw[hk]at h2;have e2:=db h2;cases e1:ρ om with
 |map r=>
  rw[e1]at h1;cases h1 with
  |mr _ b u s hn=>
  obtain⟨rfl,hl,cur,hh,Uu,hr⟩:=GO hw hi hn;have hl:ks.length=vs.length:=by simpa using hl
  have Uo:ks.length=cur.toList.length:=by simp;omega
  have VD:=FT hK w.toWorld n ks cur.toList 0;have hzr:(zeroValue et).run P w.toWorld=.ok z w.toWorld:=by
   cases XO:P.info? et with
   |none=>rw[XO]at hz;cases hz
   |some ti=>rw[XO]at hz;simp only[Option.bind_some]at hz;simp[zeroValue,typeInfo,XO,hz]
  cases hf:nT n ks cur.toList 0 with
  |none=>
   obtain⟨f1,f2⟩:=BU Uo hf;obtain⟨f3,_⟩:=f1 vs jB;refine⟨w,H,_,e ▸ k,hw,Ext.refl w H,.inl ⟨if c=true then .tuple #[z,.bool false]else z,?_,?_⟩⟩
   ·simp only[execOp,e1,e2];cases c<;>simp[Instr.lookup,run_underlying ht,MapKept.run_getObj_map hh,hK.yO,VD,hf,hzr,Result.andThen]
   ·unfold oO;rw[f3];cases c
    ·exact .raw _
    ·exact .aQ _ _ rfl fun i a v ha hv=>by
      match i with
      |0=>simp at ha hv;subst ha hv;exact .raw _
      |1=>simp at ha hv;subst ha hv;exact .raw _
      |i+2=>simp at ha
  |some jv=>
   obtain⟨j,v0⟩:=jv;obtain⟨k0,rfl,f2,f3,f5,f4,f6⟩:=AX hf;obtain⟨f7,_⟩:=f4 vs jB;have UW:k0<vs.length:=jB;have hv0:ax w vs[k0] v0:=hr k0 _ v0 (List.getElem?_eq_getElem UW) (by simpa using f2);refine⟨w,H,_,e ▸ k,hw,Ext.refl w H,.inl ⟨if c=true then .tuple #[v0,.bool true]else v0,?_,?_⟩⟩
   ·simp only[execOp,e1,e2];cases c<;>simp[Instr.lookup,run_underlying ht,MapKept.run_getObj_map hh,hK.yO,VD,hf,Result.andThen]
   ·unfold oO;rw[f7,List.getElem?_eq_getElem UW];cases c
    ·exact hv0
    ·exact .aQ _ _ rfl fun i a v ha hv=>by
      match i with
      |0=>simp at ha hv;subst ha hv;exact hv0
      |1=>simp at ha hv;subst ha hv;exact .raw _
      |i+2=>simp at ha
 |_=>rw[e1]at h1;cases h1
def qE(P:UP)(t:UJ):Option (Bool×UJ):=match P.underlying t with
 |some (.map k e)=>match P.underlying k with
  |some .string=>some (true,e)
  |some (.int .i64)=>some (false,e)
  |_=>none
 |_=>none
def D5{e:UJ}(h:qE P t=some (true,e)):∃k,P.underlying t=some (.map k e)/\kq P k Value.string:=by
 unfold qE at h;split at h
 ·rename_i k e' h1;split at h
  ·rename_i h2;cases h;exact⟨k,h1,Lw h2⟩
  ·cases h
  ·cases h
 ·cases h
def Ee{e:UJ}(h:qE P t=some (false,e)):∃k,P.underlying t=some (.map k e)/\kq P k (Value.int .i64):=by
 unfold qE at h;split at h
 ·rename_i k e' h1;split at h
  ·cases h
  ·rename_i h2;cases h;exact⟨k,h1,L5 h2⟩
  ·cases h
 ·cases h
def kX{ev:UK}{ok:Operand}{n:Int}(ks:UG)(ZT:qE P t=some (false,et))(k:q)(WE:op=.insert t om ok ox\/op=.mapUpdate t om ok ox:=by first|exact Or.inl rfl|exact Or.inr rfl)
  (hm:ev om=.mr i:=by rfl) (hk:ev ok=.raw (.int .i64 n):=by rfl) (hi:H.get i=some (.mp (ks.map (Value.int .i64)) vs):=by first|rfl|exact dD) (e:K .any (H.put i (.mp ((nB n ks).map (Value.int .i64)) (nH n (ev ox) ks vs)))=q:=by exact fq):jM P op ty ev H K:=by
 obtain⟨kt,h1,h2⟩:=Ee ZT;exact Gl WE h2 h1 hm hk rfl hi k e
def vt{ev:UK}{ok:Operand}{n:UI}(ks:List UI)(ZT:qE P t=some (true,et))(k:q)(WE:op=.insert t om ok ox\/op=.mapUpdate t om ok ox:=by first|exact Or.inl rfl|exact Or.inr rfl)
  (hm:ev om=.mr i:=by rfl) (hk:ev ok=.raw (.string n):=by rfl) (hi:H.get i=some (.mp (ks.map Value.string) vs):=by first|rfl|exact dD) (e:K .any (H.put i (.mp ((nB n ks).map Value.string) (nH n (ev ox) ks vs)))=q:=by exact fq):jM P op ty ev H K:=by
 obtain⟨kt,h1,h2⟩:=D5 ZT;exact Gl WE h2 h1 hm hk rfl hi k e
def zF{ev:UK}{c:Bool}{n:Int}(ks:UG)(z:Value)(r:AV)(ZT:qE P t=some (false,et))(hz:(P.info? et).bind (·.zero)=some z)(hr:oO n ks vs (.raw z) c=r)(k:q)
  (hm:ev om=.mr i:=by rfl) (hk:ev ox=.raw (.int .i64 n):=by rfl) (hi:H.get i=some (.mp (ks.map (Value.int .i64)) vs):=by first|rfl|exact dD) (e:K r H=q:=by exact fq):jM P (.lookup t om ox c) ty ev H K:=by
 obtain⟨kt,h1,h2⟩:=Ee ZT;exact DI h2 h1 hz hm hk hi k (hr ▸ e)
def pN{ev:UK}{c:Bool}{n:UI}(ks:List UI)(z:Value)(r:AV)(ZT:qE P t=some (true,et))(hz:(P.info? et).bind (·.zero)=some z)(hr:oO n ks vs (.raw z) c=r)(k:q)
  (hm:ev om=.mr i:=by rfl) (hk:ev ox=.raw (.string n):=by rfl) (hi:H.get i=some (.mp (ks.map Value.string) vs):=by first|rfl|exact dD) (e:K r H=q:=by exact fq):jM P (.lookup t om ox c) ty ev H K:=by
 obtain⟨kt,h1,h2⟩:=D5 ZT;exact DI h2 h1 hz hm hk hi k (hr ▸ e)
@[go_sem] def j2w{ev:UK}(t:UJ)(r:Option Operand):vc P ev H ty K (.makeMap t r)=jM P (.makeMap t r) ty ev H K:=by simp[vc,du]
@[go_sem] def j5n{ev:UK}(t:UJ)(m k x:Operand):vc P ev H ty K (.insert t m k x)=jM P (.insert t m k x) ty ev H K:=by simp[vc,du]
@[go_sem] def j5p{ev:UK}(t:UJ)(m k:Operand)(c:Bool):vc P ev H ty K (.lookup t m k c)=jM P (.lookup t m k c) ty ev H K:=by simp[vc,du]
end
attribute [go_sem] nH nB
-- what is new, in regions that leave their order open
section
variable {P:UP}{A:AS}{ev:UK}{H:Hp}
variable{K:UB}
@[go_sem] def j65(t:UJ)(l c:Operand):ur P A ev H K (.makeSlice t l c)=jM P (.makeSlice t l c) 0 ev H (AP (fun r H'=>eK A H H'/\K r H') .mk):=(rfl)
variable{q:Prop}
def wb(i:Nat){t:UJ}{sz:Nat}{css:UC}(k:q)(h0:0<sz:=by decide)(hi:H.get i=none:=by first|rfl|exact dD)(e:K (.rs i css.length sz css.length) (H.put i (.aG t sz css))=q:=by exact fq):sn t sz css H K:=Ec i h0 hi (e ▸ k)
def Li(i:Nat){t et:UJ}{sz n:Nat}{zs:UM}{l c:Operand}{f:UB}{d:iw fun r H'=>eK A H H'/\f r H'}(k:q)(hl:ev l=.raw (.int .i64 (n:Int)):=by rfl)(hc:ev c=.raw (.int .i64 (n:Int)):=by rfl)(ht:ir P t=some et:=by(simp only[go_sem];rfl))(hs:dc P et=some sz:=by(simp only[go_sem];rfl))(hz:dR P et=some zs:=by(simp only[go_sem];rfl))(WT:zs.length=sz:=by rfl)(h0:0<sz:=by decide)(hr:room (j4 P et) n:=by(simp only[go_sem];omega))(hi:H.get i=none:=by first|rfl|exact dD)
  (e:f (.rs i n sz n) (H.put i (.aG et sz (List.replicate n (zs.map .raw))))=q:=by exact fq):jM P (.makeSlice t l c) 0 ev H (AP (fun r H'=>eK A H H'/\f r H') d):=
 Nz (K:=AP (fun r H'=>eK A H H'/\f r H') d) (q:=eK A H (H.put i (.aG et sz (List.replicate n (zs.map .raw))))/\q) i ⟨eK.put hi,k⟩ hl hc ht hs hz WT h0 hr hi (by show(eK A H _/\f _ _)=_;rw[e])
variable{l0:UD}
def M8(h4:oo [] H l0)(h5:(ids l0).Nodup):eK A H ⟨H.B,gF H.l l0⟩:=fun i r _ hi=>by
 left
 show aA (gF H.l l0) i=some r;rw[uf _ _ _ (fun _ _ _=>trivial) h5];cases e:aA l0 i with
 |none=>exact hi
 |some x=>
  rcases yH h4 i x e with h|h
  ·simp at h
  ·rw[hi]at h;cases h
def cN{f:FuncId}{args:UE}{g:UB}{d:iw fun r H'=>eK A H H'/\g r H'}{r0:AV}(hc:ab P f args [] fun r l'=>r=r0/\l'=l0)(k:q)(h0:aS P f=true:=by exact dD)(h2:aY eu args=true:=by exact dD)
 (h4:oo [] H l0:=by exact dD) (h5:(ids l0).Nodup:=by exact dD) (e:g r0 ⟨H.B,gF H.l l0⟩=q:=by exact fq):fg P (.raw (.func (.func f) #[] #[])) args H (AP (fun r H'=>eK A H H'/\g r H') d):=
 nZ h0 (vz (K:=AP (fun r H'=>eK A H H'/\g r H') d) hc trivial (by simpa[ids]using h2) trivial h4 h5 ⟨M8 h4 h5,e ▸ k⟩)
end
attribute [go_sem] pz
variable{cs:UE}
def Ll{w:NW}{H:Hp}(r:aJ w H){D:UO}{j:Nat}{ds:UE}(hj:H.get j=some (.var t cs))(hD:D j=false)(hv:bt D H cs ds)(hB:H.B.all (gZ D)=true)(hl:iL D (pz H.l j)) :
  aJ (w.cS D) ⟨H.B,bj (fy D H.l) j (.var t ds)⟩/\fU w H (w.cS D) ⟨H.B,bj (fy D H.l) j (.var t ds)⟩:=by
 have Vn:∀k n,(w.cS D).nm k n=if D k=true then none else w.nm k n:=fun _ _=>rfl
 have gE:∀k,(Hp.mk H.B (bj (fy D H.l) j (.var t ds))).get k=if k=j then some (.var t ds)else if D k=true then none else H.get k:=fun k=>by show aA _ _=_;rw[bP,Dp];rfl
 obtain⟨I',Vq⟩:=hv.get;refine⟨{ rows:=fun k s hk=>?_,di:=fun k n z hz=>?_,inj:=fun k n k' n' b t s t' s' h1 h2=>?_,own:=fun k n b t s h=>?_,fin:=fun b hb=>r.fin b hb.1,cd:=r.cd.aX (pr w D) },{ pr w D with names:=fun k n z hq h=>?_,os:=rfl,tape:=rfl,output:=rfl,rest:=fun b hb hO hn=>⟨rfl,⟨hO,fun k n t s _=>hn k n t s⟩,fun k n t s h=>?_⟩,base:=rfl }⟩
 ·rw[gE]at hk;by_cases e:k=j
  ·subst e;rw[if_pos rfl]at hk;cases hk;obtain⟨h1,z,h2,h3⟩:=r.rows k _ hj;refine⟨trivial,z,by rw[Vn,if_neg (by rw[hD];decide)];exact h2,?_⟩;cases z with
   |nil=>obtain⟨e,sz,h⟩:=h3;cases h
   |«at» b T st=>
    obtain⟨g1,cur,g2,g3,g5⟩:=h3;refine⟨g1,cur,g2,⟨g3.1,by show ds.length<=T;rw[<-I'];exact g3.2⟩,fun i d v hd U3=>?_⟩;have hi:i<cs.length:=by rw[I'];exact(List.getElem?_eq_some_iff.1 hd).1
    have hc:cs[i]?=some cs[i]:=List.getElem?_eq_getElem hi;exact(Vq i _ d hc hd).sound r (g5 i _ v hc U3)
  ·rw[if_neg e]at hk;split at hk
   ·cases hk
   ·rename_i e2;obtain⟨h1,z,h2,h3⟩:=r.rows k s hk;refine⟨h1,z,by rw[Vn,if_neg e2];exact h2,?_⟩;cases z with
    |nil=>exact h3
    |«at» b T st=>
     obtain⟨g1,cur,g2,g3,g5⟩:=h3;have UY:aA (pz H.l j) k=some s:=by rw[CJ,if_neg e];exact hk
     exact⟨g1,cur,g2,g3,fun i a v ha hv=>(g5 i a v ha hv).aX (pr w D) (lK (Ao hl UY (by simpa using e2)) ha)⟩
 ·rw[Vn]at hz;split at hz
  ·cases hz
  ·rename_i e;obtain⟨s,h1,h2⟩:=r.di k n z hz;by_cases e2:k=j
   ·subst e2;rw[hj]at h1;cases h1;exact⟨.var t ds,by rw[gE,if_pos rfl],h2⟩
   ·exact⟨s,by rw[gE,if_neg e2,if_neg e];exact h1,h2⟩
 ·rw[Vn]at h1 h2;split at h1
  ·cases h1
  split at h2
  ·cases h2
  exact r.inj _ _ _ _ _ _ _ _ _ h1 h2
 ·rw[Vn]at h;split at h
  ·cases h
  rename_i e;refine⟨r.own _ _ _ _ _ h,fun i m t' s' hd h'=>?_⟩;have:=r.inj _ _ _ _ _ _ _ _ _ h h';subst this;exact e hd
 ·rw[Vn];have:=List.all_eq_true.1 hB k (List.contains_iff_mem.1 hq);unfold gZ at this;rw[if_neg (by intro e;rw[e]at this;cases this)];exact h
 ·rw[Vn]at h;split at h
  ·cases h
  ·exact hn k n t s h
variable{F:UE}
def dV.xf{F':UE}{H:Hp}(D:UO)(j:Nat)(ds:UE)(hj:H.get j=some (.var t cs))(hD:D j=false)(hc:bt D H cs ds)(hB:H.B.all (gZ D)=true)(hl:iL D (pz H.l j))(hv:bt D H F F'):dV F H F' ⟨H.B,bj (fy D H.l) j (.var t ds)⟩:=fun w tm h1 h2=>by
 obtain⟨a,b⟩:=Ll h1 hj hD hc hB hl;obtain⟨VY,hg⟩:=hv.get;refine⟨w.cS D,rfl,a,⟨by rw[<-VY];exact h2.1,fun i c v hc hv=>?_⟩,b⟩;have hi:i<F.length:=by rw[VY];exact(List.getElem?_eq_some_iff.1 hc).1
 exact(hg i F[i] c (List.getElem?_eq_getElem hi) hc).sound h1 (h2.2 i _ v (List.getElem?_eq_getElem hi) hv)
variable{Q:Exit->UA}
def KN{P:UP}{id:Nat}{l:List Oper}{b:Bool}{H:Hp}(L:UH)(j:Nat)(ds:UE)(W:List (Nat×Nat))(J:List (Nat×AV))(h:q)(h0:(L.any fun i=>(H.get i).isSome)=true:=by rfl)(hj:H.get j=some (.var t cs):=by rfl)(hD:(L.contains j)=false:=by rfl)(hc:bt (fun i=>L.contains i) H cs ds:=by exact jL)(hB:H.B.all (gZ fun i=>L.contains i)=true:=by exact dD)(hl:iL (fun i=>L.contains i) (pz H.l j):=by exact dD)
 (hv:bt (fun i=>L.contains i) H F (mM J (nn W F)):=by exact jL) (e:dI P (.region id l.toArray b) Q (mM J (nn W F)) ⟨H.B,bj (fy (fun i=>L.contains i) H.l) j (.var t ds)⟩=q:=by exact fq):dI P (.region id l.toArray b) Q F H:=jw (dV.xf _ j ds hj hD hc hB hl hv) (e ▸ h)
-- calls under guards, that change things
def Iz(D:UH):Option Tmp->Bool
 |some t=>D.contains t
 |none=>false
def I7(P:UP)(ev:UK)(H:Hp)(K:UB):Op->Prop
 |.call { callee:=.value f,args,.. }=>fg P (ev f) (args.toList.map ev) H K
 |_=>False
def jZ(D:UH)(P:UP)(ops:Array Oper)(K:UA):List Oper->UA
 |[],F,H=>K F H
 |o::rest,F,H=>match o.guard with
  |none=>vc P (cr F) H o.type (fun r H'=>jZ D P ops K rest (cO F o.dst r) H') o.op
  |some (j,want)=>match lZ ops F j want with
   |some b=>if(Iz D o.dst && ja o.op)=true then(b=true->gp F o.op=true/\I7 P (bO F) H (fun r H'=>jZ D P ops K rest (cO F o.dst r) H') o.op)/\(b=false->jZ D P ops K rest (cO F o.dst (.gd false (.raw (.bool false)))) H)
    else if ja o.op || iM o.op then fa P F H b (fun r=>jZ D P ops K rest (cO F o.dst r) H) o.op
    else(b=true->vc P (cr F) H o.type (fun r H'=>jZ D P ops K rest (cO F o.dst r) H') o.op)/\(b=false->jZ D P ops K rest (cO F o.dst .any) H)
   |none=>False
section
variable {P:UP}{ops:Array Oper}
theorem xW{D:UH}{K:UA}:∀(l:List Oper) (F:UE) (H:Hp),jZ D P ops K l F H->vg P ops K l F H
 |[],F,H,h=>D4 h
 |o::rest,F,H,h=>by
  refine IL ?_;simp only[jZ]at h;split at h
  ·rename_i hg;exact(qv (K:=fun F' H'=>jZ D P ops K rest F' H') hg h).mono fun F' H' hk=>xW rest F' H' hk
  ·rename_i j want hg;split at h
   ·rename_i b hb;split at h
    ·rename_i hd;refine mR.mono (K:=fun F' H'=>jZ D P ops K rest F' H') ?_ fun F' H' hk=>xW rest F' H' hk
     obtain⟨dst,op,ty,pos,after,guard⟩:=o;have hc:ja op=true:=by simp only[Bool.and_eq_true]at hd;exact hd.2
     cases op<;>first|(cases hc;done)|skip
     rename_i c;obtain⟨callee,args,ts⟩:=c;cases callee<;>first|(cases hc;done)|skip
     rename_i f;refine pn hg hb (fun Vg w tm Q next h1 h2 hn=>?_) (fun Vg=>⟨.gd false (.raw (.bool false)),qi rfl,h.2 Vg⟩);obtain⟨ok,Vc⟩:=h.1 Vg;have Xe:=qx ok;have e1:kF F f=bO F f:=Xe f (by simp[Op.operands,Call.operands]);have e2:args.toList.map (kF F)=args.toList.map (bO F):=List.map_congr_left fun x hx=>Xe x (by simp[Op.operands,Call.operands]at hx ⊢;exact .inr hx)
     refine xk (ev:=kF F) e1 e2 Vc h1 (sL h2) fun v r' w' H' hR g1 g2 g3=>?_
     rw[Act.put_eq];exact hn _ w' _ H' hR g1 ((h2.ext g3).put dst g2 []) g3
    split at h
    ·refine mR.mono (K:=fun F' H'=>jZ D P ops K rest F' H') ?_ fun F' H' hk=>xW rest F' H' hk
     obtain⟨dst,op,ty,pos,after,guard⟩:=o;unfold fa at h;split at h
     ·rename_i f args argTypes Xu;cases Xu;obtain⟨r,hc,hk⟩:=h;refine pn hg hb (fun Vg w tm Q next h1 h2 hn=>?_) (fun Vg=>⟨_,qi Vg,hk⟩);obtain⟨ok,Vc⟩:=hc Vg;have Xe:=qx ok;have e1:kF F f=bO F f:=Xe f (by simp[Op.operands,Call.operands]);have e2:args.toList.map (kF F)=args.toList.map (bO F):=List.map_congr_left fun x hx=>Xe x (by simp[Op.operands,Call.operands]at hx ⊢;exact .inr hx)
      refine xk (ev:=kF F) e1 e2 Vc h1 (sL h2) fun v r' w' H' hR g1 g2 g3=>?_
      obtain⟨rfl,rfl⟩:=hR;rw[Act.put_eq];exact hn _ w' _ H' hk g1 ((h2.ext g3).put dst (sC Vg g2) []) g3
     ·rename_i f m args argTypes Xu;cases Xu;obtain⟨r,hc,hk⟩:=h;refine pn hg hb (fun Vg w tm Q next h1 h2 hn=>?_) (fun Vg=>⟨_,qi Vg,hk⟩);obtain⟨ok,Vc⟩:=hc Vg;have Xe:=qx ok;have e1:kF F f=bO F f:=Xe f (by simp[Op.operands,Call.operands]);have e2:args.toList.map (kF F)=args.toList.map (bO F):=List.map_congr_left fun x hx=>Xe x (by simp[Op.operands,Call.operands]at hx ⊢;exact .inr hx)
      refine Bn (ev:=kF F) e1 e2 Vc h1 (sL h2) fun v r' w' H' hR g1 g2 g3=>?_
      obtain⟨rfl,rfl⟩:=hR;rw[Act.put_eq];exact hn _ w' _ H' hk g1 ((h2.ext g3).put dst (sC Vg g2) []) g3
     ·rename_i c x y Xu;simp only at Xu;subst Xu;obtain⟨hs,hk⟩:=h;refine pn hg hb (fun Vg w tm Q next h1 h2 hn=>?_) (fun Vg=>⟨_,qi Vg,hk⟩);obtain⟨ok,hq⟩:=hs Vg;obtain⟨v,B',hv⟩:=DB (P:=P) (ρ:=(Act.mk tm []).eval) (dst:=dst) (ty:=ty) (pos:=pos) (after:=after) (guard:=guard) (Cj h2 c ok) (h2.eval [] x) (h2.eval [] y) hq;simp only[Oper.wp,B',Oper.upon];rw[Act.put_eq];exact hn _ w _ H hk h1 (h2.put dst (sC Vg hv) []) (Ext.refl w H)
     ·split at h
      ·obtain⟨hs,hk⟩:=h;refine pn hg hb (fun Vg w tm Q next h1 h2 hn=>?_) (fun Vg=>⟨_,qi Vg,hk⟩);obtain⟨ok,hq⟩:=hs Vg;rw[<-tQ _ (qx ok)]at hq;obtain⟨v,B',hv⟩:=yF (ρ:=(Act.mk tm []).eval) ⟨dst,op,ty,pos,after,guard⟩ h1 (sL h2) hq;simp only[Oper.wp,B',Oper.upon];rw[Act.put_eq];rw[tQ _ (qx ok)]at hv;exact hn _ w _ H hk h1 (h2.put dst (sC Vg hv) []) (Ext.refl w H)
      ·exact h.elim
    ·refine mR.mono (K:=fun F' H'=>jZ D P ops K rest F' H') ?_ fun F' H' hk=>xW rest F' H' hk
     refine pn hg hb (fun Vg w tm Q next h1 h2 hn=>?_) (fun Vg=>⟨_,fun w=>.any _,h.2 Vg⟩);exact C2 (h.1 Vg) h1 h2 (fun x=>h2.eval [] x) hn
   ·exact h.elim
end
section
variable {D:UH}{P:UP}{ops:Array Oper}{K:UA}
@[go_sem] def j7f(F:UE)(H:Hp):jZ D P ops K [] F H=K F H:=(rfl)
@[go_sem] def j5r(dst:Option Tmp)(op:Op)(ty:UJ)(pos:String)(after:Array Edge)(rest:List Oper)(F:UE)(H:Hp) :
  jZ D P ops K (⟨dst,op,ty,pos,after,none⟩::rest) F H=vc P (cr F) H ty (AP (fun r H'=>jZ D P ops K rest (cO F dst r) H') .mk) op:=(rfl)
def Cp(P:UP)(F:UE)(H:Hp)(K:UB):Op->Prop
 |.call { callee:=.value f,args,.. }=>((jK (cr F f)).1=true/\qj F args.toList)/\fg P (bO F f) (args.toList.map (bO F)) H K
 |_=>False
@[go_sem] def j5k{F:UE}{H:Hp}{K:UB}(f:Operand)(zl:Array Operand)(ts:Array UJ):Cp P F H K (.call ⟨.value f,zl,ts⟩)=(((jK (cr F f)).1=true/\qj F zl.toList)/\fg P (bO F f) (zl.toList.map (bO F)) H K):=(rfl)
def PU{F:UE}{H:Hp}{K:UB}{op:Op}(h:ja op=true):(gp F op=true/\I7 P (bO F) H K op)=Cp P F H K op:=by
 cases op<;>first|(cases h;done)|skip
 rename_i c;obtain⟨callee,args,ts⟩:=c;cases callee<;>first|(cases h;done)|skip
 rename_i f;rw[JG];rfl
@[go_sem] def j2B(t:Nat)(op:Op)(ty:UJ)(pos:String)(after:Array Edge)(j:Nat)(want:Bool)(rest:List Oper)(F:UE)(H:Hp) :
  jZ D P ops K (⟨some t,op,ty,pos,after,some (j,want)⟩::rest) F H=qV (lZ ops F j want) (fun b=>pg (D.contains t && ja op)
   (ra b (Cp P F H (AP (fun r H'=>jZ D P ops K rest (cO F (some t) r) H') .mk) op) (jZ D P ops K rest (cO F (some t) (.gd false (.raw (.bool false)))) H) .mk .mk)
   (pg (ja op || iM op) (fa P F H b (uN (fun r=>jZ D P ops K rest (cO F (some t) r) H) .mk) op)
    ((b=true->vc P (cr F) H ty (AP (fun r H'=>jZ D P ops K rest (cO F (some t) r) H') .mk) op)/\(b=false->jZ D P ops K rest (cO F (some t) .any) H)) .mk .mk) .mk .mk) .mk:=by
 conv=>lhs;unfold jZ
 simp only;unfold qV pg ra Iz;cases lZ ops F j want with
 |none=>rfl
 |some b=>
  simp only;by_cases hc:(D.contains t && ja op)=true
  ·rw[if_pos hc,if_pos hc];have hv:ja op=true:=by simp only[Bool.and_eq_true]at hc;exact hc.2
   rw[<-PU hv];rfl
  ·rw[if_neg hc,if_neg hc];rfl
end
def sS{P:UP}{id:Nat}{l:List Oper}{H:Hp}(D:UH)(h:q)(e:jZ D P l.toArray (Q .normal) l F H=q:=by exact fq):dI P (.region id l.toArray false) Q F H:=
 HP (by simpa using xW l F H (e ▸ h))
def bY{b:Bool}{X Y X' Y' pt pf:Prop}{d:iw X}{d':iw Y}(ht:pt->X')(hf:pf->Y')
 (et:(b=true)=pt:=by first|(simp only[Int.reduceEq,Int.reduceLE,Int.reduceLT,Int.reduceNe,false_and,and_false,true_and,and_true,or_false,false_or,true_or,or_true,Bool.false_eq_true,Bool.true_eq_false,eq_self,reduceCtorEq,Bool.not_true,Bool.not_false,Bool.and_eq_true,Bool.or_eq_true,Bool.and_eq_false_iff,Bool.or_eq_false_iff,decide_eq_true_eq,decide_eq_false_iff_not,Bool.not_eq_true',Bool.not_eq_false',Int.not_lt,Int.not_le];rfl)|rfl) (ef:(b=false)=pf:=by first|(simp only[Int.reduceEq,Int.reduceLE,Int.reduceLT,Int.reduceNe,false_and,and_false,true_and,and_true,or_false,false_or,true_or,or_true,Bool.false_eq_true,Bool.true_eq_false,eq_self,reduceCtorEq,Bool.not_true,Bool.not_false,Bool.and_eq_true,Bool.or_eq_true,Bool.and_eq_false_iff,Bool.or_eq_false_iff,decide_eq_true_eq,decide_eq_false_iff_not,Bool.not_eq_true',Bool.not_eq_false',Int.not_lt,Int.not_le];rfl)|rfl) (eX:X=X':=by exact fq) (eY:Y=Y':=by exact fq):ra b X Y d d':=⟨fun h=>eX ▸ ht (et ▸ h),fun h=>eY ▸ hf (ef ▸ h)⟩
def DA(A:AS)(l0:UD):List UR->Prop
 |[]=>True
 |(i,r)::l=>(A.1.contains i=true\/aA l0 i=some r)/\DA A l0 l
theorem Hr{A:AS}{l0:UD}:∀{l:UD},DA A l0 l->∀{i:Nat},(ids l).contains i=true->A.1.contains i=true\/∃r,aA l i=some r/\aA l0 i=some r
 |[],_,i,h=>by simp[ids]at h
 |(j,r)::l,hk,i,h=>by
  by_cases e:i=j
  ·subst e;rcases hk.1 with g|g
   ·exact .inl g
   ·exact .inr ⟨r,by simp[aA],g⟩
  ·have h:(ids l).contains i=true:=by
    simp only[ids,List.map_cons,List.contains_cons,Bool.or_eq_true,beq_iff_eq]at h;rcases h with h|h
    ·exact(e h).elim
    ·exact h
   rcases Hr hk.2 h with g|⟨s,g1,g2⟩
   ·exact .inl g
   ·exact .inr ⟨s,by simp only[aA,if_neg e];exact g1,g2⟩
def Fi{P:UP}{A:AS}{H:Hp}{f:FuncId}{args:UE}{g:UB}{d:iw fun r H'=>eK A H H'/\g r H'}{l0:UD}{r0:AV}(hc:ab P f args l fun r l'=>r=r0/\l'=l0)(k:q)(hA:DA A l0 l:=by(repeat' (first|exact jI|exact Or.inl rfl|exact Or.inr rfl|refine jA ?_ ?_)))(h1:rY l H:=by exact dD)(h0:aS P f=true:=by exact dD)(h2:aY (fun i=>(ids l).contains i) args=true:=by exact dD)(h3:rQ (fun i=>(ids l).contains i) l:=by exact dD)
 (h4:oo (ids l) H l0:=by exact dD) (h5:(ids l0).Nodup:=by exact dD) (e:g r0 ⟨H.B,gF H.l l0⟩=q:=by exact fq):fg P (.raw (.func (.func f) #[] #[])) args H (AP (fun r H'=>eK A H H'/\g r H') d):=
 have hx:eK A H ⟨H.B,gF H.l l0⟩:=fun i r hi hr=>by
  left
  show aA (gF H.l l0) i=some r;rw[uf _ _ _ (fun _ _ _=>trivial) h5];cases e':aA l0 i with|none=>exact hr|some x=>
   rcases yH h4 i x e' with h|h
   ·rcases Hr hA h with g|⟨s,g1,g2⟩
    ·rw[g]at hi;cases hi
    ·rw[g2]at e';cases e';rw[Br h1 i _ g1]at hr;cases hr;rfl
   ·rw[hr]at h;cases h
 nZ h0 (vz (K:=AP (fun r H'=>eK A H H'/\g r H') d) hc h1 h2 h3 h4 h5 ⟨hx,e ▸ k⟩)
variable {P:UP}{H:Hp}
def Rf{e:UJ}{d:Nat}{x:AV}{c:Prop}{css ys:UC}(k:q)(hd:H.get d=some (.aG e sz css):=by(simp(disch:=first|omega|assumption|fail) only[go_sem,tC,↓reduceIte,Int.reduceEq,Int.reduceLE,Int.reduceLT,Int.reduceNe,Int.reduceToNat,Nat.reduceMul,Nat.reduceAdd,Nat.reduceLeDiff,Nat.reduceSub,Nat.reduceEqDiff,Nat.reduceBEq,List.nodup_cons,List.nodup_nil,List.mem_cons,List.not_mem_nil,List.mem_nil_iff];first|rfl|exact⟨rfl,rfl⟩|exact⟨rfl,rfl,rfl⟩))(ht:ir P t=some e:=by first|(simp only[go_sem];done)|(simp only[go_sem];rfl))(Wb:dc P e=some sz:=by(simp only[go_sem];done))(X1:dR P e=some zs:=by first|(simp only[go_sem];done)|(simp only[go_sem];rfl))(WT:zs.length=sz:=by rfl)(h0:0<sz:=by decide)(hn:css.length=n:=by first|rfl|exact List.length_replicate|exact dD)(WY:tP H x=some (c,ys):=by rfl)(hc:c:=by trivial)(hg:Good sz ys:=by exact dD)(Yy:ys.length<=n:=by first|assumption|(simp only[List.length_map];omega)|exact dD)
  (he:K (.raw (.int .i64 (ys.length:Nat))) (H.put d (.aG e sz (dx css 0 ys)))=q:=by exact fq):pG P .copy [t,t] [.rs d n sz n,x] H K:=by
 subst hn;have hk:=he ▸ k;intro w vs ty cs hw hr;obtain⟨vd,vx,rfl⟩:∃vd vx,vs=[vd,vx]:=by
  have:=hr.1;match vs,this with
  |[vd,vx],_=>exact⟨vd,vx,rfl⟩
 have hu:=sK ht;obtain⟨i,z,hi,U5,WL,Yg,Yt⟩:=uc Wb X1 WT;obtain⟨A',cx,news,rfl,U7,VJ⟩:=Aa hw (hr.2 1 _ vx rfl rfl) WY hc hg;have WC:ax w (.rs d css.length sz css.length) vd:=hr.2 0 _ vd rfl rfl;have VN:ys.flatten.length=ys.length*sz:=gu fun y hy=>(hg y hy).1
 have Wr:news.length=ys.length*sz:=by rw[<-U7.1,VN]
 have Wf:cM ys.flatten=true:=by simp only[cM,List.all_eq_true];intro u X2;obtain⟨y,hy,YR⟩:=List.mem_flatten.1 X2;have:=(hg y hy).2;simp only[cM,List.all_eq_true]at this;exact this u YR
 have hf:(Builtin.firstCells i.size ys.length (.slice A' ys.length cx)).run P w.toWorld=.ok news.toArray w.toWorld:=by
  by_cases h0:ys.length=0
  ·have:news=[]:=by have:=Wr;rw[h0,Nat.zero_mul]at this;simpa using this
   subst this;rw[h0];cases A'<;>simp[Builtin.firstCells,loadCells,loadCellsFrom]
  ·obtain⟨ad,rfl,D'⟩:=VJ jB;exact run_firstCells_some (P:=P) w.toWorld i.size ys.length ad ys.length cx news (by rw[U5];exact Wr) D'
 rw[U5]at hf;have hok:=(hw.rows d _ hd).1;have U0:∀cs∈dx css 0 ys,cs.length=sz:=fun cs h=>by
  unfold dx at h;rcases List.mem_append.1 h with h|h
  ·rcases List.mem_append.1 h with h|h
   ·exact hok.2 _ (List.mem_of_mem_take h)
   ·exact(hg cs h).1
  ·exact hok.2 _ (List.mem_of_mem_drop h)
 have Wx:=gu hok.2;have Uz:=tV (css:=css) ys (Nat.zero_le _);have hmn:Nat.min ys.length css.length=ys.length:=Nat.min_eq_left Yy;generalize hN:css.length=N at WC;cases WC with
 |iJ _ _ _ A US=>
  have Yz:ys=[]:=List.length_eq_zero_iff.1 jB;subst Yz;refine⟨w,_,_,.int .i64 0,?_,hk,?_,.raw _,?_⟩
  ·have Yj:news=[]:=by simpa using Wr
   subst Yj;have hN':Nat.min ([]:UC).length 0=0:=rfl;have hf:(Builtin.firstCells sz 0 (.slice A' 0 cx)).run P w.toWorld=.ok #[] w.toWorld:=hf;cases A<;>simp[builtin,Builtin.copy_,run_underlying hu,Builtin.lenOf,sizeOf,typeInfo,hi,U5,hf,storeCells,goInt]
  ·refine{ hw with rows:=fun j r hj=>?_,di:=fun j q z hz=>?_ }
   ·rw[Hp.bk]at hj;split at hj
    ·rename_i e;subst e;exact hw.rows j r (by rw[hd];exact hj)
    ·exact hw.rows j r hj
   ·rw[Hp.bk];split
    ·rename_i e;subst e;obtain⟨r,g1,g2⟩:=hw.di j q z hz;rw[hd]at g1;cases g1;exact⟨_,rfl,g2⟩
    ·exact hw.di j q z hz
  ·exact{ Ext.refl w H with base:=rfl }
 |rs _ _ _ _ b t' cap US V6 Uq V4=>
  subst hN;obtain⟨_,z',U',UU⟩:=hw.rows d _ hd;have:z'=.at b t' sz:=by have U':w.nm d css.length=some z':=U';rw[US]at U';cases U';rfl
  subst this;obtain⟨_,cur,hh,⟨Vy,Uo⟩,WZ⟩:=UU;have Uo:css.flatten.length<=t':=Uo;have Xw:css.length<=cap:=by rw[Wx,<-V6]at Uo;exact Nat.le_of_mul_le_mul_right Uo h0
  have V3:0+ys.flatten.length<=t':=by rw[VN,Nat.zero_add,<-V6];exact Nat.mul_le_mul_right _ (Nat.le_trans Yy Xw)
  obtain⟨w',B',g1,g2,g3⟩:=sH (P:=P) (off:=0) (r':=.aG e sz (dx css 0 ys)) hw hd US U7 Wf V3 rfl rfl rfl rfl (by show css.length<=(dx css 0 ys).length;rw[Uz];omega) ⟨h0,U0⟩ (by show(dx css 0 ys).flatten.length<=t';rw[gu U0,Uz,<-V6];exact Nat.mul_le_mul_right _ (Nat.max_le.2 ⟨Xw,jB⟩)) (fun p u hp=>by
   have hp:(dx css 0 ys).flatten[p]?=some u:=hp;unfold dx at hp;rw[List.flatten_append,List.flatten_append]at hp;show if _ then _ else css.flatten[p]?=some u
   simp only[List.take_zero,List.flatten_nil,List.nil_append,Nat.zero_add]at hp;rcases Nat.lt_or_ge p (0+ys.flatten.length)with h'|h'
   ·rw[if_pos ⟨Nat.zero_le _,h'⟩];rw[List.getElem?_append_left jB]at hp;exact hp
   ·rw[jN];rw[List.getElem?_append_right jB]at hp;have e2:css.flatten=(css.take ys.length).flatten++(css.drop ys.length).flatten:=by rw[<-List.flatten_append,List.take_append_drop]
    have e3:(css.take ys.length).flatten.length=ys.flatten.length:=by rw[gu fun c hc=>hok.2 c (List.mem_of_mem_take hc),List.length_take,Nat.min_eq_left Yy,VN]
    rw[e2,List.getElem?_append_right jB,e3];exact hp)
  refine⟨w',_,_,.int .i64 ys.length,?_,hk,g1,.raw _,g2⟩;simp[builtin,Builtin.copy_,run_underlying hu,Builtin.lenOf,sizeOf,typeInfo,hi,U5,hmn,hf,B',goInt]
mutual
def AV.bS(f:Nat->Nat):AV->AV
 |.raw v=>.raw v
 |.any=>.any
 |.agg cs=>.agg (fh f cs)
 |.aQ cs=>.aQ (fh f cs)
 |.sl x sz css d=>.sl x sz css d
 |.ip cs=>.ip cs
 |.gd p v=>.gd p (v.bS f)
 |.dW g cs=>.dW g (fh f cs)
 |.pt i m k j=>.pt (f i) m k j
 |.rs i m sz n=>.rs (f i) m sz n
 |.rc i m sz n=>.rc (f i) m sz n
 |.rv i m sz o n=>.rv (f i) m sz o n
 |.mr i=>.mr (f i)
 |.bd g fs=>.bd g (fh f fs)
 |.iK t v=>.iK t (v.bS f)
 |.mv m v=>.mv m (v.bS f)
def fh(f:Nat->Nat):UE->UE
 |[]=>[]
 |a::l=>a.bS f::fh f l
end
theorem pq(f:Nat->Nat):∀(l:UE) (i:Nat),(fh f l)[i]?=(l[i]?).map (AV.bS f)
 |[],i=>by simp[fh]
 |a::l,0=>by simp[fh]
 |a::l,i+1=>by simp only[fh,List.getElem?_cons_succ];exact pq f l i
theorem mC(f:Nat->Nat):∀l:UE,(fh f l).length=l.length
 |[]=>rfl
 |a::l=>by simp only[fh,List.length_cons,mC f l]
theorem F2(f:Nat->Nat):∀l m:UE,fh f (l++m)=fh f l++fh f m
 |[],m=>rfl
 |a::l,m=>by simp only[List.cons_append,fh,F2 f l m]
def Row.bS(f:Nat->Nat):Row->Row
 |.var t cs=>.var t (fh f cs)
 |.aG e sz css=>.aG e sz (css.map (fh f))
 |.mp ks vs=>.mp ks (fh f vs)
def Row.jQ(f:Nat->Nat)(r:Row):(r.bS f).fR=r.fR:=by cases r<;>simp[Row.bS,Row.fR]
def Row.kn(f:Nat->Nat)(r:Row):(r.bS f).bB=r.bB:=by cases r<;>rfl
def Row.gU(f:Nat->Nat)(r:Row):(r.bS f).cells=fh f r.cells:=by
 cases r with
 |var t cs=>rfl
 |aG e sz css=>
  show(css.map (fh f)).flatten=fh f css.flatten;induction css with
  |nil=>rfl
  |cons c css ih=>simp only[List.map_cons,List.flatten_cons,ih,F2]
 |mp ks vs=>rfl
def Row.nP(f:Nat->Nat)(r:Row)(cur:UL):(r.bS f).obj cur=r.obj cur:=by cases r<;>rfl
def Row.nR(f:Nat->Nat)(r:Row)(n t:Nat):(r.bS f).fit n t=r.fit n t:=by
 have h:=r.gU f;cases r with
 |var ty cs=> show(n=t/\(Row.var ty (fh f cs)).cells.length<=t)=_;have h:(Row.var ty (fh f cs)).cells=fh f (Row.var ty cs).cells:=h;rw[h,mC];rfl
 |aG e sz css=> show(n=t/\(Row.aG e sz (css.map (fh f))).cells.length<=t)=_;have h:(Row.aG e sz (css.map (fh f))).cells=fh f (Row.aG e sz css).cells:=h;rw[h,mC];rfl
 |mp ks vs=>show(n=(fh f vs).length)=_;rw[mC];rfl
variable{f:Nat->Nat}{r:Row}
def Row.tL(h:r.ok):(r.bS f).ok:=by
 cases r with
 |var t cs=>trivial
 |aG e sz css=> refine⟨h.1,fun cs Vy=>?_⟩;obtain⟨c,hc,rfl⟩:=List.mem_map.1 Vy;rw[mC];exact h.2 c hc
 |mp ks vs=>show ks.length=(fh f vs).length;rw[mC];exact h
def lm(f:Nat->Nat)(l:UD):UD:=l.map fun x=>(f x.1,x.2.bS f)
def yS(f:Nat->Nat)(l:UD):ids (lm f l)=(ids l).map f:=by unfold ids lm;simp[List.map_map,Function.comp_def]
theorem zj{f g:Nat->Nat}(hf:∀i,g (f i)=i):∀(l:UD) (i:Nat),aA (lm f l) (f i)=(aA l i).map (Row.bS f)
 |[],i=>rfl
 |(j,r)::l,i=>by
  show(if f i=f j then some (r.bS f)else aA (lm f l) (f i))=((if i=j then some r else aA l i):Option Row).map _;by_cases h:i=j
  ·subst h;rw[if_pos rfl,if_pos rfl];rfl
  ·rw[if_neg h,if_neg (fun e=>h (by rw[<-hf i,<-hf j,e])),zj hf l i]
variable{l:UD}{j:Nat}
def xH{g:Nat->Nat}(hf:∀i,g (f i)=i)(h:aA (lm f l) j=some r):∃i r0,j=f i/\r=r0.bS f/\aA l i=some r0:=by
 induction l with
 |nil=>cases h
 |cons x l ih=>
  obtain⟨k,s⟩:=x;have h:(if j=f k then some (s.bS f)else aA (lm f l) j)=some r:=h;by_cases e:j=f k
  ·rw[if_pos e]at h;cases h;exact⟨k,s,e,rfl,by simp[aA]⟩
  ·rw[if_neg e]at h;obtain⟨i,r0,h1,h2,h3⟩:=ih h;refine⟨i,r0,h1,h2,?_⟩;show(if i=k then some s else aA l i)=_;rw[if_neg (fun e'=>e (by rw[h1,e']))];exact h3
@[reducible] def NW.pull(f:Nat->Nat)(w:NW):NW:={ w with nm:=fun i m=>w.nm (f i) m }
@[reducible] def NW.push(f g:Nat->Nat)(w:NW):NW:={ w with nm:=fun j m=>if f (g j)=j then w.nm (g j) m else none }
def NW.oL{g:Nat->Nat}(hf:∀i,g (f i)=i)(w:NW):(w.push f g).pull f=w:=by
 obtain⟨W,O,nm⟩:=w;show NW.mk W O _=NW.mk W O nm;congr 1
 funext i m
 show(if f (g (f i))=f i then nm (g (f i)) m else none)=nm i m;rw[hf,if_pos rfl]
def JQ{a:AV}{v:Value}{w0:NW}(h:ax w0 a v):∀w:NW,w0=w.pull f->ax w (a.bS f) v:=by
 induction h with
 |raw v=>intro w e;simp only[AV.bS];exact .raw v
 |any v=>intro w e;simp only[AV.bS];exact .any v
 |agg cs vs hl _ ih=>
  intro w e;simp only[AV.bS];refine .agg _ vs (by rw[mC];exact hl) fun i a v h1 h2=>?_
  rw[pq]at h1;cases hc:cs[i]? with
  |none=>rw[hc]at h1;cases h1
  |some b=>rw[hc]at h1;cases h1;exact ih i b v hc h2 w e
 |aQ cs vs hl _ ih=>
  intro w e;simp only[AV.bS];refine .aQ _ vs (by rw[mC];exact hl) fun i a v h1 h2=>?_
  rw[pq]at h1;cases hc:cs[i]? with
  |none=>rw[hc]at h1;cases h1
  |some b=>rw[hc]at h1;cases h1;exact ih i b v hc h2 w e
 |gG x sz A c hx=>intro w e;simp only[AV.bS];exact .gG x sz A c hx
 |sl x sz css a c vs hn hc hx Uu hb hH D' Vo _=>intro w e;subst e;simp only[AV.bS];exact .sl x sz css a c vs hn hc hx Uu hb hH D' Vo
 |ip cs a vs hb hH D' Vo _=>intro w e;subst e;simp only[AV.bS];exact .ip cs a vs hb hH D' Vo
 |gd p a v _ hu ih=>intro w e;simp only[AV.bS];exact .gd p _ v (fun hp=>ih hp w e) hu
 |dW g cs vs hl _ ih=>
  intro w e;simp only[AV.bS];refine .dW g _ vs (by rw[mC];exact hl) fun i a v h1 h2=>?_
  rw[pq]at h1;cases hc:cs[i]? with
  |none=>rw[hc]at h1;cases h1
  |some b=>rw[hc]at h1;cases h1;exact ih i b v hc h2 w e
 |pt i m k j b t s h=>intro w e;subst e;simp only[AV.bS];exact .pt (f i) m k j b t s h
 |iJ i m sz A h=>intro w e;subst e;simp only[AV.bS];exact .iJ (f i) m sz A h
 |rs i m sz n b t c h hc hn hs=>intro w e;subst e;simp only[AV.bS];exact .rs (f i) m sz n b t c h hc hn hs
 |rc i m sz n b t h hc hn hs=>intro w e;subst e;simp only[AV.bS];exact .rc (f i) m sz n b t h hc hn hs
 |jn i m sz o c A=>intro w e;simp only[AV.bS];exact .jn (f i) m sz o c A
 |rv i m sz o n b t c h hn=>intro w e;subst e;simp only[AV.bS];exact .rv (f i) m sz o n b t c h hn
 |mr i b t s h=>intro w e;subst e;simp only[AV.bS];exact .mr (f i) b t s h
 |bd g fs vs hl _ ih=>
  intro w e;simp only[AV.bS];refine .bd g _ vs (by rw[mC];exact hl) fun i a v h1 h2=>?_
  rw[pq]at h1;cases hc:fs[i]? with
  |none=>rw[hc]at h1;cases h1
  |some b=>rw[hc]at h1;cases h1;exact ih i b v hc h2 w e
 |iK t a v _ ih=>intro w e;simp only[AV.bS];exact .iK t _ v (ih w e)
 |mv m a v _ ih=>intro w e;simp only[AV.bS];exact .mv m _ v (ih w e)
mutual
theorem wj{f:Nat->Nat}{w:NW}:∀(a:AV) (v:Value),ax w (a.bS f) v->ax (w.pull f) a v
 |.raw x,v,h=>by simp only[AV.bS]at h;cases h;exact .raw _
 |.any,v,h=>.any v
 |.agg cs,v,h=>by
  simp only[AV.bS]at h;cases h with
  |agg _ vs hl hh=>exact .agg cs vs (by rw[mC]at hl;exact hl) fun i a u h1 h2=>wy cs i a h1 u (hh i _ u (by rw[pq,h1];rfl) h2)
 |.aQ cs,v,h=>by
  simp only[AV.bS]at h;cases h with
  |aQ _ vs hl hh=>exact .aQ cs vs (by rw[mC]at hl;exact hl) fun i a u h1 h2=>wy cs i a h1 u (hh i _ u (by rw[pq,h1];rfl) h2)
 |.sl x sz css d,v,h=>by
  simp only[AV.bS]at h;cases h with
  |gG _ _ A c hx=>exact .gG x sz A c hx
  |sl _ _ _ a c vs hn hc hx Uu hb hH D' Vo=>exact .sl x sz css a c vs hn hc hx Uu hb hH D' Vo
 |.ip cs,v,h=>by
  simp only[AV.bS]at h;cases h with
  |ip _ a vs hb hH D' Vo=>exact .ip cs a vs hb hH D' Vo
 |.gd p x,v,h=>by
  simp only[AV.bS]at h;cases h with
  |gd _ _ _ h1 hu=>exact .gd p x v (fun hp=>wj x v (h1 hp)) hu
 |.dW g cs,v,h=>by
  simp only[AV.bS]at h;cases h with
  |dW _ _ vs hl hh=>exact .dW g cs vs (by rw[mC]at hl;exact hl) fun i a u h1 h2=>wy cs i a h1 u (hh i _ u (by rw[pq,h1];rfl) h2)
 |.pt i m k j,v,h=>by
  simp only[AV.bS]at h;cases h with
  |pt _ _ _ _ b t s hn=>exact .pt i m k j b t s hn
 |.rs i m sz n,v,h=>by
  simp only[AV.bS]at h;cases h with
  |iJ _ _ _ A hn=>exact .iJ i m sz A hn
  |rs _ _ _ _ b t c hn h1 h2 h3=>exact .rs i m sz n b t c hn h1 h2 h3
 |.rc i m sz n,v,h=>by
  simp only[AV.bS]at h;cases h with
  |rc _ _ _ _ b t hn h1 h2 h3=>exact .rc i m sz n b t hn h1 h2 h3
 |.rv i m sz o n,v,h=>by
  simp only[AV.bS]at h;cases h with
  |jn _ _ _ _ c A=>exact .jn i m sz o c A
  |rv _ _ _ _ _ b t c hn h1=>exact .rv i m sz o n b t c hn h1
 |.mr i,v,h=>by
  simp only[AV.bS]at h;cases h with
  |mr _ b t s hn=>exact .mr i b t s hn
 |.bd g fs,v,h=>by
  simp only[AV.bS]at h;cases h with
  |bd _ _ vs hl hh=>exact .bd g fs vs (by rw[mC]at hl;exact hl) fun i a u h1 h2=>wy fs i a h1 u (hh i _ u (by rw[pq,h1];rfl) h2)
 |.iK t x,v,h=>by
  simp only[AV.bS]at h;cases h with
  |iK _ _ u h1=>exact .iK t x u (wj x u h1)
 |.mv m x,v,h=>by
  simp only[AV.bS]at h;cases h with
  |mv _ _ u h1=>exact .mv m x u (wj x u h1)
theorem wy{f:Nat->Nat}{w:NW}:∀(l:UE) (i:Nat) (a:AV),l[i]?=some a->∀v,ax w (a.bS f) v->ax (w.pull f) a v
 |[],i,a,h,v,hv=>by simp at h
 |x::l,0,a,h,v,hv=>by
  have e:x=a:=by simpa using h
  rw[<-e]at hv ⊢;exact wj x v hv
 |x::l,i+1,a,h,v,hv=>wy l i a (by simpa using h) v hv
end
variable{w:NW}
def O4{z:Rz}(h:gw (w.pull f) r z):gw w (r.bS f) z:=by
 cases z with
 |nil=> obtain⟨e,sz,rfl⟩:=h;exact⟨e,sz,rfl⟩
 |«at» b t s=>
  obtain⟨h1,cur,h2,h3,h4⟩:=h;refine⟨h1.trans (r.kn f).symm,cur,by rw[Row.nP];exact h2,by rw[Row.nR];exact h3,fun i a v h5 h6=>?_⟩;rw[Row.gU,pq]at h5;cases hc:r.cells[i]? with
  |none=>rw[hc]at h5;cases h5
  |some c=>rw[hc]at h5;cases h5;exact JQ (h4 i c v hc h6) w rfl
def K6{z:Rz}(h:gw w (r.bS f) z):gw (w.pull f) r z:=by
 cases z with
 |nil=>
  obtain⟨e,sz,h⟩:=h;cases r with
  |var t cs=>cases h
  |aG e' sz' css=>
   have h:Row.aG e' sz' (css.map (fh f))=Row.aG e sz []:=h;cases css with
   |nil=>exact⟨e',sz',rfl⟩
   |cons c css=>cases h
  |mp ks vs=>cases h
 |«at» b t s=> obtain⟨h1,cur,h2,h3,h4⟩:=h;rw[Row.nP]at h2;rw[Row.nR]at h3;refine⟨h1.trans (r.kn f),cur,h2,h3,fun i a v h5 h6=>?_⟩;exact wj a v (h4 i (a.bS f) v (by rw[Row.gU,pq,h5];rfl) h6)
theorem ab.bS{P:UP}{fn:FuncId}{args:UE}{l:UD}{R:AV->List UR->Prop}{f g:Nat->Nat}(hf:∀i,g (f i)=i)(hc:ab P fn args l R) :
  ab P fn (fh f args) (lm f l) fun r l'=>∃r0 l0,r=AV.bS f r0/\l'=lm f l0/\R r0 l0:=fun w vs hw hv=>by
 have inj:∀{i j},f i=f j->i=j:=fun{i j} e=>by rw[<-hf i,<-hf j,e]
 have hW:aJ (w.pull f) (entry l):={
  cd:=hw.cd
  rows:=fun i r hi=>by
   have hi:aA l i=some r:=hi;obtain⟨h1,z,h2,h3⟩:=hw.rows (f i) (r.bS f) (by show aA (lm f l) (f i)=_;rw[zj hf,hi];rfl);refine⟨?_,z,by rw[Row.jQ]at h2;exact h2,K6 h3⟩;cases r with
   |var t cs=>trivial
   |aG e sz css=>exact⟨h1.1,fun cs Vy=>by have:=h1.2 (fh f cs) (List.mem_map_of_mem Vy);rw[mC]at this;exact this⟩
   |mp ks vs=>have h1:ks.length=(fh f vs).length:=h1;rw[mC]at h1;exact h1
  di:=fun i m z h=>by obtain⟨r,h1,h2⟩:=hw.di (f i) m z h;obtain⟨i',r0,e1,rfl,e3⟩:=xH hf h1;cases inj e1;exact⟨r0,e3,by rw[Row.jQ]at h2;exact h2⟩
  inj:=fun i m j n b t s t' s' h1 h2=>inj (hw.inj _ _ _ _ _ _ _ _ _ h1 h2)
  own:=fun i m b t s h=>hw.own _ _ _ _ _ h
  fin:=hw.fin }
 have hV:bs (w.pull f) args vs:=⟨by have:=hv.1;rw[mC]at this;exact this,fun i a v h1 h2=>wj a v (hv.2 i _ v (by rw[pq,h1];rfl) h2)⟩;refine(hc (w.pull f) vs hW hV).mono ?_;rintro e W ⟨v,r,H',w',rfl,rfl,hR,h1,h2,h3⟩;have hp:=NW.oL hf w';refine⟨v,r.bS f,⟨H'.B.map f,lm f H'.l⟩,w'.push f g,rfl,rfl,⟨r,H'.l,rfl,rfl,hR⟩,?_,?_,?_⟩
 ·exact{
   cd:=h1.cd
   rows:=fun j r hj=>by obtain⟨i,r0,rfl,rfl,e3⟩:=xH hf hj;obtain⟨k1,z,k2,k3⟩:=h1.rows i r0 e3;refine⟨Row.tL k1,z,?_,O4 (w:=w'.push f g) (by rw[hp];exact k3)⟩;show(if f (g (f i))=f i then w'.nm (g (f i)) (r0.bS f).fR else none)=some z;rw[hf,if_pos rfl,Row.jQ];exact k2
   di:=fun j m z h=>by
    have h:(if f (g j)=j then w'.nm (g j) m else none)=some z:=h;split at h
    ·rename_i e;obtain⟨r0,k1,k2⟩:=h1.di _ _ _ h;refine⟨r0.bS f,?_,by rw[Row.jQ];exact k2⟩;show aA (lm f H'.l) j=_;rw[<-e,zj hf];have k1:aA H'.l (g j)=some r0:=k1;rw[k1];rfl
    ·cases h
   inj:=fun i m j n b t s t' s' k1 k2=>by
    have k1:(if f (g i)=i then w'.nm (g i) m else none)=some _:=k1;have k2:(if f (g j)=j then w'.nm (g j) n else none)=some _:=k2;split at k1
    ·rename_i e1;split at k2
     ·rename_i e2;have:=h1.inj _ _ _ _ _ _ _ _ _ k1 k2;rw[<-e1,<-e2,this]
     ·cases k2
    ·cases k1
   own:=fun i m b t s k=>by
    have k:(if f (g i)=i then w'.nm (g i) m else none)=some _:=k;split at k
    ·exact h1.own _ _ _ _ _ k
    ·cases k
   fin:=h1.fin }
 ·exact JQ (w0:=w') h2 (w'.push f g) hp.symm
 ·exact{
   size:=h3.size
   free:=h3.free
   names:=fun j m z hj hz=>by have hj:(ids (lm f l)).contains j=true:=hj;rw[yS]at hj;obtain⟨i,hi,rfl⟩:=List.mem_map.1 (List.contains_iff_mem.1 hj);have:=h3.names i m z (List.contains_iff_mem.2 hi) hz;show(if f (g (f i))=f i then w'.nm (g (f i)) m else none)=some z;rw[hf,if_pos rfl];exact this
   os:=h3.os,tape:=h3.tape,output:=h3.output
   rest:=fun b hb hO Ur=>by
    obtain⟨k1,k2,k3⟩:=h3.rest b hb hO fun i m t s=>Ur (f i) m t s
    refine⟨k1,k2,fun j m t s h=>?_⟩;have h:(if f (g j)=j then w'.nm (g j) m else none)=some _:=h;split at h
    ·exact k3 _ _ _ _ h
    ·cases h
   base:=by show H'.B.map f=ids (lm f l);rw[yS];have:H'.B=ids l:=h3.base;rw[this] }
section
variable {P:UP}{f:FuncId}{args fs:UE}{H:Hp}{K:UB}{q:Prop}
def bm{l l0:UD}{r0:AV}(hc:ab P f (fs++args) l fun r l'=>r=r0/\l'=l0)(k:q)(h1:rY l H:=by exact dD)(h0:aS P f=true:=by exact dD)(h2:aY (fun i=>(ids l).contains i) (fs++args)=true:=by exact dD)(h3:rQ (fun i=>(ids l).contains i) l:=by exact dD)
 (h4:oo (ids l) H l0:=by exact dD) (h5:(ids l0).Nodup:=by exact dD) (e:K r0 ⟨H.B,gF H.l l0⟩=q:=by exact fq):fg P (.bd f fs) args H K:=.inl ⟨h0,by have:=vz hc h1 h2 h3 h4 h5 (e ▸ k:K r0 ⟨H.B,gF H.l l0⟩);simpa using this⟩
end
variable {P:UP}{H:Hp}
def B8(w:NW)(v:Value)(k:Nat)(ys:UC):Prop:=∃A c news,v=.slice A k c/\ys.length<=k/\cf w ys.flatten news/\(0<ys.length->∃ad,A=some ad/\∀(j:Nat) u,news[j]?=some u->w.cell? (ad.add j)=some u)
variable{ys:UC}{sz:Nat}
def DY{H:Hp}{x:AV}{c:Prop}(h:tP H x=some (c,ys))(hc:c)(hg:Good sz ys):∀(w:NW) vx,aJ w H->ax w x vx->B8 w vx ys.length ys:=fun w vx hw hx=>by obtain⟨A,c',news,e,h1,h2⟩:=Aa hw hx h hc hg;exact⟨A,c',news,e,Nat.le_refl _,h1,h2⟩
variable{d m o k n:Nat}{css:UC}
def Hq{e:UJ}(hd:H.get d=some (.aG e sz css))(hm:m=css.length)(ho:o+k<=m)(hn:n<=k):∀(w:NW) vx,aJ w H->ax w (.rv d m sz o k) vx->B8 w vx k ((css.drop o).take n):=fun w vx hw hx=>by
 subst hm;obtain⟨hok,_⟩:=hw.rows d _ hd;have UX:=hok.2;have I':((css.drop o).take n).length=n:=by simp;omega
 cases hx with
 |jn _ _ _ _ c A=> have e0:n=0:=jB;subst e0;exact⟨A,c,[],rfl,jE,⟨rfl,fun i a v h=>by simp at h⟩,fun h=>by simp at h⟩
 |rv _ _ _ _ _ b t c US Uq=>
  by_cases h0:n=0
  ·subst h0;exact⟨_,c,[],rfl,jE,⟨rfl,fun i a v h=>by simp at h⟩,fun h=>by simp at h⟩
  have:=zu (w:=w) (sz:=sz) (c:=c) (ys:=(css.drop o).take n) (ad:=⟨b,o*sz,none⟩) (fun y hy=>UX y (List.mem_of_mem_drop (List.mem_of_mem_take hy))) fun i' j Vi hj=>by obtain⟨_,_,_,v,h1,h2⟩:=tz hw hd US (k:=o+i') (j:=j) jB hj;refine⟨v,by rw[jq,<-Nat.add_assoc,<-Nat.add_mul];exact h1,fun u hu=>h2 u ?_⟩;rw[<-hu];simp[List.getElem?_take,show i'<n from jB]
  obtain⟨A,c',news,e,h1,h2⟩:=this;cases e;exact⟨_,c,news,rfl,jB,h1,h2⟩
def Dr(hc:∀c∈css,c.length=sz)(hy:∀c∈ys,c.length=sz)(ho:o+ys.length<=css.length){p:Nat}{u:AV}(hp:(dx css o ys).flatten[p]?=some u):if o*sz<=p/\p<o*sz+ys.flatten.length then ys.flatten[p-o*sz]?=some u else css.flatten[p]?=some u:=by
 have h1:(css.take o).flatten.length=o*sz:=by rw[gu fun c h=>hc c (List.mem_of_mem_take h),List.length_take,Nat.min_eq_left jB]
 have e2:css.flatten=(css.take o).flatten++((css.drop o).take ys.length).flatten++(css.drop (o+ys.length)).flatten:=by
  rw[<-List.flatten_append,<-List.flatten_append];congr 1
  rw[List.append_assoc,<-List.drop_drop,List.take_append_drop,List.take_append_drop]
 have h3:((css.drop o).take ys.length).flatten.length=ys.flatten.length:=by rw[gu fun c h=>hc c (List.mem_of_mem_drop (List.mem_of_mem_take h)),gu hy,List.length_take,List.length_drop,Nat.min_eq_left jB]
 unfold dx at hp;rw[List.flatten_append,List.flatten_append]at hp;generalize (css.take o).flatten=T at*;generalize ((css.drop o).take ys.length).flatten=M at*;generalize (css.drop (o+ys.length)).flatten=D at*;generalize ys.flatten=Y at*;rcases Nat.lt_or_ge p T.length with h|h
 ·rw[jN,e2,List.append_assoc,List.getElem?_append_left h];rw[List.append_assoc,List.getElem?_append_left h]at hp;exact hp
 ·rw[List.append_assoc,List.getElem?_append_right h]at hp;rcases Nat.lt_or_ge (p-T.length) Y.length with h'|h'
  ·rw[List.getElem?_append_left h']at hp;rw[if_pos ⟨jB,jB⟩,<-hp,h1]
  ·rw[List.getElem?_append_right h']at hp;rw[jN,e2,List.append_assoc,List.getElem?_append_right h,List.getElem?_append_right jB,<-hp,h3]
variable{t:UJ}{zs:UM}{K:UB}
def yx{e:UJ}{x:AV}(hd:H.get d=some (.aG e sz css))(hm:m=css.length)(ht:ir P t=some e)(Wb:dc P e=some sz)(X1:dR P e=some zs)(WT:zs.length=sz)(h0:0<sz)(Zp:o+n<=m)(Yk:0<n)
  (WY:∀(w:NW) vx,aJ w H->ax w x vx->B8 w vx k ys) (hg:Good sz ys) (YA:Nat.min k n=ys.length)
  (hk:K (.raw (.int .i64 (ys.length:Nat))) (H.put d (.aG e sz (dx css o ys)))):pG P .copy [t,t] [.rv d m sz o n,x] H K:=by
 subst hm;intro w vs ty cs hw hr;obtain⟨vd,vx,rfl⟩:∃vd vx,vs=[vd,vx]:=by
  have:=hr.1;match vs,this with
  |[vd,vx],_=>exact⟨vd,vx,rfl⟩
 have hu:=sK ht;obtain⟨i,z,hi,U5,WL,Yg,Yt⟩:=uc Wb X1 WT;obtain⟨A',cx,news,rfl,hyk,U7,VJ⟩:=WY w vx hw (hr.2 1 _ vx rfl rfl);have WC:ax w (.rv d css.length sz o n) vd:=hr.2 0 _ vd rfl rfl;have hyn:ys.length<=n:=by rw[<-YA];exact Nat.min_le_right _ _
 have VN:ys.flatten.length=ys.length*sz:=gu fun y hy=>(hg y hy).1
 have Wr:news.length=ys.length*sz:=by rw[<-U7.1,VN]
 have Wf:cM ys.flatten=true:=by simp only[cM,List.all_eq_true];intro u X2;obtain⟨y,hy,YR⟩:=List.mem_flatten.1 X2;have:=(hg y hy).2;simp only[cM,List.all_eq_true]at this;exact this u YR
 have hf:(Builtin.firstCells i.size ys.length (.slice A' k cx)).run P w.toWorld=.ok news.toArray w.toWorld:=by
  by_cases h0:ys.length=0
  ·have:news=[]:=by have:=Wr;rw[h0,Nat.zero_mul]at this;simpa using this
   subst this;rw[h0];cases A'<;>simp[Builtin.firstCells,loadCells,loadCellsFrom]
  ·obtain⟨ad,rfl,D'⟩:=VJ jB;exact run_firstCells_some (P:=P) w.toWorld i.size ys.length ad k cx news (by rw[U5];exact Wr) D'
 rw[U5]at hf;have hok:=(hw.rows d _ hd).1;have U0:∀cs∈dx css o ys,cs.length=sz:=fun cs h=>by
  unfold dx at h;rcases List.mem_append.1 h with h|h
  ·rcases List.mem_append.1 h with h|h
   ·exact hok.2 _ (List.mem_of_mem_take h)
   ·exact(hg cs h).1
  ·exact hok.2 _ (List.mem_of_mem_drop h)
 have Wx:=gu hok.2;have Uz:(dx css o ys).length=css.length:=by rw[tV ys jB,Nat.max_eq_left jB]
 cases WC with
 |jn _ _ _ _ _ A=>omega
 |rv _ _ _ _ _ b t' cap US Uq=>
  obtain⟨_,z',U',UU⟩:=hw.rows d _ hd;have:z'=.at b t' sz:=by have U':w.nm d css.length=some z':=U';rw[US]at U';cases U';rfl
  subst this;obtain⟨_,cur,hh,⟨Vy,Uo⟩,WZ⟩:=UU;have Uo:css.flatten.length<=t':=Uo;have hmul:(o+ys.length)*sz<=css.length*sz:=Nat.mul_le_mul_right _ jB;rw[Nat.add_mul]at hmul;have V3:o*sz+ys.flatten.length<=t':=jB;obtain⟨w',B',g1,g2,g3⟩:=sH (P:=P) (off:=o*sz) (r':=.aG e sz (dx css o ys)) hw hd US U7 Wf V3 rfl rfl rfl rfl (by show css.length<=(dx css o ys).length;rw[Uz];exact Nat.le_refl _) ⟨h0,U0⟩ (by show(dx css o ys).flatten.length<=t';rw[gu U0,Uz];omega) (fun p u hp=>Dr hok.2 (fun c hc=>(hg c hc).1) jB hp);refine⟨w',_,_,.int .i64 ys.length,?_,hk,g1,.raw _,g2⟩;have haq:Nat.min n k=ys.length:=(Nat.min_comm n k).trans YA;simp[builtin,Builtin.copy_,run_underlying hu,Builtin.lenOf,sizeOf,typeInfo,hi,U5,YA,haq,hf,B',goInt]
variable{f:FuncId}
def RJ  {fn : Func} {tR e:TypeId}   {dd : List AV} {K : AV → Hp → Prop} (hf : P.funcs[f]? = some fn) (Xd : (fn.name == "runtime.NumGoroutine") = false) (hbn : fn.body.isNone = true) (hn : Extern.findNext fn = none)
  (he:Extern.find fn=some (Extern.SlicesOverlaps.overlaps #[t,t] #[tR])) (ht:ir P t=some e) (Uu:dc P e=some sz) (hd:H.get d=some (.aG e sz css)) (hm:m=css.length) (Yk:0<n) (Zp:o+n<=m) (hy:0<ys.length) (hk:K (.raw (.bool false)) H) :
  ua P f [.sl true sz ys dd,.rv d m sz o n] H K:=by
 subst hm;have hu:=sK ht;intro w vs hw hr;obtain⟨vd,vx,rfl⟩:∃vd vx,vs=#[vd,vx]:=by
  have:=hr.1;match vs,this with
  |⟨[vd,vx]⟩,_=>exact⟨vd,vx,rfl⟩
 have h2:=hr.2 1 _ vx rfl rfl;have h1:=hr.2 0 _ vd rfl rfl;cases h2 with
 |jn _ _ _ _ _ A=>omega
 |rv _ _ _ _ _ b t' cap US Uq=>
  obtain⟨hok,z',U',UU⟩:=hw.rows d _ hd;have:z'=.at b t' sz:=by have U':w.nm d css.length=some z':=U';rw[US]at U';cases U';rfl
  subst this;obtain⟨_,cur,hh,⟨Vy,Uo⟩,WZ⟩:=UU;have Uo:css.flatten.length<=t':=Uo;have hh:w.heap[b]?=some (.cells cur e (0,0)):=hh;rw[gu hok.2]at Uo;have VU:0<css.length*sz:=Nat.mul_pos jB hok.1;have hO:w.O b:=hw.own _ _ _ _ _ US;cases h1 with
  |gG=>simp at hy
  |sl _ _ _ ad c' vs' _ _ hx _ hbl hH _ _=>
   obtain⟨_,cu,el,Xs⟩:=hx rfl;have B':=Lib.run_overlaps_apart (P:=P) w.toWorld t tR e hu sz (fun _=>lL Uu) ad ⟨b,o*sz,none⟩ ys.length c' n cap (fun e=>hH (by rw[e];exact hO)) el e cu.size cur.size
    (by simp[World.shape?,Xs]) (by simp[World.shape?,hh]) jB (by simp[World.frozen?,Xs]) (by simp[World.frozen?,Xs])
   refine⟨_,w,_,H,?_,hk,hw,.raw _,Ext.refl w H⟩;rw[run_callFunc_extern hf Xd hbn hn he,B'];rfl
def Hm(z:UL)(m:Nat):(Builtin.zeroCells z m).toList=(List.replicate m z.toList).flatten:=by
 induction m with
 |zero=>simp[Builtin.zeroCells]
 |succ m ih=>
  rw[List.replicate_succ',List.flatten_append,<-ih];apply List.ext_getElem
  ·simp[Builtin.zeroCells,Nat.add_mul]
  ·intro i h1 h2;simp only[Builtin.zeroCells,Array.toList_map,Array.toList_range,List.getElem_map,List.getElem_range]at h1 ⊢;rcases Nat.lt_or_ge i (m*z.size)with h|h
   ·rw[List.getElem_append_left (by simpa using h)];simp
   ·rw[List.getElem_append_right (by simpa using h)];simp only[List.length_map,List.length_range,Array.size_range]at*;simp only[List.length_map,List.length_range,Nat.add_mul,Nat.one_mul]at h1;have hi:i % z.size=i-m*z.size:=by
     have:i=(i-m*z.size)+m*z.size:=jB;rw[this,Nat.add_mul_mod_self_right,Nat.mod_eq_of_lt jB];omega
    rw[hi];simp[getElem!_pos,show i-m*z.size<z.size from jB]
variable{i:Nat}
def LM{t' e:UJ}{q:Int}(ht:ir P t=some e)(X2:∃d,P.underlying t'=some (.int d))(Uu:dc P e=some sz)(hz:dR P e=some zs)(WT:zs.length=sz)(h0:0<sz)
  (hd:H.get d=some (.aG e sz css)) (hm:m=css.length) (hi:i<=m) (hc:m<i+k) (VK:room (j4 P e) (i+k)) (hq:q=k) (hj:H.get j=none) (hn:n=i+k)
  (hk:K (.rs j n sz n) (H.put j (.aG e sz (css.take i++List.replicate k (zs.map .raw))))):qn P t t' (.rc d m sz i) (.raw (.int .i64 q)) H K:=by
 subst hm hq hn;have hu:=sK ht;intro w va vx ty hw WC ZL;have:=db ZL;subst this;obtain⟨dk,Y3⟩:=X2;obtain⟨inf,z,Vi,U5,WL,Yg,Yt⟩:=uc Uu hz WT;obtain⟨WO,X6⟩:=VK;rw[Yt]at WO;have XI:z.cells.toList=zs:=by unfold dR at hz;rw[Vi]at hz;simp only[Option.bind_some,WL,Option.map_some,Option.some.injEq]at hz;exact hz
 have WD:i+k<=grownCap w.toWorld (i+k) css.length e:=by unfold grownCap Question.cut;simp
 have hok:=(hw.rows d _ hd).1;have U0:∀cs∈css.take i++List.replicate k (zs.map AV.raw),cs.length=sz:=fun cs h=>by
  rcases List.mem_append.1 h with h|h
  ·exact hok.2 cs (List.mem_of_mem_take h)
  ·rw[List.eq_of_mem_replicate h];simpa using WT
 have Uz:(css.take i++List.replicate k (zs.map AV.raw)).length=i+k:=by simp;omega
 have Wx:=gu hok.2;have U7:cf w (List.replicate k (zs.map AV.raw)).flatten (List.replicate k zs).flatten:=by
  have:(List.replicate k (zs.map AV.raw)).flatten=((List.replicate k zs).flatten).map .raw:=by simp[List.map_flatten]
  rw[this];exact yf _
 generalize haR:css.length=L at WC hc WD Wx hi;cases WC with
 |rc _ _ _ _ b t' US V6 Uq V4=>
  obtain⟨_,z',U',UU⟩:=hw.rows d _ hd;have:z'=.at b t' sz:=by have U':w.nm d css.length=some z':=U';rw[haR,US]at U';cases U';rfl
  subst this;obtain⟨_,cur,hh,⟨Vy,Uo⟩,WZ⟩:=UU;have hh:w.heap[b]?=some (.cells cur e (0,0)):=hh;have Uo:css.flatten.length<=t':=Uo;have WZ:∀(x:Nat) a v,css.flatten[x]?=some a->cur[x]?=some v->ax w a v:=WZ;have hmul:=Nat.mul_le_mul_right sz hi;have Wn:(css.take i).flatten=css.flatten.take (i*sz):=by
   have e1:css.flatten=(css.take i).flatten++(css.drop i).flatten:=by rw[<-List.flatten_append,List.take_append_drop]
   have e2:(css.take i).flatten.length=i*sz:=by rw[gu fun c h=>hok.2 c (List.mem_of_mem_take h),List.length_take,Nat.min_eq_left jB]
   have e3:=congrArg (List.take (i*sz)) e1;rw[List.take_append_of_le_length jB,List.take_of_length_le (l:=(css.take i).flatten) jB]at e3;exact e3.symm
  have hold:cf w (css.take i).flatten (cur.toList.take (i*sz)):=by
   rw[Wn];refine⟨by simp only[List.length_take,Array.length_toList];omega,fun x a v ha hv=>?_⟩;rw[List.getElem?_take]at ha hv;split at ha
   ·rename_i h;rw[if_pos h]at hv;exact WZ x a v ha (by simpa using hv)
   ·cases ha
  have UX:=hold.append U7;rw[<-List.flatten_append]at UX;have Zr:∀q,w.nm j q=none:=fun q=>by
   cases e:w.nm j q with
   |none=>rfl
   |some z=>obtain⟨r,h1,_⟩:=hw.di j q z e;rw[hj]at h1;cases h1
  obtain⟨w',e1,g1,g2,g3⟩:=tA (i:=j) (e:=e) (cap:=grownCap w.toWorld (i+k) L e) (css:=css.take i++List.replicate k (zs.map AV.raw)) (rest:=Builtin.zeroCells z.cells (grownCap w.toWorld (i+k) L e-(i+k))) hw h0 U0 UX (by rw[Uz];exact WD) (by rw[Uz];simp[Builtin.zeroCells,Yg]) (Zr _) (fun r hr=>by rw[hj]at hr;cases hr);rw[Uz]at g3;refine⟨w',_,_,_,?_,hk,g1,g3,g2⟩;rw[e1];have XB:(Builtin.firstCells inf.size i (.slice (some ⟨b,0,none⟩) i L)).run P w.drew=.ok (cur.toList.take (i*sz)).toArray w.drew:=by
   refine run_firstCells_some (P:=P) w.drew inf.size i ⟨b,0,none⟩ i L _ (by rw[U5];simp only[List.length_take,Array.length_toList];omega) (fun x v h=>?_);rw[List.getElem?_take]at h;split at h
   ·rw[jq,tp (w:=w.drew) b _ cur e (0,0) hh,Nat.zero_add];simpa using h
   ·cases h
  have Yl:IntKind.i64.wrap (k:Int)=k:=tC jB;have Wh:¬(281474976710656<(k:Int)*inf.bytes):=by have:k*inf.bytes<=(i+k)*inf.bytes:=Nat.mul_le_mul_right _ jB;have h2:((k*inf.bytes:Nat):Int)<=140737488355328:=jB;rw[Int.natCast_mul]at h2;omega
  have Vw:¬(i+k<=L):=jB;have WG:¬(9223372036854775807<(i:Int)+(k:Int)):=jB;have XC:¬((k:Int)<0):=jB;have har:=growslice_fits (bytes:=inf.bytes) (old:=L) (show L<i+k from jB) WO;have WA:¬(281474976710656<Builtin.nextslicecap (i+k) L*inf.bytes):=jB;have hkz:¬(k*inf.size=0):=by rw[U5];exact Nat.ne_of_gt (Nat.mul_pos jB h0)
  simp[Builtin.append_,run_underlying hu,run_underlying Y3,sizeOf,typeInfo,zeroValue,Vi,WL,asInt,asIntOf,Yl,Wh,WA,Vw,WG,XC,hkz,Question.forced,XB,newRow,grownCap];have:Builtin.zeroCells z.cells k=(List.replicate k zs).flatten.toArray:=by apply Array.ext';rw[Hm,XI]
  rw[this];congr 2
  apply Array.ext';simp
def DU{e:UJ}(hd:H.get d=some (.aG e sz css))(hm:m=css.length)(ht:ir P t=some e)(Wb:dc P e=some sz)(X1:dR P e=some zs)(WT:zs.length=sz)(h0:0<sz)(Vp:cM (zs.map .raw)=true)(Zp:o+n<=m)
  (hk:K (.raw (.tuple #[])) (H.put d (.aG e sz (dx css o (List.replicate n (zs.map .raw)))))):pG P .clear [t] [.rv d m sz o n] H K:=by
 subst hm;have hu:=sK ht;intro w vs ty cs hw hr;obtain⟨vd,rfl⟩:∃vd,vs=[vd]:=by
  have:=hr.1;match vs,this with
  |[vd],_=>exact⟨vd,rfl⟩
 obtain⟨i,z,hi,U5,WL,Yg,Yt⟩:=uc Wb X1 WT;have XI:z.cells.toList=zs:=by unfold dR at X1;rw[hi]at X1;simp only[Option.bind_some,WL,Option.map_some,Option.some.injEq]at X1;exact X1
 have WC:ax w (.rv d css.length sz o n) vd:=hr.2 0 _ vd rfl rfl;have hok:=(hw.rows d _ hd).1;by_cases Yk:n=0
 ·subst Yk;have XJ:dx css o (List.replicate 0 (zs.map AV.raw))=css:=by simp[dx]
  rw[XJ]at hk;have Yr:aJ w (H.put d (.aG e sz css)):={ hw with rows:=fun j r hj=>?_,di:=fun j q z hz=>?_ };rotate_left
  ·rw[Hp.bk]at hj;split at hj
   ·rename_i e;subst e;exact hw.rows j r (by rw[hd];exact hj)
   ·exact hw.rows j r hj
  ·rw[Hp.bk];split
   ·rename_i e;subst e;obtain⟨r,g1,g2⟩:=hw.di j q z hz;rw[hd]at g1;cases g1;exact⟨_,rfl,g2⟩
   ·exact hw.di j q z hz
  have hv:∃A c,vd=.slice A 0 c:=by
   generalize hq:(0:Nat)=q at WC;cases WC with
   |jn _ _ _ _ c A=>exact⟨A,c,rfl⟩
   |rv _ _ _ _ _ b t' cap US Uq=>subst hq;exact⟨_,_,rfl⟩
  obtain⟨A,c,rfl⟩:=hv;refine⟨w,_,_,.tuple #[],?_,hk,Yr,.raw _,{ Ext.refl w H with base:=rfl }⟩;cases A<;>simp[builtin,Builtin.clear_,run_underlying hu]
 generalize hgn:n=n' at WC;cases WC with
 |jn _ _ _ _ _ A=>omega
 |rv _ _ _ _ _ b t' cap US Uq=>
  subst hgn;obtain⟨_,z',U',UU⟩:=hw.rows d _ hd;have:z'=.at b t' sz:=by have U':w.nm d css.length=some z':=U';rw[US]at U';cases U';rfl
  subst this;obtain⟨_,cur,hh,⟨Vy,Uo⟩,WZ⟩:=UU;have Uo:css.flatten.length<=t':=Uo;have Wx:=gu hok.2;have U2:cf w (List.replicate n (zs.map AV.raw)).flatten (List.replicate n zs).flatten:=by
   have:(List.replicate n (zs.map AV.raw)).flatten=((List.replicate n zs).flatten).map .raw:=by simp[List.map_flatten]
   rw[this];exact yf _
  have hyl:∀c∈List.replicate n (zs.map AV.raw),c.length=sz:=fun c hc=>by rw[List.eq_of_mem_replicate hc];simpa using WT
  have hlr:(List.replicate n (zs.map AV.raw)).length=n:=List.length_replicate;have VN:(List.replicate n (zs.map AV.raw)).flatten.length=n*sz:=by rw[gu hyl,hlr]
  have U0:∀cs∈dx css o (List.replicate n (zs.map AV.raw)),cs.length=sz:=fun cs h=>by
   unfold dx at h;rcases List.mem_append.1 h with h|h
   ·rcases List.mem_append.1 h with h|h
    ·exact hok.2 _ (List.mem_of_mem_take h)
    ·exact hyl cs h
   ·exact hok.2 _ (List.mem_of_mem_drop h)
  have Uz:(dx css o (List.replicate n (zs.map AV.raw))).length=css.length:=by rw[tV _ jB,hlr,Nat.max_eq_left jB]
  have hmul:(o+n)*sz<=css.length*sz:=Nat.mul_le_mul_right _ jB;rw[Nat.add_mul]at hmul;obtain⟨w',B',g1,g2,g3⟩:=sH (P:=P) (off:=o*sz) (r':=.aG e sz (dx css o (List.replicate n (zs.map AV.raw)))) hw hd US U2 (by simp only[cM,List.all_eq_true]at Vp ⊢;intro u X2;obtain⟨y,hy,YR⟩:=List.mem_flatten.1 X2;rw[List.eq_of_mem_replicate hy]at YR;exact Vp u YR) (by rw[VN];omega) rfl rfl rfl rfl (by show css.length<=(dx css o _).length;rw[Uz];exact Nat.le_refl _) ⟨h0,U0⟩ (by show(dx css o _).flatten.length<=t';rw[gu U0,Uz];omega) (fun p u hp=>Dr hok.2 hyl (by rw[hlr];omega) hp)
  refine⟨w',_,_,.tuple #[],?_,hk,g1,.raw _,g2⟩;obtain⟨k,rfl⟩:∃k,n=k+1:=⟨n-1,jB⟩;simp[builtin,Builtin.clear_,run_underlying hu,zeroValue,typeInfo,hi,WL,Hm,XI,B']
def gj(sz k:Nat):UC:=List.replicate k (List.replicate sz AV.any)
def z6:(gj sz k).length=k:=List.length_replicate
def Jj{w':NW}(e:w'.toWorld=w.toWorld)(hO:∀b,w'.O b=w.O b){q:UO}(hn:∀i m z,q i=true->w.nm i m=some z->w'.nm i m=some z):Keep q w w':=
 ⟨by rw[e];exact Nat.le_refl _,fun b _ h=>⟨by rw[e],by rw[hO];exact h⟩,hn⟩
def gw.sG{w':NW}{z:Rz}{q:UO}(h:gw w r z)(e:w'.toWorld=w.toWorld)(k:Keep q w w')(hq:aY q r.cells=true):gw w' r z:=by
 cases z with
 |nil=>exact h
 |«at» b t s=> obtain⟨h1,cur,h2,h3,h5⟩:=h;exact⟨h1,cur,by rw[e];exact h2,h3,fun i a v ha hv=>(h5 i a v ha hv).aX k (lK hq ha)⟩
theorem D3{r s:Row}{i:Nat}:∀{l:UD},aA l i=some s->ids (bj l i r)=ids l
 |[],h=>by cases h
 |(j,t)::l,h=>by
  simp only[aA]at h;simp only[bj];split
  ·rename_i e;subst e;rfl
  ·rename_i e;rw[if_neg e]at h;have:=D3 (r:=r) h;simp only[ids,List.map_cons]at this ⊢;rw[this]
variable{X:UC}{rest:UE}
def ab.tq{e:UJ}{N q:Nat}(hn:0<css.length)(hl:aA l i=some (.aG e sz css))(Yj:n=css.length)(hq:∀k r,aA l k=some r->k≠i->aY (fun j=>(ids l).contains j && !(j == i)) r.cells=true)(hX:X.length=N)(hnN:n<=N)(ZU:aY (fun j=>(ids l).contains j && !(j == i)) X.flatten=true)(ZV:∀x∈X,x.length=sz)
  (h:∀c,n<=c->ab P f (.rc i c sz n::rest) (bj l i (.aG e sz (css++gj sz (c-n)))) fun r l'=>(N<=c/\r=.rc i c sz q/\l'=bj l i (.aG e sz (X++gj sz (c-N))))\/((n<N/\0<q)/\c=n/\∃j,aA l j=none/\r=.rs j N sz q/\l'=l++[(j,.aG e sz X)])) :
  ab P f (.rs i n sz n::rest) l fun r l'=>r=.rs i N sz q/\l'=bj l i (.aG e sz X):=fun w vs hw hv=>by
 obtain⟨v0,vr,rfl⟩:∃v0 vr,vs=(v0::vr).toArray:=by
  have:=hv.1;obtain⟨vl⟩:=vs;match vl,this with
  |v0::vr,_=>exact⟨v0,vr,rfl⟩
 have h0:ax w (.rs i n sz n) v0:=hv.2 0 _ v0 rfl rfl;have UU:=hw.rows i _ hl;obtain⟨⟨V4,UX⟩,z,hz,hrw⟩:=UU;have hz:w.nm i css.length=some z:=hz;rw[<-Yj]at hz;generalize hn':n=n' at h0;cases h0 with
 |iJ _ _ _ A US=>omega
 |rs _ _ _ _ b t c US V6 Uq _=>
  subst hn';have:z=.at b t sz:=by rw[US]at hz;cases hz;rfl
  subst this;obtain⟨_,cur,hh,⟨Vy,Uo⟩,WZ⟩:=hrw;have Uo:css.flatten.length<=t:=Uo;have WZ:∀(x:Nat) a v,css.flatten[x]?=some a->cur[x]?=some v->ax w a v:=WZ
  -- the names, with one more
  let w1:NW:={ w with nm:=fun k m=>if k=i/\m=c then some (.at b t sz)else w.nm k m }
  have U8:∀k m z,w.nm k m=some z->w1.nm k m=some z:=fun k m z Vp=>by
   show(if k=i/\m=c then _ else _)=_;by_cases hc:k=i/\m=c
   ·rw[if_pos hc];rw[hc.1,hc.2]at Vp;obtain⟨r,g1,g2⟩:=hw.di _ _ _ Vp;have g1:aA l i=some r:=g1;rw[hl]at g1;cases g1;have g2:c<=css.length:=g2;have e2:c=n:=jB;rw[e2,US]at Vp;exact Vp
   ·rw[if_neg hc];exact Vp
  have Wh:∀{k m b' t' s'},w1.nm k m=some (.at b' t' s')->w.nm k m=some (.at b' t' s')\/(k=i/\m=c/\b'=b/\t'=t/\s'=sz):=fun{k m b' t' s'} h=>by
   have h:(if k=i/\m=c then some (.at b t sz)else w.nm k m)=some (.at b' t' s'):=h;split at h
   ·rename_i hc;cases h;exact .inr ⟨hc.1,hc.2,rfl,rfl,rfl⟩
   ·exact .inl h
  have K1:Keep rG w w1:=Jj (w:=w) (w':=w1) rfl (fun _=>rfl) fun k m z _ Vp=>U8 k m z Vp
  have YB:(css++gj sz (c-n)).length=c:=by rw[List.length_append,z6];omega
  have hfl1:(css++gj sz (c-n)).flatten.length=c*sz:=by
   rw[gu (sz:=sz),YB];intro x hx;rcases List.mem_append.1 hx with hx|hx
   ·exact UX x hx
   ·rw[List.eq_of_mem_replicate hx];simp
  have ZW:ids (bj l i (.aG e sz (css++gj sz (c-n))))=ids l:=D3 hl;have W1:aJ w1 (entry (bj l i (.aG e sz (css++gj sz (c-n))))):={
   cd:=hw.cd
   rows:=fun k r hk=>by
    have hk:aA (bj l i (.aG e sz (css++gj sz (c-n)))) k=some r:=hk;rw[bP]at hk;by_cases e1:k=i
    ·rw[if_pos e1]at hk;have hk:=Option.some.inj hk;subst hk;subst e1;refine⟨⟨V4,fun x hx=>?_⟩,.at b t sz,?_,rfl,cur,hh,⟨Vy,by show(css++gj sz (c-n)).flatten.length<=t;omega⟩,fun x a v ha hv=>?_⟩
     ·rcases List.mem_append.1 hx with hx|hx
      ·exact UX x hx
      ·rw[List.eq_of_mem_replicate hx];simp
     ·show(if _ then _ else _)=_;rw[if_pos ⟨rfl,YB⟩]
     ·have ha:(css++gj sz (c-n)).flatten[x]?=some a:=ha;rw[List.flatten_append]at ha;rcases Nat.lt_or_ge x css.flatten.length with hx|hx
      ·rw[List.getElem?_append_left hx]at ha;exact(WZ x a v ha hv).aX K1 (nA a)
      ·rw[List.getElem?_append_right hx]at ha;have:a=.any:=by
        have:=List.mem_of_getElem? ha;obtain⟨y,hy,hay⟩:=List.mem_flatten.1 this;rw[List.eq_of_mem_replicate hy]at hay;exact List.eq_of_mem_replicate hay
       subst this;exact .any v
    ·rw[if_neg e1]at hk;obtain⟨g1,z,g2,g3⟩:=hw.rows k r hk;refine⟨g1,z,U8 _ _ _ g2,?_⟩;exact g3.sG rfl K1 (vJ _)
   di:=fun k m z hk=>by
    have hk:(if k=i/\m=c then some (.at b t sz)else w.nm k m)=some z:=hk;show∃r,aA (bj l i _) k=some r/\m<=r.fR;rw[bP];split at hk
    ·rename_i hc;rw[if_pos hc.1];exact⟨_,rfl,by show m<=(css++gj sz (c-n)).length;rw[YB,hc.2];exact Nat.le_refl _⟩
    ·obtain⟨r,g1,g2⟩:=hw.di k m z hk;split
     ·rename_i e1;subst e1;have g1:aA l k=some r:=g1;rw[hl]at g1;cases g1;have g2:m<=css.length:=g2;exact⟨_,rfl,by show m<=(css++gj sz (c-n)).length;omega⟩
     ·exact⟨r,g1,g2⟩
   inj:=fun k m j q b' t1 s1 t2 s2 h1 h2=>by
    rcases Wh h1 with h1|⟨a1,_,a2,_,_⟩<;>rcases Wh h2 with h2|⟨c1,_,c2,_,_⟩
    ·exact hw.inj _ _ _ _ _ _ _ _ _ h1 h2
    ·rw[c1];exact hw.inj _ _ _ _ _ _ _ _ _ h1 (c2 ▸ US)
    ·rw[a1];exact hw.inj _ _ _ _ _ _ _ _ _ (a2 ▸ US) h2
    ·rw[a1,c1]
   own:=fun k m b' t1 s1 h1=>by
    rcases Wh h1 with h1|⟨_,_,a2,_,_⟩
    ·exact hw.own _ _ _ _ _ h1
    ·rw[a2];exact hw.own _ _ _ _ _ US
   fin:=hw.fin }
  have V1:bs w1 (.rc i c sz n::rest) (.slice (some ⟨b,0,none⟩) n c::vr).toArray:=by
   refine⟨hv.1,fun k a v ha U3=>?_⟩;cases k with
   |zero=> cases ha;cases U3;exact .rc i c sz n b t (by show(if _ then _ else _)=_;rw[if_pos ⟨rfl,rfl⟩]) V6 Uq V4
   |succ k=>exact(hv.2 (k+1) a v ha U3).aX K1 (nA a)
  refine((h c jB) w1 _ W1 V1).mono ?_;rintro ex W ⟨v,r,H2,w2,rfl,rfl,hR,g1,g2,g3⟩;have hB:H2.B=ids l:=g3.base.trans ZW;have hN2:∀k m z,(ids l).contains k=true->w.nm k m=some z->w2.nm k m=some z:=fun k m z hk hz=>g3.names k m z (by show(ids (bj l i _)).contains k=true;rw[ZW];exact hk) (U8 k m z hz)
  have hiL:(ids l).contains i=true:=tn hl;have UZ:∀b',b'<w.heap.size->w.O b'->(∀k m t s,w.nm k m≠some (.at b' t s))->w2.heap[b']?=w.heap[b']?/\w2.O b'/\∀k m t s,w2.nm k m≠some (.at b' t s):=fun b' h1 h2 h3=>g3.rest b' h1 h2 fun k m t1 s1 h4=>by
   rcases Wh h4 with h4|⟨_,_,a2,_,_⟩
   ·exact h3 _ _ _ _ h4
   ·exact h3 _ _ _ _ (a2 ▸ US)
  have ZX:∀m z,w.nm i m=some z->m<=n:=fun m z hz=>by obtain⟨r,q1,q2⟩:=hw.di _ _ _ hz;have q1:aA l i=some r:=q1;rw[hl]at q1;cases q1;have q2:m<=css.length:=q2;omega
  have fin:∀(jj cc b3 t3 c3:Nat) (sp:UC),(jj=i\/aA l jj=none)->aA H2.l jj=some (.aG e sz (X++sp))->w2.nm jj (X++sp).length=some (.at b3 t3 sz)->(N=n->b3=b/\t3=t)->c3*sz=t3->q<=c3->v=.slice (some ⟨b3,0,none⟩) q c3->(∀k,k≠i->k≠jj->aA H2.l k=aA l k)->
    ∃v' r' H' w',w2.toWorld=NW.toWorld w'/\Ending.returned v=.returned v'/\(r'=.rs i N sz q/\Hp.l H'=bj l i (.aG e sz X))/\aJ w' H'/\ax w' r' v'/\fU w (entry l) w' H':=fun jj _ b3 t3 c3 sp hjj hg XC Y4 hc3 haS ev hun=>by
   have Zr:∀k,(ids l).contains k=true->k≠i->k≠jj:=fun k hk Wg e1=>by
    rcases hjj with e2|e2
    ·exact Wg (e1.trans e2)
    ·obtain⟨r,hr⟩:=yr hk;rw[e1,e2]at hr;cases hr
   let w3:NW:={ w2 with nm:=fun k m=>if k=i then(if m=N then some (.at b3 t3 sz)else if m<=n then w.nm i m else none)else if k=jj then none else w2.nm k m }
   have n1:∀{m},m<=n->w.nm i m≠none->w3.nm i m=w.nm i m:=fun{m} hm Vu=>by
    show(if i=i then(if m=N then _ else if m<=n then _ else _)else _)=_;rw[if_pos rfl];by_cases e1:m=N
    ·have e2:N=n:=jB;obtain⟨rfl,rfl⟩:=Y4 e2;rw[if_pos e1,e1,e2,US]
    ·rw[if_neg e1,if_pos hm]
   have n2:w3.nm i N=some (.at b3 t3 sz):=by show(if i=i then(if N=N then _ else _)else _)=_;rw[if_pos rfl,if_pos rfl]
   have n3:∀{k m},k≠i->k≠jj->w3.nm k m=w2.nm k m:=fun{k m} h1 h2=>by show(if k=i then _ else if k=jj then _ else _)=_;rw[if_neg h1,if_neg h2]
   have n4:∀{k m z},w3.nm k m=some z->(k≠i/\k≠jj/\w2.nm k m=some z)\/(k=i/\m<=n/\w.nm i m=some z)\/(k=i/\m=N/\z=.at b3 t3 sz):=fun{k m z} Vp=>by
    have Vp:(if k=i then(if m=N then some (.at b3 t3 sz)else if m<=n then w.nm i m else none)else if k=jj then none else w2.nm k m)=some z:=Vp;by_cases e1:k=i
    ·rw[if_pos e1]at Vp;by_cases e3:m=N
     ·rw[if_pos e3]at Vp;cases Vp;exact .inr (.inr ⟨e1,e3,rfl⟩)
     ·rw[if_neg e3]at Vp;by_cases e2:m<=n
      ·rw[if_pos e2]at Vp;exact .inr (.inl ⟨e1,e2,Vp⟩)
      ·rw[if_neg e2]at Vp;cases Vp
    ·rw[if_neg e1]at Vp;by_cases e2:k=jj
     ·rw[if_pos e2]at Vp;cases Vp
     ·rw[if_neg e2]at Vp;exact .inl ⟨e1,e2,Vp⟩
   have n5:∀{m z},w.nm i m=some z->w2.nm i m=some z:=fun{m z} Vp=>hN2 i m z hiL Vp
   have K3:Keep (fun j=>(ids l).contains j && !(j == i)) w2 w3:=Jj (w:=w2) (w':=w3) rfl (fun _=>rfl) fun k m z hk Vp=>by simp at hk;rw[n3 hk.2 (Zr k (by simpa using hk.1) hk.2)];exact Vp
   obtain⟨_,z4,hz4,haT⟩:=g1.rows jj _ hg;have:z4=.at b3 t3 sz:=by have hz4:w2.nm jj (X++sp).length=some z4:=hz4;rw[XC]at hz4;cases hz4;rfl
   subst this;obtain⟨_,cur4,hh4,⟨haU,ZY⟩,ZZ⟩:=haT;have ZY:(X++sp).flatten.length<=t3:=ZY;have ZZ:∀(x:Nat) a v,(X++sp).flatten[x]?=some a->cur4[x]?=some v->ax w2 a v:=ZZ;refine⟨v,_,⟨ids l,bj l i (.aG e sz X)⟩,w3,rfl,rfl,⟨rfl,rfl⟩,?_,?_,?_⟩
   ·exact{
     cd:=g1.cd
     rows:=fun k r hk=>by
      have hk:aA (bj l i (.aG e sz X)) k=some r:=hk;rw[bP]at hk;by_cases e1:k=i
      ·rw[if_pos e1]at hk;have hk:=Option.some.inj hk;subst hk;subst e1;refine⟨⟨V4,ZV⟩,.at b3 t3 sz,?_,rfl,cur4,hh4,⟨haU,?_⟩,fun x a v ha hv=>?_⟩
       ·show w3.nm k X.length=_;rw[hX];exact n2
       ·show X.flatten.length<=t3;rw[List.flatten_append,List.length_append]at ZY;omega
       ·have ha:X.flatten[x]?=some a:=ha;have O':=(List.getElem?_eq_some_iff.1 ha).1;refine(ZZ x a v ?_ hv).aX K3 (lK ZU ha);rw[List.flatten_append,List.getElem?_append_left O'];exact ha
      ·rw[if_neg e1]at hk;have hj:=Zr k (tn hk) e1;obtain⟨q1,z,q2,q3⟩:=g1.rows k r (by show aA H2.l k=_;rw[hun k e1 hj];exact hk);exact⟨q1,z,by rw[n3 e1 hj];exact q2,q3.sG rfl K3 (hq k r hk e1)⟩
     di:=fun k m z Vp=>by
      show∃r,aA (bj l i _) k=some r/\m<=r.fR;rw[bP];rcases n4 Vp with⟨e1,e2,Vp⟩|⟨e1,e2,_⟩|⟨e1,e2,_⟩
      ·rw[if_neg e1];obtain⟨r,q1,q2⟩:=g1.di k m z Vp;have q1:aA H2.l k=some r:=q1;rw[hun k e1 e2]at q1;exact⟨r,q1,q2⟩
      ·rw[if_pos e1];exact⟨_,rfl,by show m<=X.length;omega⟩
      ·rw[if_pos e1];exact⟨_,rfl,by show m<=X.length;omega⟩
     inj:=fun k m k' m' b' t1 s1 t2 s2 h1 h2=>by
      rcases n4 h1 with⟨a1,a2,h1⟩|⟨a1,a2,h1⟩|⟨a1,a2,h1⟩<;>rcases n4 h2 with⟨c1,c2,h2⟩|⟨c1,c2,h2⟩|⟨c1,c2,h2⟩
      ·exact g1.inj _ _ _ _ _ _ _ _ _ h1 h2
      ·rw[c1];exact g1.inj _ _ _ _ _ _ _ _ _ h1 (n5 h2)
      ·cases h2;exact(a2 (g1.inj _ _ _ _ _ _ _ _ _ h1 XC)).elim
      ·rw[a1];exact g1.inj _ _ _ _ _ _ _ _ _ (n5 h1) h2
      ·rw[a1,c1]
      ·rw[a1,c1]
      ·cases h1;exact(c2 (g1.inj _ _ _ _ _ _ _ _ _ h2 XC)).elim
      ·rw[a1,c1]
      ·rw[a1,c1]
     own:=fun k m b' t1 s1 h1=>by
      rcases n4 h1 with⟨a1,a2,h1⟩|⟨a1,a2,h1⟩|⟨a1,a2,h1⟩
      ·exact g1.own _ _ _ _ _ h1
      ·exact g1.own _ _ _ _ _ (n5 h1)
      ·cases h1;exact g1.own _ _ _ _ _ XC
     fin:=g1.fin }
   ·rw[ev];exact .rs i N sz q b3 t3 c3 n2 hc3 haS V4
   ·exact{
     size:=g3.size
     free:=g3.free
     names:=fun k m z hk Vp=>by
      have hk:(ids l).contains k=true:=hk;by_cases e1:k=i
      ·subst e1;rw[n1 (ZX m z Vp) (by rw[Vp];exact Option.some_ne_none _)];exact Vp
      ·rw[n3 e1 (Zr k hk e1)];exact hN2 k m z hk Vp
     os:=g3.os,tape:=g3.tape,output:=g3.output
     rest:=fun b' h1 h2 h3=>by
      obtain⟨q1,q2,q3⟩:=UZ b' h1 h2 h3;refine⟨q1,q2,fun k m t1 s1 h4=>?_⟩;rcases n4 h4 with⟨a1,a2,h4⟩|⟨a1,a2,h4⟩|⟨a1,a2,h4⟩
      ·exact q3 _ _ _ _ h4
      ·exact h3 _ _ _ _ h4
      ·cases h4;exact q3 _ _ _ _ XC
     base:=rfl }
  rcases hR with⟨hc,rfl,Uz⟩|⟨⟨O',hq0⟩,hc,j,hj,rfl,Uz⟩
  ·generalize XG:c=c' at g2;cases g2 with
   |rc _ _ _ _ b3 t3 q1 q2 q3 q4=>
    subst XG;have hlX:(X++gj sz (c-N)).length=c:=by rw[List.length_append,z6];omega
    have Y4:b3=b/\t3=t:=by have h9:w2.nm i c=some (.at b t sz):=g3.names i c _ (by show(ids (bj l i _)).contains i=true;rw[ZW];exact hiL) (by show(if i=i/\c=c then _ else _)=_;rw[if_pos ⟨rfl,rfl⟩]);rw[q1]at h9;cases h9;exact⟨rfl,rfl⟩
    refine fin i c b3 t3 c (gj sz (c-N)) (.inl rfl) ?_ (by rw[hlX];exact q1) (fun _=>Y4) q2 q3 rfl fun k h1 _=>?_
    ·rw[Uz,bP,if_pos rfl]
    ·rw[Uz,bP,if_neg h1]
  ·have Wt:j≠i:=fun e1=>by rw[e1,hl]at hj;cases hj
   have lget_app2:∀(l m:UD) (i:Nat),aA (l++m) i=(aA l i).or (aA m i):=fun l m i=>by
    induction l with
    |nil=>rfl
    |cons x l ih=>
     obtain⟨k,r⟩:=x;simp only[List.cons_append,aA];split
     ·rfl
     ·exact ih
   have hga:∀k,aA (l++[(j,Row.aG e sz X)]) k=(aA l k).or (if k=j then some (.aG e sz X)else none):=fun k=>by rw[lget_app2];rfl
   generalize haV:N=n1 at g2;cases g2 with
   |iJ _ _ _ A q1=>omega
   |rs _ _ _ _ b3 t3 c3 q1 q2 q3 q4=>
    subst haV;refine fin j N b3 t3 c3 [] (.inr hj) ?_ (by rw[List.append_nil,hX];exact q1) (fun e9=>jB) q2 q3 rfl fun k h1 h2=>?_
    ·rw[Uz,hga,hj,if_pos rfl,List.append_nil];rfl
    ·rw[Uz,hga,if_neg h2];cases aA l k<;>rfl
def ab.room{e:UJ}(hn:0<css.length)(hl:aA l i=some (.aG e sz css))(Yj:n=css.length)(hq:∀k r,aA l k=some r->k≠i->aY (fun j=>(ids l).contains j && !(j == i)) r.cells=true)(hX:X.length=n+1)(ZU:aY (fun j=>(ids l).contains j && !(j == i)) X.flatten=true)(ZV:∀x∈X,x.length=sz)
  (h:∀c,n<=c->ab P f (.rc i c sz n::rest) (bj l i (.aG e sz (css++gj sz (c-n)))) fun r l'=>(n+1<=c/\r=.rc i c sz (n+1)/\l'=bj l i (.aG e sz (X++gj sz (c-(n+1)))))\/(c=n/\∃j,aA l j=none/\r=.rs j (n+1) sz (n+1)/\l'=l++[(j,.aG e sz X)])) :
  ab P f (.rs i n sz n::rest) l fun r l'=>r=.rs i (n+1) sz (n+1)/\l'=bj l i (.aG e sz X):=
 ab.tq (N:=n+1) (q:=n+1) hn hl Yj hq hX jB ZU ZV fun c hc=>(h c hc).mono fun r l' h=>h.imp id fun⟨a,b⟩=>⟨⟨jB,jB⟩,a,b⟩
def ab.xm{e:UJ}(j:Nat)(hn:0<css.length)(hl:aA l i=some (.aG e sz css))(Yj:n=css.length)(hq:∀k r,aA l k=some r->k≠i->aY (fun j=>(ids l).contains j && !(j == i)) r.cells=true)(hX:X.length=n+1)(ZU:aY (fun j=>(ids l).contains j && !(j == i)) X.flatten=true)(ZV:∀x∈X,x.length=sz)(hj:aA l j=none)
  (ha:ab P f (.rc i n sz n::rest) (bj l i (.aG e sz css)) fun r l'=>r=.rs j (n+1) sz (n+1)/\l'=l++[(j,.aG e sz X)])
  (hb:∀c,n+1<=c->ab P f (.rc i c sz n::rest) (bj l i (.aG e sz (css++gj sz (c-n)))) fun r l'=>r=.rc i c sz (n+1)/\l'=bj l i (.aG e sz (X++gj sz (c-(n+1))))) :
  ab P f (.rs i n sz n::rest) l fun r l'=>r=.rs i (n+1) sz (n+1)/\l'=bj l i (.aG e sz X):=ab.room hn hl Yj hq hX ZU ZV fun c hc=>by
 by_cases Yh:c=n
 ·subst Yh;rw[Nat.sub_self,show gj sz 0=[] from rfl,List.append_nil];exact ha.mono fun r l' h=>.inr ⟨rfl,j,hj,h.1,h.2⟩
 ·exact(hb c jB).mono fun r l' h=>.inl ⟨jB,h.1,h.2⟩
variable {P:UP}{H:Hp}
def Qq{e:UJ}{x:AV}{c:Prop}(hd:H.get d=some (.aG e sz css))(hm:m=css.length)(ht:ir P t=some e)(Wb:dc P e=some sz)(X1:dR P e=some zs)(WT:zs.length=sz)(h0:0<sz)
  (WY:tP H x=some (c,ys)) (hc:c) (hg:Good sz ys) (Ve:n+ys.length<=m) (hk:K (.rc d m sz (n+ys.length)) (H.put d (.aG e sz (dx css n ys)))):qn P t t (.rc d m sz n) x H K:=by
 subst hm;intro w va vx ty hw WC ZL;have hu:=sK ht;obtain⟨i,z,hi,U5,WL,Yg,Yt⟩:=uc Wb X1 WT;obtain⟨A,cx,news,rfl,U7,VJ⟩:=Aa hw ZL WY hc hg;have VN:ys.flatten.length=ys.length*sz:=gu fun y hy=>(hg y hy).1
 have Wr:news.length=ys.length*sz:=by rw[<-U7.1,VN]
 have Wf:cM ys.flatten=true:=by simp only[cM,List.all_eq_true];intro u X2;obtain⟨y,hy,YR⟩:=List.mem_flatten.1 X2;have:=(hg y hy).2;simp only[cM,List.all_eq_true]at this;exact this u YR
 have hok:=(hw.rows d _ hd).1;have U0:∀cs∈dx css n ys,cs.length=sz:=fun cs h=>by
  unfold dx at h;rcases List.mem_append.1 h with h|h
  ·rcases List.mem_append.1 h with h|h
   ·exact hok.2 _ (List.mem_of_mem_take h)
   ·exact(hg cs h).1
  ·exact hok.2 _ (List.mem_of_mem_drop h)
 have Uz:(dx css n ys).length=css.length:=by rw[tV ys jB,Nat.max_eq_left jB]
 have hf:(Builtin.firstCells i.size ys.length (.slice A ys.length cx)).run P w.toWorld=.ok news.toArray w.toWorld:=by
  by_cases h0:ys.length=0
  ·have:news=[]:=by have:=Wr;rw[h0,Nat.zero_mul]at this;simpa using this
   subst this;rw[h0];cases A<;>simp[Builtin.firstCells,loadCells,loadCellsFrom]
  ·obtain⟨ad,rfl,D'⟩:=VJ jB;exact run_firstCells_some (P:=P) w.toWorld i.size ys.length ad ys.length cx news (by rw[U5];exact Wr) D'
 rw[U5]at hf;cases WC with
 |rc _ _ _ _ b t' US V6 Uq V4=>
  obtain⟨_,z',U',UU⟩:=hw.rows d _ hd;have:z'=.at b t' sz:=by have U':w.nm d css.length=some z':=U';rw[US]at U';cases U';rfl
  subst this;obtain⟨_,cur,hh,⟨Vy,Uo⟩,WZ⟩:=UU;have V3:n*sz+ys.flatten.length<=t':=by rw[VN,<-Nat.add_mul,<-V6];exact Nat.mul_le_mul_right _ Ve
  obtain⟨w',B',g1,g2,g3⟩:=sH (P:=P) (off:=n*sz) (r':=.aG e sz (dx css n ys)) hw hd US U7 Wf V3 rfl rfl rfl rfl (by show css.length<=(dx css n ys).length;rw[Uz];exact Nat.le_refl _) ⟨h0,U0⟩ (by show(dx css n ys).flatten.length<=t';rw[gu U0,Uz,V6];exact Nat.le_refl _) (fun p u hp=>Dr hok.2 (fun c hc=>(hg c hc).1) jB hp);refine⟨w',_,_,.slice (some ⟨b,0,none⟩) (n+ys.length) css.length,?_,hk,g1,?_,g2⟩
  ·have X3:(⟨b,0,none⟩:Addr).add (n*sz)=⟨b,n*sz,none⟩:=by rw[jq];simp
   simp[Builtin.append_,run_underlying hu,sizeOf,typeInfo,hi,Builtin.lenOf,Ve,hf,U5,X3,B']
  ·exact .rc d css.length sz _ b t' (by have g3:w'.nm d (dx css n ys).length=some (.at b t' sz):=g3;rwa [Uz]at g3) V6 Ve V4
def ab.wG{e:UJ}{q:Nat}(hn:0<css.length)(hl:aA l i=some (.aG e sz css))(Yj:n=css.length)(hq:∀k r,aA l k=some r->k≠i->aY (fun j=>(ids l).contains j && !(j == i)) r.cells=true)(hX:X.length=n)(ZU:aY (fun j=>(ids l).contains j && !(j == i)) X.flatten=true)(ZV:∀x∈X,x.length=sz)
  (h:∀c,n<=c->ab P f (.rc i c sz n::rest) (bj l i (.aG e sz (css++gj sz (c-n)))) fun r l'=>r=.rc i c sz q/\l'=bj l i (.aG e sz (X++gj sz (c-n)))) :
  ab P f (.rs i n sz n::rest) l fun r l'=>r=.rs i n sz q/\l'=bj l i (.aG e sz X):=
 ab.tq (N:=n) (q:=q) hn hl Yj hq hX jl ZU ZV fun c hc=>(h c hc).mono fun r l' h=>.inl ⟨hc,h.1,h.2⟩
section
variable {P:UP}{H:Hp}
def zR(z:Value)(k:Nat):Builtin.zeroCells #[z] k=(List.replicate k z).toArray:=by
 apply Array.ext
 ·simp[Builtin.zeroCells]
 ·intro i h1 h2;simp[Builtin.zeroCells,Nat.mod_one]
def S1(w:NW)(z:Value):∀k,cf w (List.replicate k [AV.raw z]).flatten (List.replicate k z):=fun k=>by
 have:(List.replicate k [AV.raw z]).flatten=(List.replicate k z).map .raw:=by simp[List.flatten_replicate_singleton]
 rw[this];refine⟨jE,fun i a v ha hv=>?_⟩;rw[List.getElem?_map,hv]at ha;simp at ha;subst ha;exact .raw _
def Qi{t t' e:UJ}{d m n k:Nat}{z0:Value}{css:UC}{K:UB}(hu:P.underlying t=some (.slice e))(X2:∃d,P.underlying t'=some (.int d))(Uu:dc P e=some 1)(hz:dR P e=some [z0])(Vp:z0.oneCell'=true)
  (hd:H.get d=some (.aG e 1 css)) (hm:m=css.length) (hn:n=css.length) (VK:room (j4 P e) (css.length+k)) (hk:K (.rs d (css.length+k) 1 (css.length+k)) (H.put d (.aG e 1 (css++List.replicate k [.raw z0])))):qn P t t' (.rs d m 1 n) (.raw (.int .i64 k)) H K:=by
 subst hm hn;intro w va vx ty hw WC ZL;have:=db ZL;subst this;obtain⟨dk,Y3⟩:=X2;obtain⟨i,z,hi,U5,WL,Yg,Yt⟩:=uc Uu hz rfl;obtain⟨WO,X6⟩:=VK;rw[Yt]at WO;have XI:z.cells=#[z0]:=by unfold dR at hz;rw[hi]at hz;simp only[Option.bind_some,WL,Option.map_some,Option.some.injEq]at hz;rw[<-Array.toList_inj,hz]
 have WD:∀need old,need<=grownCap w.toWorld need old e:=fun need old=>by unfold grownCap Question.cut;simp
 have hau:∀m,(Builtin.zeroCells z.cells m).size=m*1:=fun m=>by rw[XI,zR];simp
 have hok:=(hw.rows d _ hd).1;have U0:∀cs∈css++List.replicate k [AV.raw z0],cs.length=1:=fun cs h=>by
  rcases List.mem_append.1 h with h|h
  ·exact hok.2 cs h
  ·rw[List.eq_of_mem_replicate h];rfl
 have U7:=S1 w z0 k;have Yl:IntKind.i64.wrap (k:Int)=k:=by
  have:IntKind.i64.wrap (k:Int)=(k:Int):=by unfold IntKind.wrap;simp[IntKind.bits,IntKind.signed];omega
  exact this
 have Wh:¬(281474976710656<(k:Int)*i.bytes):=by have:k*i.bytes<=(css.length+k)*i.bytes:=Nat.mul_le_mul_right _ jB;have h2:((k*i.bytes:Nat):Int)<=140737488355328:=jB;rw[Int.natCast_mul]at h2;omega
 have XC:¬((k:Int)<0):=jB;have Uz:(css++List.replicate k [AV.raw z0]).length=css.length+k:=jE;have Wx:=gu hok.2;generalize hgl:css.length=l at*;cases WC with
 |iJ _ _ _ A US=>
  obtain⟨_,z',U',UU⟩:=hw.rows d _ hd;have:z'=.nil:=by have U':w.nm d css.length=some z':=U';rw[hgl,US]at U';cases U';rfl
  subst this;obtain⟨e2,sz3,UU⟩:=UU;cases UU;simp only[List.length_nil]at hgl;by_cases UW:k=0
  ·subst UW;refine⟨w,_,_,.slice A 0 0,?_,hk,?_,.iJ _ _ _ _ US,?_⟩
   ·have hw0:IntKind.i64.wrap 0=0:=Yl;cases A<;>simp[Builtin.append_,run_underlying hu,run_underlying Y3,sizeOf,typeInfo,hi,asInt,asIntOf,hw0,storeCells]
   ·refine{ hw with rows:=fun j r hj=>?_,di:=fun j q z hz=>?_ }
    ·rw[Hp.bk]at hj;split at hj
     ·rename_i e;subst e;exact hw.rows j r (by rw[hd];exact hj)
     ·exact hw.rows j r hj
    ·rw[Hp.bk];split
     ·rename_i e;subst e;obtain⟨r,g1,g2⟩:=hw.di j q z hz;rw[hd]at g1;cases g1;exact⟨_,rfl,g2⟩
     ·exact hw.di j q z hz
   ·exact{ Ext.refl w H with base:=rfl }
  ·simp only[List.nil_append,Nat.zero_add]at hk U0 Uz WO X6;obtain⟨w',e1,g1,g2,g3⟩:=tA (i:=d) (e:=e) (cap:=grownCap w.toWorld k 0 e) (css:=List.replicate k [AV.raw z0]) (rest:=Builtin.zeroCells z.cells (grownCap w.toWorld k 0 e-k)) hw jC U0 U7 (by rw[Uz];exact WD _ _) (by rw[Uz];exact hau _) (hw.later hd (by show([]:UC).length<_;rw[Uz];simp;omega)) (fun r hr=>by rw[hd]at hr;cases hr;exact Nat.zero_le _);rw[Uz]at g3;refine⟨w',_,_,_,?_,by simpa using hk,g1,by simpa using g3,g2⟩;rw[e1];have Vw:¬(k=0):=UW;have WG:¬(9223372036854775807<(k:Int)):=jB;have WA:¬(281474976710656<Builtin.nextslicecap k 0*i.bytes):=by rw[nextslicecap_zero jB];omega
   cases A<;>simp[Builtin.append_,run_underlying hu,run_underlying Y3,sizeOf,typeInfo,zeroValue,hi,WL,U5,asInt,asIntOf,Yl,Wh,WA,Vw,WG,XC,Question.forced,newRow,grownCap,Builtin.firstCells,loadCells,loadCellsFrom,XI,zR]
 |rs _ _ _ _ b t' cap US V6 Uq V4=>
  obtain⟨_,z',U',UU⟩:=hw.rows d _ hd;have:z'=.at b t' 1:=by have U':w.nm d css.length=some z':=U';rw[hgl,US]at U';cases U';rfl
  subst this;obtain⟨_,cur,hh,⟨Vy,Uo⟩,WZ⟩:=UU;have hh:w.heap[b]?=some (.cells cur e (0,0)):=hh;have Uo:css.flatten.length<=t':=Uo;have Wf:cM (List.replicate k [AV.raw z0]).flatten=true:=by
   have:(List.replicate k [AV.raw z0]).flatten=(List.replicate k z0).map .raw:=by simp[List.flatten_replicate_singleton]
   rw[this];simp[cM,AV.one,Vp]
  have Ws:(List.replicate k [AV.raw z0]).flatten.length=k:=jE;by_cases Ve:l+k<=cap
  ·obtain⟨w',B',g1,g2,g3⟩:=sH (P:=P) (off:=l) (r':=.aG e 1 (css++List.replicate k [.raw z0])) hw hd (by show w.nm d css.length=_;rw[hgl];exact US) U7 Wf (by rw[Ws];omega) rfl rfl rfl rfl (by show css.length<=(css++_).length;simp) ⟨jC,U0⟩ (by show(css++List.replicate k [AV.raw z0]).flatten.length<=t';rw[gu U0,Uz];omega) (fun p u hp=>by
     have hp:(css++List.replicate k [AV.raw z0]).flatten[p]?=some u:=hp;rw[List.flatten_append]at hp;show if _ then _ else css.flatten[p]?=some u
     rcases Nat.lt_or_ge p l with h|h
     ·rw[jN];rw[List.getElem?_append_left jB]at hp;exact hp
     ·rw[List.getElem?_append_right jB]at hp;have O':=(List.getElem?_eq_some_iff.1 hp).1;rw[if_pos ⟨h,jB⟩];rw[<-hp];congr 1;omega)
   refine⟨w',_,_,.slice (some ⟨b,0,none⟩) (l+k) cap,?_,hk,g1,?_,g2⟩
   ·have X3:(⟨b,0,none⟩:Addr).add l=⟨b,l,none⟩:=by rw[jq];simp
    by_cases UW:k=0
    ·subst UW;have hw0:IntKind.i64.wrap 0=0:=Yl;have hav:(storeCells ⟨b,l,none⟩ []).run P w.toWorld=.ok () w'.toWorld:=B';have Yy:l<=cap:=jB;simp[Builtin.append_,run_underlying hu,run_underlying Y3,sizeOf,typeInfo,hi,U5,asInt,asIntOf,hw0,Yy,X3,hav]
    ·simp[Builtin.append_,run_underlying hu,run_underlying Y3,sizeOf,typeInfo,zeroValue,hi,WL,U5,asInt,asIntOf,Yl,Wh,XC,Ve,UW,X3,XI,zR,B']
   ·have g3:w'.nm d (css++List.replicate k [AV.raw z0]).length=some (.at b t' 1):=g3;rw[Uz]at g3;exact .rs d _ 1 _ b t' cap g3 V6 Ve jC
  ·have hold:cf w css.flatten (cur.toList.take l):=by
    refine⟨by simp only[List.length_take,Array.length_toList];omega,fun j a v Zn hv=>?_⟩;rw[List.getElem?_take]at hv;split at hv
    ·exact WZ j a v Zn (by simpa using hv)
    ·cases hv
   have UX:=hold.append U7;rw[<-List.flatten_append]at UX;obtain⟨w',e1,g1,g2,g3⟩:=tA (i:=d) (e:=e) (cap:=grownCap w.toWorld (l+k) cap e) (css:=css++List.replicate k [AV.raw z0]) (rest:=Builtin.zeroCells z.cells (grownCap w.toWorld (l+k) cap e-(l+k))) hw jC U0 UX (by rw[Uz];exact WD _ _) (by rw[Uz];exact hau _) (hw.later hd (by show css.length<_;rw[Uz];omega)) (fun r hr=>by rw[hd]at hr;cases hr;show css.length<=_;rw[Uz];omega);rw[Uz]at g3;refine⟨w',_,_,_,?_,hk,g1,g3,g2⟩;rw[e1];have XB:(Builtin.firstCells 1 l (.slice (some ⟨b,0,none⟩) l cap)).run P w.drew=.ok (cur.toList.take l).toArray w.drew:=by
    refine run_firstCells_some (P:=P) w.drew 1 l ⟨b,0,none⟩ l cap _ (by simp only[List.length_take,Array.length_toList];omega) (fun j v h=>?_);rw[List.getElem?_take]at h;split at h
    ·rw[jq,tp (w:=w.drew) b _ cur e (0,0) hh,Nat.zero_add];simpa using h
    ·cases h
   have Vw:¬(l+k<=cap):=Ve;have WG:¬(9223372036854775807<(l:Int)+(k:Int)):=jB;have har:=growslice_fits (bytes:=i.bytes) (old:=cap) (show cap<l+k from jB) WO;have WA:¬(281474976710656<Builtin.nextslicecap (l+k) cap*i.bytes):=jB;have UW:¬(k=0):=jB;simp[Builtin.append_,run_underlying hu,run_underlying Y3,sizeOf,typeInfo,zeroValue,hi,WL,U5,asInt,asIntOf,Yl,Wh,WA,Vw,WG,XC,UW,Question.forced,XB,newRow,grownCap,XI,zR];congr 2
   apply Array.ext';simp
end
abbrev sE:UI:=⟨#[]⟩
def vI(n:Int):aj:=⟨1,n,sE⟩
def vB(b:Bool):aj:=⟨2,if b=true then 1 else 0,sE⟩
def vT(s:UI):aj:=⟨3,0,s⟩
def vZ(t:Int):aj:=⟨t,0,sE⟩
def v0:aj:=⟨0,0,sE⟩
def lW(v:aj):Bool:=
 if v.ty=1 then decide (v.s=sE)
 else if v.ty=2 then decide (v.s=sE) && (decide (v.n=0) || decide (v.n=1))
 else if v.ty=3 then decide (v.n=0) && decide ((v.s.size:Int)<=40)
 else if v.ty=4 then decide (v.s=sE) && decide (0<=v.n)
 else false
def uZ(sign:UI)(a b:Int):aj×Int:=
 if sign=(⟨#[43]⟩:UI)then(vI (IntKind.i64.wrap (a+b)),0)
 else if sign=(⟨#[45]⟩:UI)then(vI (IntKind.i64.wrap (a-b)),0)
 else if sign=(⟨#[42]⟩:UI)then(vI (IntKind.i64.wrap (a*b)),0)
 else if sign=(⟨#[47]⟩:UI)then(if b=0 then(v0,1)else(vI (IntKind.i64.wrap (a.tdiv b)),0))
 else if sign=(⟨#[37]⟩:UI)then(if b=0 then(v0,1)else(vI (a.tmod b),0))
 else if sign=(⟨#[60]⟩:UI)then(vB (decide (a<b)),0)
 else if sign=(⟨#[60,61]⟩:UI)then(vB (decide (a<=b)),0)
 else(v0,0)
def qt(sign:UI)(a b:aj):aj×Int:=
 if a.ty≠b.ty\/a.ty<1\/4<a.ty then(v0,0)
 else if sign=(⟨#[61,61]⟩:UI)then(vB (decide (a.n=b.n) && decide (a.s=b.s)),0)
 else if sign=(⟨#[33,61]⟩:UI)then(vB (!(decide (a.n=b.n) && decide (a.s=b.s))),0)
 else if a.ty=1 then uZ sign a.n b.n
 else if a.ty=2 then(if sign=(⟨#[124,124]⟩:UI)then(vB (decide (a.n=1) || decide (b.n=1)),0)else if sign=(⟨#[38,38]⟩:UI)then(vB (decide (a.n=1) && decide (b.n=1)),0)else(v0,0))
 else if a.ty=3 then(if sign=(⟨#[43]⟩:UI)then(if(a.s.size:Int)+b.s.size>40 then(v0,6)else(vT (a.s++b.s),0))else(v0,0))
 else(v0,0)
def mG(sign:UI)(a:aj):aj:=
 if sign=(⟨#[45]⟩:UI)/\a.ty=1 then vI (IntKind.i64.wrap (-a.n))
 else if sign=(⟨#[33]⟩:UI)/\a.ty=2 then vB (!decide (a.n=1))
 else v0
def j7(n:Int):Bool:=decide (48<=n) && decide (n<=57)
def wS(n:Int):Bool:=(decide (97<=n) && decide (n<=122)) || (decide (65<=n) && decide (n<=90))
def xg(s:UI):Bool:=decide ((s.size:Int)<19) || (decide ((s.size:Int)=19) && (Op.bytesLess s.toList (⟨#[57,50,50,51,51,55,50,48,51,54,56,53,52,55,55,53,56,48,55]⟩:UI).toList || decide (s=(⟨#[57,50,50,51,51,55,50,48,51,54,56,53,52,55,55,53,56,48,55]⟩:UI))))
def pj(s:UI):Nat->Int
 |0=>1
 |k+1=>if eO s k=10 then pj s k+1 else pj s k
theorem IP(s:UI):∀k,1<=pj s k/\pj s k<=k+1
 |0=>by simp[pj]
 |k+1=>by have:=IP s k;unfold pj;split<;>omega
def fY:List UI:=[(⟨#[102,110]⟩:UI),(⟨#[108,101,116]⟩:UI),(⟨#[105,102]⟩:UI),(⟨#[101,108,115,101]⟩:UI),(⟨#[119,104,105,108,101]⟩:UI),(⟨#[114,101,116,117,114,110]⟩:UI),(⟨#[112,114,105,110,116]⟩:UI),(⟨#[105,110,112,117,116]⟩:UI),(⟨#[110,101,119]⟩:UI),(⟨#[108,101,110]⟩:UI),(⟨#[116,114,117,101]⟩:UI),(⟨#[102,97,108,115,101]⟩:UI),(⟨#[105,110,116]⟩:UI),(⟨#[98,111,111,108]⟩:UI),(⟨#[116,101,120,116]⟩:UI),(⟨#[108,105,115,116]⟩:UI)]
def PK:fY.length=16:=rfl
def wg(s:UI):Bool:=fY.any fun t=>decide (t=s)
-- the first one
theorem zJ{α:Type}[Inhabited α]{p:α->Bool}:∀{l:List α} {k:Nat},(∀j,j<k->p (nth l j)=false)->k<l.length->p (nth l k)=true->l.find? p=some (nth l k)
 |[],k,_,h,_=>by simp at h
 |x::l,0,_,_,hp=>by have:p x=true:=hp;rw[List.find?_cons,this];rfl
 |x::l,k+1,h,hk,hp=>by have h0:p x=false:=h 0 jB;rw[List.find?_cons,h0];exact zJ (fun j hj=>h (j+1) jB) (by simpa using hk) hp
variable{α:Type}
def CB[Inhabited α]{p:α->Bool}{l:List α}(h:∀j,j<l.length->p (nth l j)=false):l.find? p=none:=by rw[List.find?_eq_none];intro x hx;obtain⟨j,hj,rfl⟩:=List.getElem_of_mem hx;have:=h j hj;rw[fO hj]at this;simp[this]
def C4(h:k<n):nth (List.range n) k=k:=by simp[nth,h]
-- bytes of which p holds
def pY(p:Int->Bool)(s:UI):Nat->Nat->Nat
 |0,i=>i
 |n+1,i=>if i<s.size/\p (eO s i)=true then pY p s n (i+1)else i
def iO(p:Int->Bool)(s:UI)(i:Nat):Nat:=pY p s (s.size+1) i
theorem GI{p:Int->Bool}{s:UI}{k:Nat}(XP:¬(k<s.size/\p (eO s k)=true)):∀{n i:Nat},i<=k->k<n+i->(∀j,i<=j->j<k->j<s.size/\p (eO s j)=true)->pY p s n i=k
 |0,i,h1,h2,_=>by omega
 |n+1,i,h1,h2,h3=>by
  unfold pY;by_cases e:i=k
  ·subst e;rw[if_neg XP]
  ·rw[if_pos (h3 i jl jB)];exact GI XP jB jB fun j hj=>h3 j jB
variable{p:Int->Bool}{s:UI}
def yU(XP:¬(k<s.size/\p (eO s k)=true))(h1:i<=k)(hk:k<=s.size)(h3:∀j,i<=j->j<k->p (eO s j)=true):iO p s i=k:=
 GI XP h1 jB fun j hj hjk=>⟨jB,h3 j hj hjk⟩
theorem zq{p:Int->Bool}{s:UI}:∀{n i:Nat},i<=pY p s n i/\(i<=s.size->pY p s n i<=s.size)
 |0,i=>⟨Nat.le_refl _,id⟩
 |n+1,i=>by
  unfold pY;split
  ·have:=zq (p:=p) (s:=s) (n:=n) (i:=i+1);exact⟨jB,fun _=>this.2 jB⟩
  ·exact⟨Nat.le_refl _,id⟩
def vf(h:i<=s.size):i<=iO p s i/\iO p s i<=s.size:=⟨zq.1,zq.2 h⟩
def xi(h:i<s.size)(hp:p (eO s i)=true):i<iO p s i:=by unfold iO;unfold pY;rw[if_pos ⟨h,hp⟩];have:=(zq (p:=p) (s:=s) (n:=s.size) (i:=i+1)).1;omega
theorem D6{p:Int->Bool}{s:UI}:∀{n i j:Nat},i<=j->j<pY p s n i->p (eO s j)=true
 |0,i,j,h1,h2=>by unfold pY at h2;omega
 |n+1,i,j,h1,h2=>by
  unfold pY at h2;split at h2
  ·rename_i h;by_cases e:j=i
   ·subst e;exact h.2
   ·exact D6 jB h2
  ·omega
-- jf between tokens
def yp(c:Int):Bool:=decide (c=32) || decide (c=9) || decide (c=13) || decide (c=10)
def zp(s:UI)(i:Nat):Bool:=decide (eO s i=47) && decide (i+1<s.size) && decide (eO s (i+1:Nat)=47)
def sj(c:Int):Bool:=decide (c≠10)
def mc(s:UI)(i:Nat):Option Nat:=if i<s.size then(if yp (eO s i)=true then some (i+1)else if zp s i=true then some (iO sj s i)else none)else none
def mZ(s:UI):Nat->Nat->Nat
 |0,i=>i
 |n+1,i=>match mc s i with
  |some j=>mZ s n j
  |none=>i
def zt(h:mc s i=some j):i<j/\j<=s.size:=by
 unfold mc at h;split at h
 ·rename_i hi;split at h
  ·cases h;omega
  ·split at h
   ·rename_i hc;cases h;have Vu:sj (eO s i)=true:=by
     simp only[zp,Bool.and_eq_true,decide_eq_true_eq]at hc;simp[sj,hc.1.1]
    exact⟨xi hi Vu,(vf jB).2⟩
   ·cases h
 ·cases h
theorem JC(s:UI):∀(n m i:Nat),s.size<n+i->s.size<m+i->mZ s n i=mZ s m i
 |0,0,i,_,_=>rfl
 |0,m+1,i,h,_=>by
  unfold mZ;have:mc s i=none:=by unfold mc;rw[jN]
  rw[this]
 |n+1,0,i,_,h=>by
  unfold mZ;have:mc s i=none:=by unfold mc;rw[jN]
  rw[this]
 |n+1,m+1,i,h1,h2=>by
  unfold mZ;cases e:mc s i with
  |none=>rfl
  |some j=> have:=zt e;exact JC s n m j jB jB
def od(s:UI)(i:Nat):Nat:=mZ s (s.size+1) i
def Kf(h:mc s i=some j):od s i=od s j:=by have:=zt h;show mZ s (s.size+1) i=mZ s (s.size+1) j;rw[mZ,h];exact JC s _ _ j jB jB
def Ek(h:mc s i=none):od s i=i:=by show mZ s (s.size+1) i=i;rw[mZ,h]
theorem Ap{s:UI}:∀{n i:Nat},i<=mZ s n i/\(i<=s.size->mZ s n i<=s.size)
 |0,i=>⟨Nat.le_refl _,id⟩
 |n+1,i=>by
  unfold mZ;cases e:mc s i with
  |none=>exact⟨Nat.le_refl _,id⟩
  |some j=> have h1:=zt e;have h2:=Ap (s:=s) (n:=n) (i:=j);exact⟨by simp only;omega,fun _=>h2.2 h1.2⟩
def uY(h:i<=s.size):i<=od s i/\od s i<=s.size:=⟨Ap.1,Ap.2 h⟩
-- tokens
def uu(c:Int):Bool:=decide (32<=c) && decide (c<=126) && decide (c≠34)
def oV(s:UI)(a:Nat):UI×Int×Int:=
 let i:=iO uu s (a+1)
 if i<s.size/\eO s i=34 then(if(i:Int)-a-1>12 then(⟨#[]⟩,a,4)else(s.extract (a+1) i,(i:Int)+1,0))else(⟨#[]⟩,a,11)
def jm:List UI:=[(⟨#[124,124]⟩:UI),(⟨#[38,38]⟩:UI),(⟨#[60,61]⟩:UI),(⟨#[61,61]⟩:UI),(⟨#[33,61]⟩:UI)]
def iC:UI:=(⟨#[40,41,123,125,91,93,44,59,61,60,43,45,42,47,37,33]⟩:UI)
def qg(s t:UI):Bool:=decide (2<=(s.size:Int)) && decide (s.extract 0 2=t)
def nJ(s:UI):UI:=match jm.find? (qg s)with
 |some t=>t
 |none=>match (List.range 16).find? fun k:Nat=>decide (eO s 0=eO iC (k:Nat))with
  |some k=>iC.extract k (k+1)
  |none=>⟨#[]⟩
def o6(c:Int):Bool:=wS c || j7 c || decide (c=95)
def P9{b:UI}(h:b.size=0):b=⟨#[]⟩:=by obtain⟨d⟩:=b;have:d=#[]:=Array.size_eq_zero_iff.1 h;rw[this]
def vX:cA:=⟨0,⟨#[]⟩,0⟩
def io(s:UI)(a:Nat):cA×Int×Int:=
 if j7 (eO s a)=true then
  (if xg (s.extract a (iO j7 s a))=true then(⟨1,s.extract a (iO j7 s a),a⟩,(iO j7 s a:Nat),0)else(vX,a,12))
 else if wS (eO s a)=true then
  (if wg (s.extract a (iO o6 s a))=true then(⟨4,s.extract a (iO o6 s a),a⟩,(iO o6 s a:Nat),0)
  else if((s.extract a (iO o6 s a)).size:Int)>8 then(vX,a,13)else(⟨3,s.extract a (iO o6 s a),a⟩,(iO o6 s a:Nat),0))
 else if eO s a=34 then(⟨2,(oV s a).1,a⟩,(oV s a).2.1,(oV s a).2.2)
 else if nJ (s.extract a s.size)=⟨#[]⟩then(vX,a,10)
 else(⟨5,nJ (s.extract a s.size),a⟩,a+(nJ (s.extract a s.size)).size,0)
def Th(s:UI):(nJ s).size<=2:=by
 unfold nJ;cases h:jm.find? (qg s)with
 |some t=> have hm:=List.mem_of_find?_eq_some h;have:∀t∈jm,t.size<=2:=jC;exact this t hm
 |none=>
  cases h2:(List.range 16).find? fun k:Nat=>decide (eO s 0=eO iC (k:Nat))with
  |some k=> simp only;rw[ByteArray.size_extract];omega
  |none=>decide
variable{t:UI}
def PR(h:jm.find? (qg s)=some t):t.size=2/\2<=s.size:=by have hm:=List.mem_of_find?_eq_some h;have hp:=List.find?_some h;have:∀t∈jm,t.size=2:=jC;simp only[qg,Bool.and_eq_true,decide_eq_true_eq]at hp;exact⟨this t hm,jB⟩
def Tz(hs:0<s.size):(nJ s).size<=s.size:=by
 unfold nJ;cases h:jm.find? (qg s)with
 |some t=>have:=PR h;simp only;omega
 |none=>
  cases h2:(List.range 16).find? fun k:Nat=>decide (eO s 0=eO iC (k:Nat))with
  |some k=> simp only;rw[ByteArray.size_extract];omega
  |none=>exact Nat.zero_le _
variable{a:Nat}
def zo(ha:a<s.size)(h:(io s a).2.2=0):∃e:Nat,(io s a).2.1=e/\a<e/\e<=s.size:=by
 unfold io at h ⊢;split at h<;>rename_i h1
 ·rw[if_pos h1]at*;split at h<;>rename_i h2
  ·rw[if_pos h2];exact⟨_,rfl,xi ha h1,(vf jB).2⟩
  ·cases h
 ·rw[if_neg h1]at*;split at h<;>rename_i h2
  ·rw[if_pos h2];have hw:o6 (eO s a)=true:=by simp[o6,h2]
   split at h<;>rename_i h3
   ·rw[if_pos h3];exact⟨_,rfl,xi ha hw,(vf jB).2⟩
   ·rw[if_neg h3];split at h<;>rename_i h4
    ·cases h
    ·rw[if_neg h4];exact⟨_,rfl,xi ha hw,(vf jB).2⟩
  ·rw[if_neg h2];split at h<;>rename_i h3
   ·rw[if_pos h3];have hb:=vf (p:=uu) (s:=s) (i:=a+1) jB;simp only[oV]at h ⊢;split at h<;>rename_i h4
    ·rw[if_pos h4];split at h<;>rename_i h5
     ·cases h
     ·rw[if_neg h5];exact⟨iO uu s (a+1)+1,jE,jB,jB⟩
    ·cases h
   ·rw[if_neg h3];split at h<;>rename_i h4
    ·cases h
    ·rw[if_neg h4];have Uu:(s.extract a s.size).size=s.size-a:=by rw[ByteArray.size_extract];omega
     have Uq:=Tz (s:=s.extract a s.size) jB;have VU:0<(nJ (s.extract a s.size)).size:=by
      rcases Nat.eq_zero_or_pos (nJ (s.extract a s.size)).size with e|e
      ·exact(h4 (P9 e)).elim
      ·exact e
     exact⟨a+(nJ (s.extract a s.size)).size,jE,jB,jB⟩
def lr(s:UI):Nat->Nat->List cA->List cA×Int×Int
 |0,_,out=>(out,0,0)
 |n+1,i,out=>if i<s.size then
   (if(io s i).2.2=0 then lr s n (od s (io s i).2.1.toNat) (out++[(io s i).1])else([],((i:Nat):Int),(io s i).2.2))
  else(out++[⟨0,⟨#[]⟩,s.size⟩],0,0)
theorem G3(s:UI):∀(n m i:Nat) (out:List cA),s.size<n+i->s.size<m+i->i<=s.size->lr s n i out=lr s m i out
 |0,_,i,_,h,_,h3=>by omega
 |_,0,i,_,_,h,h3=>jB
 |n+1,m+1,i,out,h1,h2,h3=>by
  unfold lr;split
  ·rename_i hi;split
   ·rename_i he;obtain⟨e,h4,h5,h6⟩:=zo hi he;rw[h4,Int.toNat_natCast];have:=uY (s:=s) (i:=e) h6;exact G3 s n m _ _ jB jB this.2
   ·rfl
  ·rfl
def vS(s:UI)(i:Nat)(out:List cA):List cA×Int×Int:=lr s (s.size+1) i out
variable{out:List cA}
def Sa(hi:i<s.size)(he:(io s i).2.2=0):vS s i out=vS s (od s (io s i).2.1.toNat) (out++[(io s i).1]):=by show lr s (s.size+1) i out=lr s (s.size+1) _ _;rw[lr,if_pos hi,if_pos he];obtain⟨e,h4,h5,h6⟩:=zo hi he;rw[h4,Int.toNat_natCast];have:=uY (s:=s) (i:=e) h6;exact G3 s _ _ _ _ jB jB this.2
def LV(hi:i<s.size)(he:(io s i).2.2≠0):vS s i out=([],((i:Nat):Int),(io s i).2.2):=by show lr s (s.size+1) i out=_;rw[lr,if_pos hi,if_neg he]
def L6(hi:¬i<s.size):vS s i out=(out++[⟨0,⟨#[]⟩,s.size⟩],0,0):=by show lr s (s.size+1) i out=_;rw[lr,if_neg hi]
def kR(s:UI):List cA×Int×Int:=if(s.size:Int)>600 then([],0,4)else vS s (od s 0) []
structure Rd where
 src:ByteArray
 l:List cA
 i:Int
 nodes:List bq
 deep:Int
 e:Int
 at_:Int
 deriving Inhabited
namespace Rd
def tok(r:Rd):cA:=nth r.l r.i.toNat
def aE(r:Rd)(e:Int):Rd:=if r.e=0 then{ r with e:=e,at_:=r.tok.at_ }else r
def is(r:Rd)(t:UI):Bool:=decide (r.e=0) && (decide (r.tok.kind=5) || decide (r.tok.kind=4)) && decide (r.tok.text=t)
def kind(r:Rd)(k:Int):Bool:=decide (r.e=0) && decide (r.tok.kind=k)
def inc(r:Rd):Rd:={ r with i:=r.i+1 }
def ap(r:Rd)(t:UI):Rd:=if r.is t=true then r.inc else r.aE 20
def name(r:Rd):Rd×UI:=if r.kind 3=true then(r.inc,r.tok.text)else(r.aE 20,⟨#[]⟩)
def cV(r:Rd):Int:=pj r.src (min r.src.size r.tok.at_.toNat)
def node(r:Rd)(n:bq):Rd:={ r with nodes:=r.nodes++[n] }
def put(r:Rd)(k ln n:Int)(nm:UI)(L:UG):Rd×Int:=(r.node ⟨k,ln,n,nm,L⟩,r.nodes.length)
def down(r:Rd):Rd:={ (if 16<=r.deep then r.aE 21 else r)with deep:=r.deep+1 }
def up(r:Rd):Rd:={ r with deep:=r.deep-1 }
end Rd
def nE(level:Int):List UI:=
 if level=0 then[(⟨#[124,124]⟩:UI)]else if level=1 then[(⟨#[38,38]⟩:UI)]else if level=2 then[(⟨#[60]⟩:UI),(⟨#[60,61]⟩:UI),(⟨#[61,61]⟩:UI),(⟨#[33,61]⟩:UI)]else if level=3 then[(⟨#[43]⟩:UI),(⟨#[45]⟩:UI)]else[(⟨#[42]⟩:UI),(⟨#[47]⟩:UI),(⟨#[37]⟩:UI)]
namespace Rd
section
variable (r:Rd)(e:Int)
@[go_sem] def Ez:(r.aE e).src=r.src:=by unfold aE;split<;>rfl
@[go_sem] def gL:(r.aE e).l=r.l:=by unfold aE;split<;>rfl
@[go_sem] def vm:(r.aE e).i=r.i:=by unfold aE;split<;>rfl
@[go_sem] def dN:(r.aE e).nodes=r.nodes:=by unfold aE;split<;>rfl
@[go_sem] def LN:(r.aE e).deep=r.deep:=by unfold aE;split<;>rfl
end
section
variable (r:Rd)
@[go_sem] def j8r:(r.inc.src=r.src)/\(r.inc.l=r.l)/\(r.inc.i=r.i+1)/\(r.inc.nodes=r.nodes)/\(r.inc.deep=r.deep)/\(r.inc.e=r.e)/\(r.inc.at_=r.at_)/\(r.up.src=r.src)/\(r.up.l=r.l)/\(r.up.i=r.i)/\(r.up.nodes=r.nodes)/\(r.up.deep=r.deep-1)/\(r.up.e=r.e)/\(r.up.at_=r.at_):=by and_intros<;>(intros;rfl)
end
def next(r:Rd)(level:Int):UI:=match (nE level).find? (fun s=>r.is s)with
 |some s=>s
 |none=>⟨#[]⟩
def n7(r:Rd):cA:=nth r.l (r.i+1).toNat
def calls(r:Rd):Bool:=r.kind 3 && decide (r.n7.kind=5) && decide (r.n7.text=(⟨#[40]⟩:UI))
def word(r:Rd):UI:=if r.kind 4=true then r.tok.text else⟨#[]⟩
end Rd
def wW(s:UI):Nat->Int
 |0=>0
 |k+1=>wW s k*10+(eO s k-48)
def pA(s:UI):Int:=wW s s.size
mutual
def qk:Nat->Rd->Rd×Int
 |0,r=>(r,0)
 |n+1,r=>
  if r.e≠0 then(r,0)
  else if r.tok.kind=1 then r.inc.put 1 r.cV (pA r.tok.text) ⟨#[]⟩ []
  else if r.tok.kind=2 then r.inc.put 3 r.cV 0 r.tok.text []
  else if r.tok.kind=3 then
   (if r.inc.is (⟨#[91]⟩:UI)=true then
    (((dT n 0 (r.inc.down.ap (⟨#[91]⟩:UI))).1.ap (⟨#[93]⟩:UI)).up).put 5 r.cV 0 r.tok.text [(dT n 0 (r.inc.down.ap (⟨#[91]⟩:UI))).2]
   else r.inc.put 4 r.cV 0 r.tok.text [])
  else if r.is (⟨#[116,114,117,101]⟩:UI)=true then r.inc.put 2 r.cV 1 ⟨#[]⟩ []
  else if r.is (⟨#[102,97,108,115,101]⟩:UI)=true then r.inc.put 2 r.cV 0 ⟨#[]⟩ []
  else if r.is (⟨#[108,101,110]⟩:UI)=true then
   (if r.inc.is (⟨#[40]⟩:UI)=true then
    (((dT n 0 (r.inc.down.ap (⟨#[40]⟩:UI))).1.ap (⟨#[41]⟩:UI)).up).put 6 r.cV 0 ⟨#[]⟩ [(dT n 0 (r.inc.down.ap (⟨#[40]⟩:UI))).2]
   else(r.inc.aE 20,0))
  else if r.is (⟨#[40]⟩:UI)=true then
   (((dT n 0 (r.down.ap (⟨#[40]⟩:UI))).1.ap (⟨#[41]⟩:UI)).up,(dT n 0 (r.down.ap (⟨#[40]⟩:UI))).2)
  else(r.aE 20,0)
def iF:Nat->Rd->Rd×Int
 |0,r=>(r,0)
 |n+1,r=>
  if r.is (⟨#[45]⟩:UI)=true then((iF n r.down.inc).1.up).put 7 r.cV 0 ⟨#[]⟩ [(iF n r.down.inc).2]
  else if r.is (⟨#[33]⟩:UI)=true then((iF n r.down.inc).1.up).put 8 r.cV 0 ⟨#[]⟩ [(iF n r.down.inc).2]
  else qk n r
def dT:Nat->Nat->Rd->Rd×Int
 |0,_,r=>(r,0)
 |n+1,lv,r=>if lv=5 then iF n r else oz n lv r.cV (dT n (lv+1) r)
def oz:Nat->Nat->Int->Rd×Int->Rd×Int
 |0,_,_,p=>p
 |n+1,lv,ln,p=>
  if p.1.next lv=⟨#[]⟩then p
  else if lv=2 then((dT n (lv+1) p.1.inc).1).put 9 ln 0 (p.1.next lv) [p.2,(dT n (lv+1) p.1.inc).2]
  else oz n lv ln (((dT n (lv+1) p.1.inc).1).put 9 ln 0 (p.1.next lv) [p.2,(dT n (lv+1) p.1.inc).2])
end
-- what is kept
def Rd.rem(r:Rd):Nat:=if r.e=0 then(r.l.length-r.i).toNat else 0
def Rd.dO(r:Rd):Int:=r.nodes.length+3*(r.l.length-r.i)+if r.e=0 then 1 else 0
def rj(s:UI):Prop:=0<s.size/\xg s=true/\∀j,j<s.size->j7 (eO s j)=true
structure Rd.Inv(r:Rd):Prop where
 src:r.src.size<=1000
 pos:0<=r.i
 lt:r.i<r.l.length
 len:r.l.length<=2000
 num:∀k,k<r.l.length->(nth r.l k).kind=1->rj (nth r.l k).text
 tk:∀k,k<r.l.length->(nth r.l k).kind≠0->k+1<r.l.length
 pd:0<=r.deep
 pL:r.deep<=17
 Lf:r.e=0->r.deep<=16
 dO:r.dO<=8000
structure Rd.St(r r':Rd):Prop where
 src:r'.src=r.src
 l:r'.l=r.l
 deep:r'.deep=r.deep
 i:r.i<=r'.i
 lt:r'.i<r.l.length
 dO:r'.dO<=r.dO
 err:r.e≠0->r'.e≠0
variable{r r':Rd}
def Rd.St.inv(s:Rd.St r r')(h:r.Inv):r'.Inv:=by
 obtain⟨s1,s2,s3,s4,s5,s6,s7⟩:=s;obtain⟨h1,h2,h3,h4,hn,h5,h6,h7,h8,h9⟩:=h;exact⟨by rw[s1];exact h1,jB,by rw[s2];exact s5,by rw[s2];exact h4,by rw[s2];exact hn,by rw[s2];exact h5,jB,jB,fun h=>by rw[s3];exact h8 (Classical.byContradiction fun e=>s7 e h),jB⟩
def Rd.St.refl(h:r.Inv):Rd.St r r:=⟨rfl,rfl,rfl,Int.le_refl _,h.lt,Int.le_refl _,id⟩
theorem Rd.St.trans{a b c:Rd}(h:Rd.St a b)(k:Rd.St b c):Rd.St a c:=
 ⟨k.src.trans h.src,k.l.trans h.l,k.deep.trans h.deep,Int.le_trans h.i k.i,by have:=k.lt;rw[h.l]at this;exact this,Int.le_trans k.dO h.dO,fun e=>k.err (h.err e)⟩
theorem Rd.St.rem{r r':Rd}(s:Rd.St r r'):r'.rem<=r.rem:=by
 unfold Rd.rem;have h1:=s.i;have h2:=s.l;by_cases e:r.e=0
 ·rw[if_pos e,h2];split<;>omega
 ·rw[if_neg e,if_neg (s.err e)];exact Nat.le_refl _
def Rd.behind(h:r.Inv)(hk:r.tok.kind≠0):r.i+1<r.l.length:=by have:=h.tk r.i.toNat (by have:=h.lt;have:=h.pos;omega) hk;have:=h.pos;omega
def Rd.aZ(h:r.is t=true):r.e=0/\r.tok.kind≠0:=by simp only[Rd.is,Bool.and_eq_true,Bool.or_eq_true,decide_eq_true_eq]at h;exact⟨h.1.1,by rcases h.1.2 with h|h<;>omega⟩
def Rd.dM{k:Int}(h:r.kind k=true)(h0:k≠0):r.e=0/\r.tok.kind≠0:=by simp only[Rd.kind,Bool.and_eq_true,decide_eq_true_eq]at h;exact⟨h.1,jB⟩
def Rd.fM(h:r.Inv)(e:Int)(he:e≠0):Rd.St r (r.aE e):=by
 refine⟨Ez _ _,gL _ _,LN _ _,by rw[vm];exact Int.le_refl _,by rw[vm];exact h.lt,?_,fun h1=>by unfold aE;rw[if_neg h1];exact h1⟩;unfold Rd.dO;rw[dN,gL,vm];by_cases e0:r.e=0
 ·have:(r.aE e).e=e:=by unfold aE;rw[if_pos e0]
  rw[this,if_pos e0,if_neg he];omega
 ·have:(r.aE e).e=r.e:=by unfold aE;rw[if_neg e0]
  rw[this];omega
def Rd.br(h:r.Inv)(hk:r.tok.kind≠0):Rd.St r r.inc/\r.inc.dO=r.dO-3:=by
 have:=Rd.behind h hk;have e:r.inc.dO=r.dO-3:=by simp only[Rd.dO,Rd.inc];omega
 exact⟨⟨rfl,rfl,rfl,by simp only[Rd.inc];omega,by simp only[Rd.inc];omega,jB,id⟩,e⟩
def Rd.aK(h:r.Inv)(t:UI):Rd.St r (r.ap t):=by
 unfold Rd.ap;split
 ·rename_i hs;exact(Rd.br h (Rd.aZ hs).2).1
 ·exact Rd.fM h 20 jC
def Rd.dr(h:r.Inv):Rd.St r r.name.1:=by
 unfold Rd.name;split
 ·rename_i hs;exact(Rd.br h (Rd.dM hs jC).2).1
 ·exact Rd.fM h 20 jC
def Rd.mm(r:Rd)(n:bq):(r.node n).dO=r.dO+1:=by simp only[Rd.dO,Rd.node,List.length_append,List.length_cons,List.length_nil];omega
def Rd.da(s:Rd.St r r')(hp:r'.dO+1<=r.dO)(k ln n:Int)(nm:UI)(L:UG):Rd.St r (r'.put k ln n nm L).1:=
 ⟨s.src,s.l,s.deep,s.i,s.lt,by show(r'.node _).dO<=_;rw[Rd.mm];exact hp,s.err⟩
def Rd.tO:r.down.e=(if 16<=r.deep then r.aE 21 else r).e:=rfl
def Rd.bK(h:r.Inv)(he:r.e=0):r.down.Inv/\r.down.dO<=r.dO/\r.down.i=r.i/\r.down.l=r.l/\r.down.src=r.src/\r.down.deep=r.deep+1:=by
 have hd:=h.Lf he;have hi:r.down.i=r.i:=by unfold Rd.down;split<;>simp[vm]
 have hl:r.down.l=r.l:=by unfold Rd.down;split<;>simp[gL]
 have hs:r.down.src=r.src:=by unfold Rd.down;split<;>simp[Ez]
 have hn:r.down.nodes=r.nodes:=by unfold Rd.down;split<;>simp[dN]
 have hdd:r.down.deep=r.deep+1:=rfl;have hee:r.down.e=0->r.deep<16:=fun e=>by
  rw[Rd.tO]at e;split at e
  ·unfold aE at e;rw[if_pos he]at e;cases e
  ·omega
 have hp:r.down.dO<=r.dO:=by unfold Rd.dO;rw[hn,hl,hi,if_pos he];split<;>omega
 refine⟨⟨by rw[hs];exact h.src,by rw[hi];exact h.pos,by rw[hi,hl];exact h.lt,by rw[hl];exact h.len,by rw[hl];exact h.num,by rw[hl];exact h.tk,by have:=h.pd;omega,jB,fun e=>by have:=hee e;omega,by have:=h.dO;omega⟩,hp,hi,hl,hs,hdd⟩
def Rd.fz(h:r.Inv)(he:r.e=0)(s:Rd.St r.down r'):Rd.St r r'.up:=by obtain⟨_,h1,h2,h3,h4,h5⟩:=Rd.bK h he;exact⟨s.src.trans h4,s.l.trans h3,by show r'.deep-1=_;rw[s.deep,h5];omega,by show r.i<=r'.i;rw[<-h2];exact s.i,by show r'.i<_;rw[<-h3];exact s.lt,by show r'.dO<=_;have:=s.dO;omega,fun e=>(e he).elim⟩
def Rd.lH{lv:Int}(h:r.next lv≠⟨#[]⟩):r.is (r.next lv)=true:=by
 unfold Rd.next at h ⊢;cases e:(nE lv).find? (fun s=>r.is s)with
 |none=>rw[e]at h;exact(h rfl).elim
 |some s=>exact List.find?_some e
def Rd.de(h:r.Inv)(hk:r.e=0/\r.tok.kind≠0):r.inc.rem+1<=r.rem:=by have:=Rd.behind h hk.2;unfold Rd.rem;rw[if_pos hk.1,if_pos (show r.inc.e=0 from hk.1)];have:r.inc.i=r.i+1:=rfl;have:r.inc.l=r.l:=rfl;simp only[*];omega
theorem tv:∀n,(∀r:Rd,r.Inv->Rd.St r (qk n r).1)/\(∀r:Rd,r.Inv->Rd.St r (iF n r).1)/\(∀lv (r:Rd),r.Inv->Rd.St r (dT n lv r).1)/\(∀lv ln (p:Rd×Int),p.1.Inv->Rd.St p.1 (oz n lv ln p).1)
 |0=>⟨fun r h=>by unfold qk;exact .refl h,fun r h=>by unfold iF;exact .refl h,fun lv r h=>by unfold dT;exact .refl h,fun lv ln p h=>by unfold oz;exact .refl h⟩
 |n+1=>by
  obtain⟨ia,lE,ic,il⟩:=tv n
  -- a token, and what is behind it, deeper
  have deeper:∀(r:Rd) (t u:UI),r.Inv->r.e=0->Rd.St r ((dT n 0 (r.down.ap t)).1.ap u).up:=fun r t u h he=>by have h1:=(Rd.bK h he).1;have s1:=Rd.aK h1 t;have s2:=ic 0 _ (s1.inv h1);have s12:=s1.trans s2;have s3:=Rd.aK (s12.inv h1) u;exact Rd.fz h he (s12.trans s3)
  refine⟨fun r h=>?_,fun r h=>?_,fun lv r h=>?_,fun lv ln p h=>?_⟩
  ·unfold qk;split
   ·exact .refl h
   rename_i he;have he:r.e=0:=jB;split
   ·rename_i hk;obtain⟨s1,e1⟩:=Rd.br h jB;exact Rd.da s1 jB _ _ _ _ _
   split
   ·rename_i hk;obtain⟨s1,e1⟩:=Rd.br h jB;exact Rd.da s1 jB _ _ _ _ _
   split
   ·rename_i hk;obtain⟨s1,e1⟩:=Rd.br h jB;split
    ·have s2:=deeper r.inc (⟨#[91]⟩:UI) (⟨#[93]⟩:UI) (s1.inv h) he;exact Rd.da (s1.trans s2) (by have:=s2.dO;omega) _ _ _ _ _
    ·exact Rd.da s1 jB _ _ _ _ _
   split
   ·rename_i hs;obtain⟨s1,e1⟩:=Rd.br h (Rd.aZ hs).2;exact Rd.da s1 jB _ _ _ _ _
   split
   ·rename_i hs;obtain⟨s1,e1⟩:=Rd.br h (Rd.aZ hs).2;exact Rd.da s1 jB _ _ _ _ _
   split
   ·rename_i hs;obtain⟨s1,e1⟩:=Rd.br h (Rd.aZ hs).2;split
    ·have s2:=deeper r.inc (⟨#[40]⟩:UI) (⟨#[41]⟩:UI) (s1.inv h) he;exact Rd.da (s1.trans s2) (by have:=s2.dO;omega) _ _ _ _ _
    ·exact s1.trans (Rd.fM (s1.inv h) 20 jC)
   split
   ·exact deeper r (⟨#[40]⟩:UI) (⟨#[41]⟩:UI) h he
   ·exact Rd.fM h 20 jC
  ·unfold iF;have sg:∀t,r.is t=true->∀k ln nm,Rd.St r (((iF n r.down.inc).1.up).put k ln 0 nm [(iF n r.down.inc).2]).1:=fun t ht k ln nm=>by
    obtain⟨he,hk⟩:=Rd.aZ ht;obtain⟨h1,h2,h3,h4,_⟩:=Rd.bK h he;have Wn:r.down.tok=r.tok:=by unfold Rd.tok;rw[h3,h4]
    obtain⟨s1,e1⟩:=Rd.br h1 (by rw[Wn];exact hk);have s2:=lE _ (s1.inv h1);exact Rd.da (Rd.fz h he (s1.trans s2)) (by have:=s2.dO;show(iF n r.down.inc).1.dO+1<=_;omega) _ _ _ _ _
   split
   ·rename_i ht;exact sg _ ht _ _ _
   split
   ·rename_i ht;exact sg _ ht _ _ _
   ·exact ia r h
  ·unfold dT;split
   ·exact lE r h
   ·have s1:=ic (lv+1) r h;exact s1.trans (il _ _ _ (s1.inv h))
  ·unfold oz;split
   ·exact .refl h
   rename_i hn;obtain⟨s1,e1⟩:=Rd.br h (Rd.aZ (Rd.lH hn)).2;have s2:=ic (lv+1) _ (s1.inv h);have s3:=fun L=>Rd.da (s1.trans s2) (by have:=s2.dO;omega) 9 ln 0 (p.1.next lv) L
   split
   ·exact s3 _
   ·exact(s3 _).trans (il _ _ _ ((s3 _).inv h))
def dh(r:Rd):Rd×Int:=dT (8*r.rem+8) 0 r
def ns:Nat->Bool->Rd->UG->Rd×UG
 |0,_,r,L=>(r,L)
 |_+1,false,r,L=>(r,L)
 |n+1,true,r,L=>if(dh r).1.is (⟨#[44]⟩:UI)=true then ns n true (dh r).1.inc (L++[(dh r).2])else((dh r).1,L++[(dh r).2])
def more(r:Rd):Bool:=!(r.is (⟨#[41]⟩:UI)) && decide (r.e=0)
def o4(r:Rd):Rd:=r.name.1.ap (⟨#[40]⟩:UI)
def nY(r:Rd):Rd×UG:=ns ((o4 r).rem+2) (more (o4 r)) (o4 r) []
def mT(r:Rd):Rd×Int:=((nY r).1.ap (⟨#[41]⟩:UI)).put 21 r.cV 0 r.name.2 (nY r).2
def lP(r:Rd):Rd×Int:=
 if r.is (⟨#[105,110,112,117,116]⟩:UI)=true then r.inc.put 19 r.cV 0 ⟨#[]⟩ []
 else if r.is (⟨#[110,101,119]⟩:UI)=true then((dh (r.inc.ap (⟨#[40]⟩:UI))).1.ap (⟨#[41]⟩:UI)).put 20 r.cV 0 ⟨#[]⟩ [(dh (r.inc.ap (⟨#[40]⟩:UI))).2]
 else if r.calls=true then mT r else dh r
def pe(r:Rd):Rd×Int:=dh (r.down.ap (⟨#[91]⟩:UI))
def vW(r:Rd):Rd×Int:=dh (((pe r).1.ap (⟨#[93]⟩:UI)).up.ap (⟨#[61]⟩:UI))
def pv(r:Rd)(ln:Int):Rd×Int:=
 if r.calls=true then((mT r).1.ap (⟨#[59]⟩:UI)).put 13 ln 0 ⟨#[]⟩ [(mT r).2]
 else if r.name.1.is (⟨#[91]⟩:UI)=true then((vW r.name.1).1.ap (⟨#[59]⟩:UI)).put 12 ln 0 r.name.2 [(pe r.name.1).2,(vW r.name.1).2]
 else((lP (r.name.1.ap (⟨#[61]⟩:UI))).1.ap (⟨#[59]⟩:UI)).put 11 ln 0 r.name.2 [(lP (r.name.1.ap (⟨#[61]⟩:UI))).2]
mutual
def gf:Nat->Rd->Rd×Int
 |0,r=>(r,0)
 |n+1,r=>
  if r.is (⟨#[123]⟩:UI)=true then((mQ n (r.down.ap (⟨#[123]⟩:UI)) []).1.ap (⟨#[125]⟩:UI)).up.put 18 r.cV 0 ⟨#[]⟩ (mQ n (r.down.ap (⟨#[123]⟩:UI)) []).2
  else(r.aE 20,0)
def mQ:Nat->Rd->UG->Rd×UG
 |0,r,L=>(r,L)
 |n+1,r,L=>if r.e=0/\r.is (⟨#[125]⟩:UI)=false then mQ n (nX n r).1 (L++[(nX n r).2])else(r,L)
def nX:Nat->Rd->Rd×Int
 |0,r=>(r,0)
 |n+1,r=>
  if r.word=(⟨#[108,101,116]⟩:UI)then((lP (r.inc.name.1.ap (⟨#[61]⟩:UI))).1.ap (⟨#[59]⟩:UI)).put 10 r.cV 0 r.inc.name.2 [(lP (r.inc.name.1.ap (⟨#[61]⟩:UI))).2]
  else if r.word=(⟨#[112,114,105,110,116]⟩:UI)then((dh r.inc).1.ap (⟨#[59]⟩:UI)).put 14 r.cV 0 ⟨#[]⟩ [(dh r.inc).2]
  else if r.word=(⟨#[119,104,105,108,101]⟩:UI)then(gf n (dh r.inc).1).1.put 16 r.cV 0 ⟨#[]⟩ [(dh r.inc).2,(gf n (dh r.inc).1).2]
  else if r.word=(⟨#[105,102]⟩:UI)then
   (if(gf n (dh r.inc).1).1.is (⟨#[101,108,115,101]⟩:UI)=true then(gf n (gf n (dh r.inc).1).1.inc).1.put 15 r.cV 0 ⟨#[]⟩ [(dh r.inc).2,(gf n (dh r.inc).1).2,(gf n (gf n (dh r.inc).1).1.inc).2]
   else(gf n (dh r.inc).1).1.put 15 r.cV 0 ⟨#[]⟩ [(dh r.inc).2,(gf n (dh r.inc).1).2])
  else if r.word=(⟨#[114,101,116,117,114,110]⟩:UI)then
   (if r.inc.is (⟨#[59]⟩:UI)=true then(r.inc.ap (⟨#[59]⟩:UI)).put 17 r.cV 0 ⟨#[]⟩ []
   else((dh r.inc).1.ap (⟨#[59]⟩:UI)).put 17 r.cV 0 ⟨#[]⟩ [(dh r.inc).2])
  else pv r r.cV
end
def oT(r:Rd):Rd×Int:=gf (4*r.rem+4) r
def sq(w:UI):Int:=if w=(⟨#[105,110,116]⟩:UI)then 1 else if w=(⟨#[98,111,111,108]⟩:UI)then 2 else if w=(⟨#[116,101,120,116]⟩:UI)then 3 else if w=(⟨#[108,105,115,116]⟩:UI)then 4 else 0
def iS(r:Rd):Rd×Int:=if sq r.word=0 then(r.aE 20,0)else(r.inc,sq r.word)
def pu(r:Rd):Rd:=(iS r.name.1).1
def mI:Nat->Bool->Rd->List bI->Rd×List bI
 |0,_,r,L=>(r,L)
 |_+1,false,r,L=>(r,L)
 |n+1,true,r,L=>if(pu r).is (⟨#[44]⟩:UI)=true then mI n true (pu r).inc (L++[⟨r.name.2,(iS r.name.1).2⟩])else(pu r,L++[⟨r.name.2,(iS r.name.1).2⟩])
def nF(r:Rd):Rd:=(r.ap (⟨#[102,110]⟩:UI)).name.1.ap (⟨#[40]⟩:UI)
def tB(r:Rd):Rd×List bI:=mI ((nF r).rem+2) (more (nF r)) (nF r) []
def lQ(r:Rd):Rd:=(tB r).1.ap (⟨#[41]⟩:UI)
def mA(r:Rd):Rd×Int:=if(lQ r).is (⟨#[123]⟩:UI)=true then(lQ r,0)else iS (lQ r)
def mX(r:Rd):Rd×bh:=((oT (mA r).1).1,⟨(r.ap (⟨#[102,110]⟩:UI)).name.2,r.cV,(tB r).2,(mA r).2,(oT (mA r).1).2⟩)
def qm:Nat->Rd->List bh->Rd×List bh
 |0,r,L=>(r,L)
 |n+1,r,L=>if r.e=0/\r.kind 0=false then qm n (mX r).1 (L++[(mX r).2])else(r,L)
def ou(s:UI):Rd:=⟨s,(kR s).1,0,[],0,0,0⟩
def nK(s:UI):Rd×List bh:=qm ((ou s).rem+1) (ou s) []
def uI(t:List bq)(L:List bh):Bool:=decide (300<t.length) || decide (6<L.length) || L.any fun f=>decide (3<f.params.length)
def gV(s:UI):aH×Int×Int:=
 if(kR s).2.2≠0 then(⟨[],[]⟩,(kR s).2.1,(kR s).2.2)
 else if(nK s).1.e≠0 then(⟨[],[]⟩,(nK s).1.at_,(nK s).1.e)
 else if uI (nK s).1.nodes (nK s).2=true then(⟨[],[]⟩,0,4)
 else(⟨(nK s).1.nodes,(nK s).2⟩,0,0)
-- what is kept
def Rd.St.tT(s:Rd.St r r')(h:r.Inv)(he:r.e=0)(hi:r.i+1<=r'.i):r'.rem+1<=r.rem:=by have h1:=s.l;have h2:=s.lt;have h3:=h.pos;unfold Rd.rem;rw[if_pos he,h1];split<;>omega
def Rd.St.lq(h:r.Inv)(he:r.e=0)(hi:r'.e≠0):r'.rem+1<=r.rem:=by have h2:=h.lt;have h3:=h.pos;unfold Rd.rem;rw[if_pos he,if_neg hi];omega
def Rd.gK{e:Int}(he:e≠0):(r.aE e).e≠0:=by
 unfold Rd.aE;split
 ·exact he
 ·assumption
def Rd.nV(h:r.Inv)(he:r.e=0)(t:UI):(r.ap t).rem+1<=r.rem/\(r.ap t).dO+1<=r.dO:=by
 unfold Rd.ap;split
 ·rename_i hs;have hk:=Rd.aZ hs;exact⟨Rd.de h hk,by rw[(Rd.br h hk.2).2];omega⟩
 ·have Zl:=Rd.gK (r:=r) (e:=20) jC;refine⟨Rd.St.lq h he Zl,?_⟩;unfold Rd.dO;rw[dN,gL,vm,if_pos he,if_neg Zl];omega
def Rd.q5(h:r.Inv)(he:r.e=0):r.name.1.rem+1<=r.rem/\r.name.1.dO+1<=r.dO:=by
 unfold Rd.name;split
 ·rename_i hs;have hk:=Rd.dM hs jC;exact⟨Rd.de h hk,by show r.inc.dO+1<=_;rw[(Rd.br h hk.2).2];omega⟩
 ·have Zl:=Rd.gK (r:=r) (e:=20) jC;refine⟨Rd.St.lq h he Zl,?_⟩;show(r.aE 20).dO+1<=_;unfold Rd.dO;rw[dN,gL,vm,if_pos he,if_neg Zl];omega
def Rd.gI(h:r.Inv)(ht:r.is t=true):(r.down.ap t).rem+1<=r.rem/\(r.down.ap t).dO+1<=r.dO:=by
 obtain⟨he,hk⟩:=Rd.aZ ht;obtain⟨h1,h2,h3,h4,h5,h6⟩:=Rd.bK h he;by_cases e:r.down.e=0
 ·obtain⟨a,b⟩:=Rd.nV h1 e t;have:r.down.rem<=r.rem:=by
   unfold Rd.rem;rw[if_pos he,if_pos e,h3,h4];exact Nat.le_refl _
  omega
 ·have hs:=Rd.aK h1 t;have e2:(r.down.ap t).e≠0:=hs.err e;refine⟨Rd.St.lq h he e2,?_⟩;have:r.down.dO+1<=r.dO:=by
   have hn:r.down.nodes=r.nodes:=by unfold Rd.down;split<;>simp[dN]
   unfold Rd.dO;rw[hn,h4,h3,if_pos he,if_neg e];omega
  have:=hs.dO;omega
def ka(h:r.Inv):Rd.St r (dh r).1:=(tv _).2.2.1 0 r h
theorem Bq:∀(n:Nat) (b:Bool) (r:Rd) (L:UG),r.Inv->Rd.St r (ns n b r L).1
 |0,_,r,L,h=>by unfold ns;exact .refl h
 |n+1,false,r,L,h=>by unfold ns;exact .refl h
 |n+1,true,r,L,h=>by
  have s1:=ka h;have h1:=s1.inv h;unfold ns;split
  ·rename_i hs;have s2:=(Rd.br h1 (Rd.aZ hs).2).1;exact(s1.trans s2).trans (Bq n _ _ _ (s2.inv h1))
  ·exact s1
def yD(h:r.Inv):Rd.St r (o4 r):=(Rd.dr h).trans (Rd.aK ((Rd.dr h).inv h) _)
def BY(h:r.Inv):Rd.St r (nY r).1:=(yD h).trans (Bq _ _ _ _ ((yD h).inv h))
def Mj(h:r.Inv):Rd.St r ((nY r).1.ap (⟨#[41]⟩:UI)):=(BY h).trans (Rd.aK ((BY h).inv h) _)
def Rd.jY(h:r.calls=true):r.kind 3=true:=by unfold Rd.calls at h;simp only[Bool.and_eq_true]at h;exact h.1.1
def Dk(h:r.Inv)(hc:r.calls=true):Rd.St r (mT r).1/\(mT r).1.dO+2<=r.dO/\(mT r).1.rem+1<=r.rem:=by
 have hk:=Rd.dM (Rd.jY hc) jC;have hn:r.name.1=r.inc:=by unfold Rd.name;rw[if_pos (Rd.jY hc)]
 obtain⟨s1,e1⟩:=Rd.br h hk.2;have h1:=s1.inv h;have s2:Rd.St r.inc ((nY r).1.ap (⟨#[41]⟩:UI)):=by
  have a1:Rd.St r.inc (o4 r):=by unfold o4;rw[hn];exact Rd.aK h1 _
  have a2:Rd.St r.inc (nY r).1:=a1.trans (Bq _ _ _ _ (a1.inv h1));exact a2.trans (Rd.aK (a2.inv h1) _)
 have hp:=s2.dO;have s3:=Rd.da (s1.trans s2) jB 21 r.cV 0 r.name.2 (nY r).2;refine⟨s3,?_,?_⟩
 ·show(((nY r).1.ap (⟨#[41]⟩:UI)).node _).dO+2<=_;rw[Rd.mm];omega
 ·refine s3.tT h hk.1 ?_;have:=s2.i;exact this
def zf(h:r.Inv):Rd.St r (lP r).1:=by
 unfold lP;split
 ·rename_i hs;obtain⟨s1,e1⟩:=Rd.br h (Rd.aZ hs).2;exact Rd.da s1 jB _ _ _ _ _
 split
 ·rename_i hs;obtain⟨s1,e1⟩:=Rd.br h (Rd.aZ hs).2;have h1:=s1.inv h;have s2:=Rd.aK h1 (⟨#[40]⟩:UI);have s3:=ka (s2.inv h1);have s23:=s2.trans s3;have s4:=s23.trans (Rd.aK (s23.inv h1) (⟨#[41]⟩:UI));exact Rd.da (s1.trans s4) (by have:=s4.dO;omega) _ _ _ _ _
 split
 ·rename_i hc;exact(Dk h hc).1
 ·exact ka h
def Dw(h:r.Inv)(hs:r.is (⟨#[91]⟩:UI)=true):Rd.St r.down (pe r).1/\Rd.St r ((pe r).1.ap (⟨#[93]⟩:UI)).up:=by have he:=(Rd.aZ hs).1;have h1:=(Rd.bK h he).1;have s1:=Rd.aK h1 (⟨#[91]⟩:UI);have s2:=s1.trans (ka (s1.inv h1));exact⟨s2,Rd.fz h he (s2.trans (Rd.aK (s2.inv h1) _))⟩
def yY(h:r.Inv)(hs:r.is (⟨#[91]⟩:UI)=true):Rd.St r (((pe r).1.ap (⟨#[93]⟩:UI)).up.ap (⟨#[61]⟩:UI))/\Rd.St r (vW r).1:=by have s1:=(Dw h hs).2;have s2:=s1.trans (Rd.aK (s1.inv h) (⟨#[61]⟩:UI));exact⟨s2,s2.trans (ka (s2.inv h))⟩
def LI(h:r.Inv)(he:r.e=0)(ln:Int):Rd.St r (pv r ln).1/\(pv r ln).1.rem+1<=r.rem:=by
 unfold pv;have s0:=Rd.dr h;have h0:=s0.inv h;obtain⟨n1,n2⟩:=Rd.q5 h he
 -- a name, and what is behind it
 have fin:∀(q:Rd) k L,Rd.St r.name.1 q->Rd.St r (q.put k ln 0 r.name.2 L).1/\(q.put k ln 0 r.name.2 L).1.rem+1<=r.rem:=fun q k L s=>by refine⟨Rd.da (s0.trans s) (by have:=s.dO;omega) _ _ _ _ _,?_⟩;have:=s.rem;show q.rem+1<=_;omega
 split
 ·rename_i hc;obtain⟨s1,p1,r1⟩:=Dk h hc;have s2:=Rd.aK (s1.inv h) (⟨#[59]⟩:UI);refine⟨Rd.da (s1.trans s2) (by have:=s2.dO;omega) _ _ _ _ _,?_⟩;have:=s2.rem;show((mT r).1.ap (⟨#[59]⟩:UI)).rem+1<=_;omega
 split
 ·rename_i hs;have s1:=(yY h0 hs).2;exact fin _ _ _ (s1.trans (Rd.aK (s1.inv h0) _))
 ·have s1:=Rd.aK h0 (⟨#[61]⟩:UI);have s2:=s1.trans (zf (s1.inv h0));exact fin _ _ _ (s2.trans (Rd.aK (s2.inv h0) _))
def Rd.gS{w:UI}(h:r.word=w)(h0:w≠⟨#[]⟩):r.kind 4=true:=by
 unfold Rd.word at h;split at h
 ·assumption
 ·exact absurd h.symm h0
theorem sZ:∀n,(∀r:Rd,r.Inv->Rd.St r (gf n r).1)/\(∀(r:Rd) L,r.Inv->Rd.St r (mQ n r L).1)/\(∀r:Rd,r.Inv->r.e=0->0<n->Rd.St r (nX n r).1/\(nX n r).1.rem+1<=r.rem)
 |0=>⟨fun r h=>by unfold gf;exact .refl h,fun r L h=>by unfold mQ;exact .refl h,fun r h he hn=>by omega⟩
 |n+1=>by
  obtain⟨ib,is,it⟩:=sZ n;refine⟨fun r h=>?_,fun r L h=>?_,fun r h he _=>?_⟩
  ·unfold gf;split
   ·rename_i hs;have he:=(Rd.aZ hs).1;have h1:=(Rd.bK h he).1;have s1:=Rd.aK h1 (⟨#[123]⟩:UI);have s2:=is _ [] (s1.inv h1);have s12:=s1.trans s2;have s3:=Rd.aK (s12.inv h1) (⟨#[125]⟩:UI);have hp:=(Rd.gI h hs).2;refine Rd.da (Rd.fz h he (s12.trans s3)) ?_ _ _ _ _ _;have:=s2.dO;have:=s3.dO;show((mQ n (r.down.ap (⟨#[123]⟩:UI)) []).1.ap (⟨#[125]⟩:UI)).dO+1<=_;omega
   ·exact Rd.fM h 20 jC
  ·unfold mQ;split
   ·rename_i hc;cases n with
    |zero=>unfold mQ nX;exact .refl h
    |succ n=> have s1:=(it r h hc.1 jB).1;exact s1.trans (is _ _ (s1.inv h))
   ·exact .refl h
  ·-- a word, and what is behind it
   have fin:∀(w:UI) (q:Rd) k ln nm L,w≠⟨#[]⟩->r.word=w->(r.inc.Inv->Rd.St r.inc q)->Rd.St r (q.put k ln 0 nm L).1/\(q.put k ln 0 nm L).1.rem+1<=r.rem:=fun w q k ln nm L h0 hw s=>by have hk:=Rd.dM (Rd.gS hw h0) jC;obtain⟨s1,e1⟩:=Rd.br h hk.2;have s2:=s (s1.inv h);refine⟨Rd.da (s1.trans s2) (by have:=s2.dO;omega) _ _ _ _ _,?_⟩;have:=s2.rem;have:=Rd.de h hk;show q.rem+1<=_;omega
   unfold nX;split
   ·rename_i hw;refine fin _ _ _ _ _ _ jC hw fun h1=>?_
    have s1:=Rd.dr h1;have s2:=s1.trans (Rd.aK (s1.inv h1) (⟨#[61]⟩:UI));have s3:=s2.trans (zf (s2.inv h1));exact s3.trans (Rd.aK (s3.inv h1) _)
   split
   ·rename_i hw;refine fin _ _ _ _ _ _ jC hw fun h1=>?_
    have s1:=ka h1;exact s1.trans (Rd.aK (s1.inv h1) _)
   split
   ·rename_i hw;refine fin _ _ _ _ _ _ jC hw fun h1=>?_
    have s1:=ka h1;exact s1.trans (ib _ (s1.inv h1))
   split
   ·rename_i hw;split
    ·rename_i hs;refine fin _ _ _ _ _ _ jC hw fun h1=>?_
     have s1:=ka h1;have s2:=s1.trans (ib _ (s1.inv h1));have h2:=s2.inv h1;have s3:=(Rd.br h2 (Rd.aZ hs).2).1;exact(s2.trans s3).trans (ib _ (s3.inv h2))
    ·refine fin _ _ _ _ _ _ jC hw fun h1=>?_
     have s1:=ka h1;exact s1.trans (ib _ (s1.inv h1))
   split
   ·rename_i hw;split
    ·exact fin _ _ _ _ _ _ jC hw fun h1=>Rd.aK h1 _
    ·refine fin _ _ _ _ _ _ jC hw fun h1=>?_
     have s1:=ka h1;exact s1.trans (Rd.aK (s1.inv h1) _)
   ·exact LI h he _
def AY(h:r.Inv):Rd.St r (oT r).1:=(sZ _).1 r h
def O3(h:sq r.word≠0):r.e=0/\r.tok.kind≠0:=by refine Rd.dM (k:=4) (Rd.gS (r:=r) rfl fun e=>?_) jC;rw[e]at h;exact h jC
def G1(h:r.Inv):Rd.St r (iS r).1:=by
 unfold iS;split
 ·exact Rd.fM h 20 jC
 ·rename_i ht;exact(Rd.br h (O3 ht).2).1
def DK(h:r.Inv):Rd.St r (pu r):=(Rd.dr h).trans (G1 ((Rd.dr h).inv h))
theorem Ju:∀(n:Nat) (b:Bool) (r:Rd) (L:List bI),r.Inv->Rd.St r (mI n b r L).1
 |0,_,r,L,h=>by unfold mI;exact .refl h
 |n+1,false,r,L,h=>by unfold mI;exact .refl h
 |n+1,true,r,L,h=>by
  have s1:=DK h;have h1:=s1.inv h;unfold mI;split
  ·rename_i hs;have s2:=(Rd.br h1 (Rd.aZ hs).2).1;exact(s1.trans s2).trans (Ju n _ _ _ (s2.inv h1))
  ·exact s1
def qw(h:r.Inv):Rd.St r (r.ap (⟨#[102,110]⟩:UI))/\Rd.St r (r.ap (⟨#[102,110]⟩:UI)).name.1/\Rd.St r (nF r)/\Rd.St (r.ap (⟨#[102,110]⟩:UI)) (nF r):=by have s1:=Rd.aK h (⟨#[102,110]⟩:UI);have h1:=s1.inv h;have s2:=Rd.dr h1;have s3:=s2.trans (Rd.aK (s2.inv h1) (⟨#[40]⟩:UI));exact⟨s1,s1.trans s2,s1.trans s3,s3⟩
def Dv(h:r.Inv):Rd.St (r.ap (⟨#[102,110]⟩:UI)) (tB r).1:=(qw h).2.2.2.trans (Ju _ _ _ _ ((qw h).2.2.1.inv h))
def Al(h:r.Inv):Rd.St (r.ap (⟨#[102,110]⟩:UI)) (lQ r):=(Dv h).trans (Rd.aK ((Dv h).inv ((qw h).1.inv h)) _)
def zr(h:r.Inv):Rd.St (r.ap (⟨#[102,110]⟩:UI)) (mA r).1:=by
 unfold mA;split
 ·exact Al h
 ·exact(Al h).trans (G1 ((Al h).inv ((qw h).1.inv h)))
def Jl(h:r.Inv):Rd.St r (mX r).1/\(r.e=0->(mX r).1.rem+1<=r.rem):=by have h1:=(qw h).1.inv h;have s:=(zr h).trans (AY ((zr h).inv h1));refine⟨(qw h).1.trans s,fun he=>?_⟩;have:=(Rd.nV h he (⟨#[102,110]⟩:UI)).1;have:(oT (mA r).1).1.rem<=_:=s.rem;show(oT (mA r).1).1.rem+1<=_;omega
def RZ{e:Nat}(he:e<=s.size)(hj:a+j<e):eO (s.extract a e) (j:Nat)=eO s ((a+j:Nat):Int):=by unfold eO;have h1:(s.extract a e).data=s.data.extract a e:=jE;rw[h1];simp only[Int.toNat_natCast];have hs:e<=s.data.size:=he;rw[Array.getElem?_extract];rw[jP]
def SN(ha:a<s.size)(h:(io s a).2.2=0):(io s a).1.kind≠0/\((io s a).1.kind=1->rj (io s a).1.text):=by
 unfold io at h ⊢;split at h<;>rename_i h1
 ·rw[if_pos h1];split at h<;>rename_i h2
  ·rw[if_pos h2];refine⟨fun e=>(by cases e),fun _=>?_⟩;have hb:=(vf (p:=j7) (s:=s) (i:=a) jB).2;have hp:=xi ha h1;have Uu:(s.extract a (iO j7 s a)).size=iO j7 s a-a:=by rw[ByteArray.size_extract];omega
   refine⟨by show 0<(s.extract a (iO j7 s a)).size;omega,h2,fun j hj=>?_⟩;have hj:j<(s.extract a (iO j7 s a)).size:=hj;show j7 (eO (s.extract a (iO j7 s a)) j)=true;rw[RZ hb jB];exact D6 (n:=s.size+1) (i:=a) jB (by show _<iO j7 s a;omega)
  ·cases h
 ·rw[if_neg h1];split at h<;>rename_i h2
  ·rw[if_pos h2];split at h<;>rename_i h3
   ·rw[if_pos h3];exact⟨fun e=>(by cases e),fun e=>(by cases e)⟩
   ·rw[if_neg h3];split at h<;>rename_i h4
    ·cases h
    ·rw[if_neg h4];exact⟨fun e=>(by cases e),fun e=>(by cases e)⟩
  ·rw[if_neg h2];split at h<;>rename_i h3
   ·rw[if_pos h3];exact⟨fun e=>(by cases e),fun e=>(by cases e)⟩
   ·rw[if_neg h3];split at h<;>rename_i h4
    ·cases h
    ·rw[if_neg h4];exact⟨fun e=>(by cases e),fun e=>(by cases e)⟩
def Di(t:cA):Prop:=t.kind≠0/\(t.kind=1->rj t.text)
theorem EW(s:UI):∀(n i:Nat) (out:List cA),s.size<n+i->i<=s.size->(lr s n i out).2.2=0->out.length<=i->(∀t∈out,Di t)->∃ts,(lr s n i out).1=ts++[⟨0,⟨#[]⟩,s.size⟩]/\ts.length<=s.size/\∀t∈ts,Di t
 |0,i,out,h1,h2,_,_,_=>by omega
 |n+1,i,out,h1,h2,he,hl,ho=>by
  unfold lr at he ⊢;split at he<;>rename_i hi
  ·rw[if_pos hi];split at he<;>rename_i h3
   ·rw[if_pos h3];obtain⟨e,h4,h5,h6⟩:=zo hi h3;rw[h4,Int.toNat_natCast]at he ⊢;have:=uY (s:=s) (i:=e) h6;refine EW s n _ _ jB this.2 he (by rw[List.length_append];simp;omega) fun t ht=>?_
    rcases List.mem_append.1 ht with ht|ht
    ·exact ho t ht
    ·rw[List.mem_singleton.1 ht];exact SN hi h3
   ·exact(h3 he).elim
  ·rw[if_neg hi];exact⟨out,rfl,jB,ho⟩
def Ob(he:(kR s).2.2=0):s.size<=600/\∃ts,(kR s).1=ts++[⟨0,⟨#[]⟩,s.size⟩]/\ts.length<=s.size/\∀t∈ts,Di t:=by
 unfold kR at he ⊢;split at he<;>rename_i h
 ·cases he
 ·rw[if_neg h];have h0:=uY (s:=s) (i:=0) (Nat.zero_le _);exact⟨jB,EW s (s.size+1) _ _ jB h0.2 he jE fun t ht=>by simp at ht⟩
def TP[Inhabited α]{l m:List α}(h:k<l.length):nth (l++m) k=nth l k:=by simp only[nth,List.getD_eq_getElem?_getD,List.getElem?_append_left h]
def ff[Inhabited α]{l:List α}(h:k<l.length):nth l k∈l:=by rw[fO h];exact List.getElem_mem h
def F8(he:(kR s).2.2=0):(ou s).Inv:=by
 obtain⟨h0,ts,h1,h2,h3⟩:=Ob he;have hl:(ou s).l=ts++[⟨0,⟨#[]⟩,s.size⟩]:=h1;have hn:(ou s).l.length=ts.length+1:=by rw[hl];simp
 have Uv:nth (ts++[⟨0,⟨#[]⟩,s.size⟩]:List cA) ts.length=⟨0,⟨#[]⟩,s.size⟩:=by simp[nth]
 refine⟨by show s.size<=1000;omega,Int.le_refl _,by show(0:Int)<_;omega,jB,fun k hk U8=>?_,fun k hk U8=>?_,Int.le_refl _,by show(0:Int)<=17;decide,fun _=>by show(0:Int)<=16;decide,?_⟩
 ·rw[hl]at U8 ⊢;by_cases e:k<ts.length
  ·rw[TP e]at U8 ⊢;exact(h3 _ (ff e)).2 U8
  ·have:k=ts.length:=jB;subst this;rw[Uv]at U8;cases U8
 ·by_cases e:k<ts.length
  ·omega
  ·have:k=ts.length:=jB;subst this;rw[hl,Uv]at U8;exact(U8 rfl).elim
 ·show((0:Nat):Int)+3*((ou s).l.length-0)+1<=8000;omega
end Go.Gd
namespace Go.Proofs.YtijdhbokcdpklaaGreatDoor
open Go Go.Gd Tryz
@[go_sem] def qgl:dc prog 3=some 1/\dH prog 3=some false/\dR prog 3=some [.int .i64 0]/\gW prog 3=false/\td prog 3=false/\x8 prog 3=false/\AH prog 3=some .i64/\j4 prog 3=8/\dH prog 4=some false/\gW prog 4=false/\td prog 4=false/\x8 prog 4=true/\dc prog 5=some 1/\dH prog 5=some false/\dc prog 9=some 1/\dH prog 9=some false/\dR prog 9=some [.string ⟨#[]⟩]/\sU prog 9=true/\j4 prog 9=16/\iv prog 22=some 7/\gW prog 22=true/\dc prog 24=some 1/\dH prog 24=some false/\ir prog 24=some 66:=by and_intros<;>kernel_rfl
@[go_sem] def qe8:iv prog 24=some 5/\gW prog 24=true/\dc prog 25=some 1/\dH prog 25=some false/\ir prog 25=some 98/\iv prog 25=some 5/\gW prog 25=true/\dc prog 27=some 2/\dH prog 27=some true/\dR prog 27=some [.slice none 0 0,.slice none 0 0]/\cB prog 27 0=some 0/\cB prog 27 1=some 1/\jf prog 27=some [(0,1),(1,1)]/\dc prog 28=some 1/\dH prog 28=some false/\dR prog 28=some [.slice none 0 0]/\ir prog 28=some 3/\iv prog 28=some 1/\gW prog 28=true/\j4 prog 28=24/\dc prog 30=some 6/\dH prog 30=some true/\dR prog 30=some [.slice none 0 0,.slice none 0 0,.slice none 0 0,.slice none 0 0,.slice none 0 0,.slice none 0 0]/\cB prog 30 0=some 0:=by and_intros<;>kernel_rfl
@[go_sem] def j7J:cB prog 30 1=some 2/\cB prog 30 2=some 3/\cB prog 30 3=some 4/\cB prog 30 4=some 5/\jf prog 30=some [(0,2),(2,1),(3,1),(4,1),(5,1)]/\dc prog 31=some 1/\dH prog 31=some false/\dc prog 35=some 1/\dH prog 35=some false/\ir prog 35=some 49/\iv prog 35=some 4/\gW prog 35=true/\dc prog 37=some 3/\dH prog 37=some true/\dR prog 37=some [.slice none 0 0,.int .i64 0,.int .i64 0]/\cB prog 37 0=some 0/\cB prog 37 1=some 1/\cB prog 37 2=some 2/\jf prog 37=some [(0,1),(1,1),(2,1)]/\dc prog 42=some 3/\dH prog 42=some true/\dR prog 42=some [.int .i64 0,.int .i64 0,.string ⟨#[]⟩]/\cB prog 42 0=some 0/\cB prog 42 1=some 1:=by and_intros<;>kernel_rfl
@[go_sem] def j8n:wm prog 42 1=some (3,1)/\cB prog 42 2=some 2/\jf prog 42=some [(0,1),(1,1),(2,1)]/\j4 prog 42=32/\dc prog 44=some 7/\dH prog 44=some true/\dR prog 44=some [.int .u8 0,.int .i64 0,.string ⟨#[]⟩,.string ⟨#[]⟩,.int .i64 0,.int .i64 0,.string ⟨#[]⟩]/\cB prog 44 0=some 0/\cB prog 44 1=some 1/\cB prog 44 2=some 2/\cB prog 44 3=some 3/\cB prog 44 4=some 4/\dc prog 47=some 1/\dH prog 47=some false/\dR prog 47=some [.slice none 0 0]/\ir prog 47=some 87/\iv prog 47=some 5/\gW prog 47=true/\dc prog 49=some 4/\dH prog 49=some true/\dR prog 49=some [.string ⟨#[]⟩,.slice none 0 0,.slice none 0 0,.slice none 0 0]/\cB prog 49 0=some 0/\cB prog 49 1=some 1/\cB prog 49 2=some 2:=by and_intros<;>kernel_rfl
@[go_sem] def j71:cB prog 49 3=some 3/\jf prog 49=some [(0,1),(1,1),(2,1),(3,1)]/\j4 prog 49=88/\cB prog 56 0=some 0/\cB prog 56 1=some 1/\dc prog 66=some 5/\dH prog 66=some true/\dR prog 66=some [.int .i64 0,.int .i64 0,.int .i64 0,.string ⟨#[]⟩,.slice none 0 0]/\cB prog 66 0=some 0/\cB prog 66 1=some 1/\cB prog 66 2=some 2/\cB prog 66 3=some 3/\cB prog 66 4=some 4/\wm prog 66 4=some (28,4)/\jf prog 66=some [(0,1),(1,1),(2,1),(3,1),(4,1)]/\j4 prog 66=64/\dc prog 87=some 5/\dH prog 87=some true/\dR prog 87=some [.int .i64 0,.string ⟨#[]⟩,.int .i64 0,.int .i64 0,.string ⟨#[]⟩]/\cB prog 87 0=some 0/\cB prog 87 1=some 1/\cB prog 87 2=some 2/\jf prog 87=some [(0,1),(1,1),(2,3)]/\zn prog 87=some [.int .i64,.str,.int .i64,.int .i64,.str]:=by and_intros<;>kernel_rfl
@[go_sem] def qdt:j4 prog 87=56/\dc prog 89=some 1/\dH prog 89=some false/\ir prog 89=some 133/\iv prog 89=some 3/\dR prog 94=some [.string ⟨#[]⟩,.slice none 0 0,.int .i64 0,.slice none 0 0,.int .i64 0,.int .i64 0,.int .i64 0]/\cB prog 94 0=some 0/\cB prog 94 1=some 1/\cB prog 94 2=some 2/\cB prog 94 3=some 3/\cB prog 94 4=some 4/\cB prog 94 5=some 5/\cB prog 94 6=some 6/\jf prog 94=some [(0,1),(1,1),(2,1),(3,1),(4,1),(5,1),(6,1)]/\dc prog 95=some 1/\dH prog 95=some false/\dR prog 95=some [.nilFunc]/\dc prog 96=some 1/\dH prog 96=some false/\ir prog 96=some 140/\iv prog 96=some 2/\gW prog 96=true/\dc prog 98=some 5/\dH prog 98=some true:=by and_intros<;>kernel_rfl
@[go_sem] def qf9:dR prog 98=some [.string ⟨#[]⟩,.int .i64 0,.slice none 0 0,.int .i64 0,.int .i64 0]/\cB prog 98 0=some 0/\cB prog 98 2=some 2/\cB prog 98 3=some 3/\cB prog 98 4=some 4/\jf prog 98=some [(0,1),(1,1),(2,1),(3,1),(4,1)]/\j4 prog 98=64/\dc prog 101=some 1/\dH prog 101=some false/\dR prog 101=some [.slice none 0 0]/\ir prog 101=some 144/\iv prog 101=some 3/\gW prog 101=true/\dR prog 103=some [.slice none 0 0,.slice none 0 0,.slice none 0 0,.slice none 0 0,.slice none 0 0,.slice none 0 0,.int .i64 0,.slice none 0 0,.int .i64 0,.int .i64 0,.int .i64 0]/\cB prog 103 0=some 0/\cB prog 103 1=some 6/\cB prog 103 2=some 7/\cB prog 103 3=some 8/\cB prog 103 4=some 9/\cB prog 103 5=some 10/\jf prog 103=some [(0,6),(6,1),(7,1),(8,1),(9,1),(10,1)]/\dc prog 110=some 1/\dH prog 110=some false/\ir prog 110=some 179:=by and_intros<;>kernel_rfl
@[go_sem] def qbm:iv prog 110=some 3/\gW prog 110=true/\ir prog 111=some 28/\dc prog 112=some 1/\dH prog 112=some false/\ir prog 112=some 9/\iv prog 112=some 1/\gW prog 112=true/\dc prog 114=some 7/\dH prog 114=some true/\dR prog 114=some [.slice none 0 0,.slice none 0 0,.int .i64 0,.slice none 0 0,.int .i64 0,.int .i64 0,.int .i64 0]/\cB prog 114 0=some 0/\cB prog 114 2=some 2/\cB prog 114 4=some 4/\cB prog 114 6=some 6/\wm prog 114 6=some (3,6)/\jf prog 114=some [(0,1),(1,1),(2,1),(3,1),(4,1),(5,1),(6,1)]/\ir prog 121=some 47/\iv prog 121=some 1/\gW prog 121=true/\dc prog 125=some 1/\dH prog 125=some false/\dc prog 133=some 3/\dH prog 133=some true:=by and_intros<;>kernel_rfl
@[go_sem] def qcL:dR prog 133=some [.int .i64 0,.string ⟨#[]⟩,.int .i64 0]/\cB prog 133 0=some 0/\cB prog 133 1=some 1/\cB prog 133 2=some 2/\jf prog 133=some [(0,1),(1,1),(2,1)]/\j4 prog 133=32/\dc prog 140=some 2/\dH prog 140=some true/\dR prog 140=some [.string ⟨#[]⟩,.int .i64 0]/\cB prog 140 0=some 0/\cB prog 140 1=some 1/\jf prog 140=some [(0,1),(1,1)]/\j4 prog 140=24/\dc prog 144=some 3/\dH prog 144=some true/\dR prog 144=some [.string ⟨#[]⟩,.int .i64 0,.int .i64 0]/\cB prog 144 0=some 0/\cB prog 144 1=some 1/\cB prog 144 2=some 2/\jf prog 144=some [(0,1),(1,1),(2,1)]/\j4 prog 144=32/\Aj prog 155=false/\dR prog 158=some [.slice none 0 0,.slice none 0 0,.slice none 0 0,.slice none 0 0,.slice none 0 0,.slice none 0 0,.pointer none,.slice none 0 0]/\cB prog 158 0=some 0:=by and_intros<;>kernel_rfl
@[go_sem] def j6b:cB prog 158 1=some 6/\cB prog 158 2=some 7/\jf prog 158=some [(0,6),(6,1),(7,1)]/\dc prog 160=some 1/\dH prog 160=some false/\ir prog 160=some 176/\iv prog 160=some 4/\gW prog 160=true/\dc prog 162=some 2/\dH prog 162=some true/\dR prog 162=some [.slice none 0 0,.slice none 0 0]/\cB prog 162 0=some 0/\cB prog 162 1=some 1/\jf prog 162=some [(0,1),(1,1)]/\dc prog 163=some 1/\dH prog 163=some false/\ir prog 163=some 169/\iv prog 163=some 1/\gW prog 163=true/\dc prog 164=some 1/\dH prog 164=some false/\dR prog 166=some [.slice none 0 0,.slice none 0 0,.slice none 0 0,.slice none 0 0,.slice none 0 0,.slice none 0 0,.slice none 0 0,.slice none 0 0,.slice none 0 0,.pointer none,.slice none 0 0,.int .i64 0,.int .i64 0,.int .i64 0,.int .i64 0]/\cB prog 166 0=some 0/\cB prog 166 1=some 6:=by and_intros<;>kernel_rfl
@[go_sem] def j6h:cB prog 166 2=some 8/\cB prog 166 3=some 9/\cB prog 166 4=some 10/\cB prog 166 5=some 11/\cB prog 166 6=some 12/\cB prog 166 7=some 13/\cB prog 166 8=some 14/\jf prog 166=some [(0,6),(6,2),(8,1),(9,1),(10,1),(11,1),(12,1),(13,1),(14,1)]/\dc prog 169=some 1/\dH prog 169=some false/\dR prog 169=some [.pointer none]/\j4 prog 169=8/\dc prog 170=some 1/\dH prog 170=some false/\ir prog 170=some 42/\iv prog 170=some 3/\gW prog 170=true/\sU prog 170=false/\cB prog 172 0=some 0/\dR prog 174=some [.slice none 0 0,.int .i64 0,.int .i64 0,.int .i64 0,.slice none 0 0]/\cB prog 174 0=some 0/\cB prog 174 1=some 1/\cB prog 174 2=some 2/\cB prog 174 3=some 3:=by and_intros<;>kernel_rfl
@[go_sem] def j6t:cB prog 174 4=some 4/\jf prog 174=some [(0,1),(1,1),(2,1),(3,1),(4,1)]/\dc prog 176=some 4/\dH prog 176=some true/\dR prog 176=some [.int .i64 0,.int .i64 0,.int .i64 0,.string ⟨#[]⟩]/\cB prog 176 0=some 0/\cB prog 176 1=some 1/\cB prog 176 2=some 2/\cB prog 176 3=some 3/\jf prog 176=some [(0,1),(1,1),(2,1),(3,1)]/\j4 prog 176=40/\dc prog 179=some 3/\dR prog 179=some [.int .i64 0,.int .i64 0,.slice none 0 0]/\cB prog 179 1=some 1/\jf prog 179=some [(0,1),(1,1),(2,1)]/\j4 prog 179=40/\dR prog 196=some [.slice none 0 0,.slice none 0 0]/\cB prog 196 0=some 0/\cB prog 196 1=some 1/\jf prog 196=some [(0,1),(1,1)]/\dc prog 202=some 7/\dR prog 202=some [.slice none 0 0,.slice none 0 0,.slice none 0 0,.slice none 0 0,.slice none 0 0,.slice none 0 0,.slice none 0 0]/\cB prog 202 0=some 0/\cB prog 202 1=some 6:=by and_intros<;>kernel_rfl
@[go_sem] def qbW:jf prog 202=some [(0,6),(6,1)]/\aS prog 5=true/\aS prog 6=true/\aS prog 7=true/\aS prog 8=true/\aS prog 9=true/\aS prog 10=true/\aS prog 11=true/\aS prog 12=true/\aS prog 13=true/\aS prog 14=true/\aS prog 15=true/\aS prog 16=true/\aS prog 17=true/\aS prog 18=true/\aS prog 19=true/\aS prog 20=true/\aS prog 21=true/\aS prog 22=true/\aS prog 23=true/\aS prog 24=true/\aS prog 25=true/\aS prog 26=true/\aS prog 27=true:=by and_intros<;>kernel_rfl
@[go_sem] def qdO:aS prog 28=true/\aS prog 29=true/\aS prog 30=true/\aS prog 31=true/\aS prog 32=true/\aS prog 33=true/\aS prog 34=true/\aS prog 35=true/\aS prog 36=true/\aS prog 37=true/\aS prog 38=true/\aS prog 39=true/\aS prog 40=true/\aS prog 41=true/\aS prog 42=true/\aS prog 43=true/\aS prog 44=true/\aS prog 45=true/\aS prog 46=true/\aS prog 47=true/\aS prog 48=true/\aS prog 49=true/\aS prog 50=true/\aS prog 51=true:=by and_intros<;>kernel_rfl
@[go_sem] def qec:aS prog 52=true/\aS prog 53=true/\aS prog 54=true/\aS prog 56=true/\aS prog 57=true/\aS prog 58=true/\aS prog 59=true/\aS prog 60=true/\aS prog 61=true/\aS prog 62=true/\aS prog 63=true/\aS prog 64=true/\aS prog 65=true/\aS prog 66=true/\aS prog 67=true/\aS prog 68=true/\aS prog 69=true/\aS prog 70=true/\aS prog 71=true/\aS prog 72=true/\aS prog 73=true/\aS prog 74=true/\aS prog 75=true/\aS prog 76=true:=by and_intros<;>kernel_rfl
@[go_sem] def qeA:aS prog 77=true/\aS prog 78=true/\aS prog 79=true/\aS prog 80=true/\aS prog 81=true/\aS prog 83=true/\aS prog 84=true/\aS prog 85=true/\aS prog 86=true/\aS prog 87=true/\aS prog 88=true/\aS prog 89=true/\aS prog 90=true/\aS prog 91=true/\aS prog 92=true/\aS prog 93=true/\aS prog 94=true/\aS prog 95=true/\aS prog 96=true/\aS prog 97=true/\aS prog 98=true/\aS prog 99=true/\aS prog 100=true/\aS prog 101=true:=by and_intros<;>kernel_rfl
@[go_sem] def j9G:aS prog 102=true/\aS prog 103=true/\aS prog 104=true/\aS prog 105=true/\aS prog 106=true/\aS prog 107=true/\aS prog 109=true/\aS prog 110=true/\aS prog 111=true/\aS prog 112=true/\aS prog 113=true/\aS prog 114=true/\aS prog 115=true/\aS prog 116=true/\aS prog 117=true/\aS prog 118=true/\aS prog 119=true/\aS prog 120=true/\aS prog 121=true/\aS prog 122=true/\aS prog 125=true/\aS prog 126=true/\aS prog 127=true/\aS prog 128=true:=by and_intros<;>kernel_rfl
@[go_sem] def j94:aS prog 129=true/\aS prog 130=true/\aS prog 131=true/\aS prog 132=true/\aS prog 133=true/\aS prog 134=true/\aS prog 135=true/\aS prog 136=true/\aS prog 137=true/\aS prog 138=true/\aS prog 139=true/\aS prog 141=true/\aS prog 142=true/\aS prog 143=true/\aS prog 144=true/\aS prog 145=true/\aS prog 146=true/\aS prog 147=true/\aS prog 148=true/\aS prog 149=true/\aS prog 150=true/\aS prog 151=true/\aS prog 152=true/\aS prog 153=true:=by and_intros<;>kernel_rfl
@[go_sem] def qas:aS prog 154=true/\aS prog 155=true/\aS prog 156=true/\aS prog 157=true/\aS prog 158=true/\aS prog 159=true/\aS prog 160=true/\aS prog 161=true/\aS prog 162=true/\aS prog 163=true/\aS prog 164=true/\aS prog 165=true/\aS prog 167=true/\aS prog 168=true/\aS prog 169=true/\aS prog 170=true/\aS prog 171=true/\aS prog 172=true/\aS prog 173=true/\aS prog 174=true/\aS prog 175=true/\aS prog 176=true/\aS prog 177=true/\aS prog 178=true:=by and_intros<;>kernel_rfl
@[go_sem] def qaQ:aS prog 179=true/\aS prog 180=true/\aS prog 183=true/\aS prog 184=true/\aS prog 224=true/\aS prog 225=true/\aS prog 226=true/\aS prog 227=true/\aS prog 228=true/\aS prog 229=true/\aS prog 230=true/\aS prog 231=true/\aS prog 232=true/\aS prog 233=true/\aS prog 234=true/\aS prog 235=true:=by and_intros<;>kernel_rfl
def mixed:prog.follows .mixedOrders=true:=jG
def jt:qE prog 238=some (false,3):=jG
@[go_sem] def qbF:wC prog 238=true:=jG
def rk:qE prog 245=some (true,3):=jG
@[go_sem] def qbG:wC prog 245=true:=jG
end Go.Proofs.YtijdhbokcdpklaaGreatDoor