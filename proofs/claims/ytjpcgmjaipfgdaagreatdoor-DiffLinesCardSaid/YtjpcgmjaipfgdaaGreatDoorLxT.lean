/- Lemmas. No conditions. -/
import Derived.Test.YtjpcgmjaipfgdaaGreatDoorGdY
import Derived.ProofKit
import Derived.Deep.Slices
import Derived.Carry
import Derived.Laws.MakeOwn
import Derived.OpenShut
import Derived.MapKept
import Derived.Lib.Overlaps
import Derived.Test.YtjpcgmjaipfgdaaGreatDoorProg
import Derived.KernelRfl
set_option linter.all false
namespace Go.Gd
open Go Go.ChangeShapes Go.WideShapes Go.ChangeAt Go.RowKit Go.Deep
@[reducible] def n0(w:World):NW:={ toWorld:=w,O:=fun _=>False,nm:=fun _ _=>none }
def nq(P:U3)(t:UY)(S:US->Prop):Prop:=
 ∀(T:Type) (enc:UY×Value->T) (w:World) (fuel:Nat) (cs:U1) (x:DataW T×List MemPlace),
  DataW.trod enc P w 0 (fun _=>true) true fuel t cs=some x->∃us,S us/\bZ (n0 w) us cs
section
variable {P:U3}{t:UY}
def nq.mono{S S':US->Prop}(h:nq P t S)(hs:∀us,S us->S' us):nq P t S':=fun T enc w fuel cs x hx=>by obtain⟨us,h1,h2⟩:=h T enc w fuel cs x hx;exact⟨us,hs us h1,h2⟩
def xM{w:NW}{a:AV}{v:Value}(h:aw w a v):bZ w [a] [v]:=⟨rfl,fun i b u hb hu=>by
 cases i with
 |zero=>simp at hb hu;subst hb hu;exact h
 |succ i=>simp at hb⟩
def Hm{w:NW}{a:AV}{v:Value}{us:US}{vs:U1}(h:aw w a v)(hs:bZ w us vs):bZ w (a::us) (v::vs):=⟨by simp[hs.1],fun i b u hb hu=>by
 cases i with
 |zero=>simp at hb hu;subst hb hu;exact h
 |succ i=>exact hs.2 i b u (by simpa using hb) (by simpa using hu)⟩
def zg{k:IntKind}(ht:P.underlying t=some (.int k)):nq P t (fun us=>∃n:Int,(Lit.int k n).wf=true/\us=[.raw (.int k n)]):=fun T enc w fuel cs x hx=>by obtain⟨n,rfl,_,hwf⟩:=DataW.trod_int ht hx;exact⟨_,⟨n,hwf,rfl⟩,xM (.raw _)⟩
def C4(ht:P.underlying t=some .string):nq P t (fun us=>∃s:UX,us=[.raw (.string s)]):=fun T enc w fuel cs x hx=>by obtain⟨n,rfl,_,hwf⟩:=DataW.trod_string ht hx;exact⟨_,⟨n,rfl⟩,xM (.raw _)⟩
def Dn:List (US->Prop)->US->Prop
 |[],us=>us=[]
 |S::Ss,us=>∃a b,S a/\Dn Ss b/\us=a++b
def Bk(P:U3):List Field->List (US->Prop)->Prop
 |[],[]=>True
 |f::l,S::Ss=>nq P f.type S/\Bk P l Ss
 |_,_=>False
def ya(P:U3):List Field->Nat->U2
 |[],o,n=>o == n
 |f::l,o,n=>f.offset == o && ya P l (o+P.cellsOf f.type) n
def LJ{w:NW}{us vs:US}{cs:U1}{o n:Nat}(h1:bZ w us ((cs.drop o).take n))(h2:bZ w vs (cs.drop (o+n)))(hn:o+n<=cs.length):bZ w (us++vs) (cs.drop o):=by
 have l1:us.length=n:=by rw[h1.1,List.length_take,List.length_drop];omega
 refine⟨by rw[List.length_append,l1,h2.1,List.length_drop,List.length_drop];omega,fun i a v ha hv=>?_⟩;by_cases hi:i<n
 ·rw[List.getElem?_append_left jB]at ha;exact h1.2 i a v ha (by rw[List.getElem?_take,if_pos hi];exact hv)
 ·rw[List.getElem?_append_right jB,l1]at ha;refine h2.2 (i-n) a v ha ?_;rw[List.getElem?_drop]at hv ⊢;rw[show o+n+(i-n)=o+i from jB];exact hv
theorem IF{T:Type}{enc:UY×Value->T}{w:World}{m:Nat}{cs:U1}:∀(l:List Field) (Ss:List (US->Prop)) (o:Nat),Bk P l Ss->ya P l o cs.length=true->
  (∀f∈l,∃y,DataW.trod enc P w 0 (fun _=>true) true m f.type ((cs.drop f.offset).take (P.cellsOf f.type))=some y)->∃us,Dn Ss us/\bZ (n0 w) us (cs.drop o)/\o<=cs.length
 |[],[],o,_,ho,_=>by simp only[ya,beq_iff_eq]at ho;subst ho;exact⟨[],rfl,by rw[List.drop_length];exact⟨rfl,fun i a v ha=>by simp at ha⟩,Nat.le_refl _⟩
 |f::l,S::Ss,o,hd,ho,hf=>by
  simp only[ya,Bool.and_eq_true,beq_iff_eq]at ho;obtain⟨y,hy⟩:=hf f jE;rw[ho.1]at hy;obtain⟨a,ha,XU⟩:=hd.1 T enc w m _ y hy;obtain⟨b,hb,hrb,Vj⟩:=IF l Ss _ hd.2 ho.2 fun g hg=>hf g (by simp[hg])
  exact⟨a++b,⟨a,b,ha,hb,rfl⟩,LJ XU hrb Vj,jB⟩
 |[],_::_,_,hd,_,_=>hd.elim
 |_::_,[],_,hd,_,_=>hd.elim
variable{fs:Array Field}
def zh{Ss:List (US->Prop)}(ht:P.underlying t=some (.struct fs))(ho:ya P fs.toList 0 (P.cellsOf t)=true)(hd:Bk P fs.toList Ss):nq P t (Dn Ss):=fun T enc w fuel cs x hx=>by
 obtain⟨xs,n,rfl,rfl,hl,hn,hf⟩:=DataW.trod_struct ht hx;obtain⟨us,h1,h2,_⟩:=IF (T:=T) (enc:=enc) (w:=w) (m:=n) (cs:=cs) fs.toList Ss 0 hd (by rw[hl];exact ho) fun f ZR=>by obtain⟨i,hi,e⟩:=List.getElem_of_mem ZR;have:=hf i f (by rw[<-Array.getElem?_toList,List.getElem?_eq_getElem hi,e]);rw[List.getElem?_eq_getElem (by rw[hn];simpa using hi)]at this;exact⟨_,this⟩
 exact⟨us,h1,by simpa using h2⟩
def GS{e:UY}{α:Type}[Inhabited α]{ok:α->Prop}{encA:α->US}{sz:Nat}(ht:P.underlying t=some (.slice e))(hc:P.cellsOf e=sz)(Vb:0<sz)(he:nq P e (fun us=>∃a,ok a/\us=encA a))(hl:∀a,(encA a).length=sz) :
  nq P t (fun us=>∃l:List α,((∀a∈l,ok a)/\l.length<=9223372036854775807)/\us=[aO encA sz l]):=fun T enc w fuel cs x hx=>by
 rcases open_slice ht hx with⟨rfl,_⟩|⟨a,len,cap,m,n,D,Pl,rfl,_,hlc,WE,hm,_,hr⟩
 ·exact⟨_,⟨[],⟨jE,jE⟩,rfl⟩,xM (.hJ _ _ _ _ jE)⟩
 ·simp only[if_true]at hm;obtain rfl:cap=m:=hm.symm;have Vo:∀i,i<len->∃g:α,ok g/\∃cs',w.cells? 0 (a.add (i*sz)) sz=some cs'/\bZ (n0 w) (encA g) cs':=fun i hi=>by
   obtain⟨cs',h1,h2⟩:=hr i jB;rw[hc]at h1;obtain⟨us,⟨g,hok,rfl⟩,Vp⟩:=he T enc w n cs' _ h2;exact⟨g,hok,cs',h1,Vp⟩
  obtain⟨g,hg⟩:∃g:Nat->α,∀i,i<len->ok (g i)/\∃cs',w.cells? 0 (a.add (i*sz)) sz=some cs'/\bZ (n0 w) (encA (g i)) cs':=by
   classical
   exact⟨fun i=>if h:i<len then(Vo i h).choose else default,fun i hi=>by simp only[dif_pos hi];exact(Vo i hi).choose_spec⟩
  have VR:((List.range len).map g).length=len:=jE;refine⟨_,⟨(List.range len).map g,⟨fun y hy=>?_,by rw[VR];have:cap<=9223372036854775807:=WE;omega⟩,rfl⟩,xM ?_⟩
  ·obtain⟨i,hi,rfl⟩:=List.mem_map.1 hy;exact(hg i (by simpa using hi)).1
  ·have U9:(((List.range len).map g).map encA).length=len:=jE;have hn:∀i,i<len->(((List.range len).map g).map encA).getD i []=encA (g i):=fun i hi=>by simp[List.getD_eq_getElem?_getD,hi]
   by_cases h0:len=0
   ·subst h0;exact .hJ _ _ _ _ jE
   ·have D':∀i j,i<len->j<sz->∃v,w.cell? (a.add (i*sz+j))=some v/\∀u,(encA (g i))[j]?=some u->aw (n0 w) u v:=fun i j hi hj=>by
     obtain⟨_,cs',h1,h2⟩:=hg i hi;obtain⟨_,J',VL⟩:=World.cells?_some h1;have hv:cs'[j]?=some cs'[j]:=List.getElem?_eq_getElem jB;refine⟨cs'[j],?_,fun u hu=>h2.2 j u _ hu hv⟩;rw[<-xl,VL j hj,hv]
    have:=aw.sl (w:=n0 w) (d:=encA default) false sz (((List.range len).map g).map encA) a cap (fun k=>(w.cell? (a.add k)).getD undef) jB jB jE (fun cs VW=>by
     obtain⟨y,_,rfl⟩:=List.mem_map.1 VW;exact hl y) (by
     obtain⟨_,cs',h1,_⟩:=hg 0 jB;have:=World.cells?_block h1 Vb;rwa [p8]at this) (fun h=>h) (fun i j hi hj=>by
     obtain⟨v,hv,_⟩:=D' i j jB hj;rw[hv];rfl) (fun i j u hi hu=>by
     rw[hn i jB]at hu;have hj:j<sz:=by rw[<-hl (g i)];exact(List.getElem?_eq_some_iff.1 hu).1
     obtain⟨v,hv,Vp⟩:=D' i j jB hj;rw[hv];exact Vp u hu)
    rw[U9]at this;exact this
-- arguments
variable {T:Type}{enc:UY×Value->T}{w:World}{v:Value}{d:DataW T}{ps:List MemPlace}{base:Nat}
def KL{S:US->Prop}(ht:P.underlying t=some (.struct fs))(hd:nq P t S)(hv:Value.okWide P w .any base t v)(h:DataW.Trod enc P w 0 (fun _=>true) true t v d ps):∃us,S us/\aw (n0 w) (.agg us) v:=by unfold Value.okWide at hv;rw[ht]at hv;obtain⟨cs,rfl,_,_⟩:=hv;obtain⟨fuel,hf⟩:=h;obtain⟨us,hs,hr⟩:=hd T enc w fuel _ _ hf;exact⟨us,hs,.agg us cs (by rw[hr.1];rfl) fun i a u ha hu=>hr.2 i a u ha (by show cs.toList[i]?=_;rw[Array.getElem?_toList];exact hu)⟩
end
section
variable {P:U3}{T:Type}{enc:UY×Value->T}
theorem Ef(hl:laidOutB P=true){W W':World}(hb:Below W.heap.size W W'):∀(ts:List UY) (vs:U1) (ds:List (DataW T)) (ps:List MemPlace),(∀t∈ts,P.readableRec t=true/\t<P.types.size)->
  DataW.TrodAll enc P W 0 (fun _=>true) true ts vs ds ps->(∀x∈ps,x.block<W.heap.size)->DataW.TrodAll enc P W' 0 (fun b=>decide (b<W.heap.size)) true ts vs ds ps
 |[],[],[],ps,_,h,_=>h
 |t::ts,v::vs,d::ds,ps,hr,h,I'=>by obtain⟨p,q,h1,h2,rfl⟩:=h;exact⟨p,q,Below.trod hl (hr t jE).1 (hr t jE).2 h1 hb fun x hx=>I' x (by simp[hx]),Ef hl hb ts vs ds q (fun t ht=>hr t (by simp[ht])) h2 fun x hx=>I' x (by simp[hx]),rfl⟩
 |[],_::_,_,_,_,h,_=>h.elim
 |[],[],_::_,_,_,h,_=>h.elim
 |_::_,[],_,_,_,h,_=>h.elim
 |_::_,_::_,[],_,_,h,_=>h.elim
def Oi{fn:Func}{s:ChangeSpec}{apart oO handsOn:Bool}{W W':World}{args:U0}{ds:List (DataW T)}{before:List MemPlace}{tb:UY}(hW:DataW.Whole enc P fn.params.toList s.vars apart W args.toList ds [] before)
  (hx:Below W.heap.size W W') (hl:laidOutB P=true) (hr:∀t∈fn.params.toList,P.readableRec t=true/\t<P.types.size) (hrt:fn.resultTypes=#[tb]) (hb:P.underlying tb=some .bool) (hv:s.vars=[])
  (e1:(s.fn T (ds++[])).results=[.lit (.bool true)]) (e2:(s.fn T (ds++[])).args=ds) (e3:(s.fn T (ds++[])).vars=[]):s.post enc P fn apart oO handsOn false W args (.bool true) W':=by
 have hW':=hW;obtain⟨p,q,hA,hV,rfl,hfz,Xe⟩:=hW;rw[hv]at hV;have hq:q=[]:=hV;subst hq;refine⟨ds,[],_,[],p,[],hW',?_,?_,?_,hx.frame _,fun h=>by cases h⟩
 ·rw[hrt,e1];exact trodAll_mk1 (shut_bool hb true)
 ·rw[e2];exact Ef hl hx _ _ _ _ hr hA fun x Vr=>by simpa using hW'.lt x (by simpa using Vr)
 ·rw[hv,e3];exact rfl
def Py(W:World)(hg:l7 (n0 W)):aF (n0 W) (entry []):={
 bY:=hg
 rows:=fun i r h=>(by cases h)
 dt:=fun i m z h=>(by cases h)
 inj:=fun i m j n b t s t' s' h _=>(by cases h)
 own:=fun i m b t s h=>(by cases h)
 fin:=fun b h=>h.elim }
def Sj{f:FuncId}{avs:US}{args:U0}{W:World}(hg:l7 (n0 W))(h:aL P f avs (.raw (.bool true)))(ha:bZ (n0 W) avs args.toList):Calls P f args W fun e W'=>e=.returned (.bool true)/\Below W.heap.size W W':=by refine(h (n0 W) args (Py W hg) ⟨by rw[ha.1];simp,fun i a v h1 h2=>ha.2 i a v h1 (by rw[Array.getElem?_toList];exact h2)⟩).mono ?_;rintro e w' ⟨v,r,H',w2,rfl,rfl,⟨rfl,_⟩,_,g2,g3⟩;have:=cZ g2;subst this;exact⟨rfl,⟨g3.os,g3.tape,g3.output,g3.size,fun k hk=>(g3.free k hk (fun h=>h)).1⟩⟩
end
section
variable {P:U3}{f:FuncId}{args cs:US}{H:Hp}{K:UP}{q:Prop}
def cl{l l0:UR}{r0:AV}(hc:ab P f (args++cs) l fun r l'=>r=r0/\l'=l0)(k:q)(h1:si l H:=by exact dz)(h0:aW P f=true:=by exact dz)(h2:aR (fun i=>(ids l).contains i) (args++cs)=true:=by exact dz)(h3:rJ (fun i=>(ids l).contains i) l:=by exact dz)
 (h4:oO (ids l) H l0:=by exact dz) (h5:(ids l0).Nodup:=by exact dz) (e:K r0 ⟨H.B,gB H.l l0⟩=q:=by exact fj):eQ P (.eT f cs) args H K:=Ri h0 (vF hc h1 h2 h3 h4 h5 (e ▸ k))
def cq{R:AV->Prop}{r0:AV}(hc:aL P f args r0)(k:q)(h0:aW P f=true:=by exact dz)(h2:aR eo args=true:=by exact dz)(e:R r0=q:=by exact fj) :
  ∃r,(eQ P (.raw (.func (.func f) #[] #[])) args H fun r' H'=>r'=r/\H'=H)/\R r:=⟨r0,nS h0 (y0 hc h2 ⟨rfl,rfl⟩),e ▸ k⟩
end
def Sub(a' a:AV):Prop:=∀(w:NW) v,aw w a' v->aw w a v
def pg:US->US->Prop
 |[],[]=>True
 |a::l,b::m=>Sub a b/\pg l m
 |_,_=>False
def Sub.refl(a:AV):Sub a a:=fun _ _ h=>h
def Sub.nil(sz:Nat)(d:US):Sub (.raw (.slice none 0 0)) (.sl false sz [] d):=fun w v h=>by have:=cZ h;subst this;exact .hJ _ _ _ _ jE
theorem pg.get:∀{l m:US},pg l m->l.length=m.length/\∀(i:Nat) a b,l[i]?=some a->m[i]?=some b->Sub a b
 |[],[],_=>⟨rfl,fun i a b h=>by simp at h⟩
 |x::l,y::m,h=>by
  have ih:=pg.get h.2;refine⟨by simp[ih.1],fun i a b ha hb=>?_⟩;cases i with
  |zero=>simp at ha hb;subst ha hb;exact h.1
  |succ i=>exact ih.2 i a b (by simpa using ha) (by simpa using hb)
 |[],_::_,h=>h.elim
 |_::_,[],h=>h.elim
end Go.Gd
namespace Go.Gd
open Go
variable{zs:U1}{n sz:Nat}
def PO{w:NW}{z:U0}(hz:z.toList=zs)(hl:zs.length=sz)(h0:0<sz)(k:Nat)(a:AV)(v:Value)(ha:(List.replicate n (zs.map AV.raw)).flatten[k]?=some a)(hv:(madeCells z (n*sz))[k]?=some v):aw w a v:=by
 have Zd:z.size=sz:=by rw[<-hl,<-hz];simp
 have hk:k<n*sz:=by have:=(Array.getElem?_eq_some_iff.1 hv).1;rwa [size_madeCells]at this
 obtain⟨i,j,hi,hj,rfl⟩:=vn hk;have VW:∀cs∈List.replicate n (zs.map AV.raw),cs.length=sz:=fun cs VW=>by rw[(List.mem_replicate.1 VW).2];simpa using hl
 have hg:=qC VW (i:=i) (j:=j) (by simpa using hi) hj;rw[hg]at ha;have:(List.replicate n (zs.map AV.raw)).getD i []=zs.map AV.raw:=by simp[List.getD_eq_getElem?_getD,hi]
 rw[this]at ha;simp only[List.getElem?_map,Option.map_eq_some_iff]at ha;obtain⟨x,hx,rfl⟩:=ha;have e:(i*sz+j) % sz=j:=by rw[Nat.add_comm,Nat.add_mul_mod_self_right];exact Nat.mod_eq_of_lt hj
 have:v=x:=by
  have YS:(madeCells z (n*sz))[i*sz+j]?=some (z[(i*sz+j) % z.size]!):=by simp[madeCells,hk]
  rw[YS]at hv;have hv:=Option.some.inj hv;rw[<-hv,Zd,e];have hjz:j<z.size:=jB;rw[getElem!_pos z j hjz];have Vr:z.toList[j]?=some x:=by rw[hz];exact hx
  rw[Array.getElem?_toList]at Vr;exact Option.some.inj ((Array.getElem?_eq_getElem hjz).symm.trans Vr)
 subst this;exact .raw _
variable{K:UP}{q:Prop}{t:UY}
def MA{P:U3}{ev:UZ}{H:Hp}{ty:UY}(i:Nat){et:UY}{l c:Operand}(k:q)(hl:ev l=.raw (.int .i64 (n:Int)):=by rfl)(hc:ev c=.raw (.int .i64 (n:Int)):=by rfl)(ht:iE P t=some et:=by(simp only[go_sem];rfl))(hs:cQ P et=some sz:=by(simp only[go_sem];rfl))(hz:dS P et=some zs:=by(simp only[go_sem];rfl))(XV:zs.length=sz:=by rfl)(h0:0<sz:=by decide)(hr:room (jW P et) n:=by(simp only[go_sem];omega))(hi:H.get i=none:=by rfl)
  (e:K (.rs i n sz n) (H.put i (.aD et sz (List.replicate n (zs.map .raw))))=q:=by exact fj):jg P (.makeSlice t l c) ty ev H K:=fun w ρ dst pos after guard hw hρ=>by
 have h1:=hρ l (by simp[Op.operands]);have h2:=hρ c (by simp[Op.operands]);rw[hl]at h1;rw[hc]at h2;have e1:=cZ h1;have e2:=cZ h2;have hu:P.underlying t=some (.slice et):=vC ht;unfold cQ at hs;cases hf:P.info? et with
 |none=>rw[hf]at hs;cases hs
 |some inf=>
  rw[hf]at hs;have Vb:inf.size=sz:=by simpa using hs
  have VN:=hz;unfold dS at VN;rw[hf]at VN;simp only[Option.bind_some,Option.map_eq_some_iff]at VN;obtain⟨z,hzz,haZ⟩:=VN;have Zn:jW P et=inf.bytes:=by unfold jW;rw[hf];rfl
  obtain⟨r1,r2⟩:=hr;rw[Zn]at r1;have B':=run_make (P:=P) w.toWorld t et inf z hu hf hzz .i64 .i64 (n:Int) (n:Int) jB jB (by have h:((n*inf.bytes:Nat):Int)<=140737488355328:=jB;rw[Int.natCast_mul,Int.mul_comm]at h;omega) jB
  simp only[Int.toNat_natCast]at B';rw[Vb]at B';have VW:∀cs∈List.replicate n (zs.map AV.raw),cs.length=sz:=fun cs VW=>by rw[(List.mem_replicate.1 VW).2];simpa using XV
  have Wm:=ij VW;simp only[List.length_replicate]at Wm;obtain⟨q1,q2⟩:=vQ (row:=.aD et sz (List.replicate n (zs.map AV.raw))) hw (hw.none hi _) (fun r' hr=>by rw[hi]at hr;cases hr) ⟨h0,VW⟩ (madeCells z.cells (n*sz)) ⟨rfl,by show(List.replicate n (zs.map AV.raw)).flatten.length<=_;rw[Wm,size_madeCells];exact Nat.le_refl _⟩ (fun k a v ha hv=>PO haZ XV h0 k a v ha hv);refine⟨_,_,.rs i n sz n,e ▸ k,q1,q2,.inl ⟨.slice (some ⟨w.heap.size,0,none⟩) n n,?_,?_⟩⟩
  ·simp only[execOp,e1,e2];simp[B'];rfl
  ·have Vh:(((w.to (w.alloc (.cells (madeCells z.cells (n*sz)) et))).fZ w.heap.size).name i n (.at w.heap.size (n*sz) sz)).nm i n=some (.at w.heap.size (n*sz) sz):=NW.ci _ _ _ _;have:=aw.rs (w:=((w.to (w.alloc (.cells (madeCells z.cells (n*sz)) et))).fZ w.heap.size).name i n (.at w.heap.size (n*sz) sz)) i n sz n w.heap.size (n*sz) n Vh rfl jl h0;have e3:(Row.aD et sz (List.replicate n (zs.map AV.raw))).fD=n:=by show(List.replicate n (zs.map AV.raw)).length=n;simp
   have e4:(madeCells z.cells (n*sz)).size=n*sz:=size_madeCells _ _;rw[e3,e4];exact this
open Go.ChangeShapes Go.WideShapes Go.ChangeAt Go.RowKit
def gG(a k:Nat):Nat:=1000+(8*k+a)
def yX(a k:Nat):1000<=gG a k:=by unfold gG;omega
def zb{a b k j:Nat}(ha:a<8)(hb:b<8)(h:gG a k=gG b j):a=b/\k=j:=by unfold gG at h;omega
def oX(a:Nat)(f:U4):Nat->Nat->List U5->UR
 |_,0,l=>l
 |k,n+1,l=>(gG a k,f k)::oX a f (k+1) n l
def ja(a n:Nat)(f:U4)(l:UR):UR:=oX a f 0 n l
theorem Bg(a:Nat)(ha:a<8)(f:U4)(l:UR):∀(n k j:Nat),az (oX a f k n l) (gG a j)=if k<=j/\j<k+n then some (f j)else az l (gG a j)
 |0,k,j=>by unfold oX;rw[jN]
 |n+1,k,j=>by
  show(if gG a j=gG a k then some (f k)else az (oX a f (k+1) n l) (gG a j))=_;by_cases e:j=k
  ·subst e;rw[if_pos rfl,jP]
  ·rw[if_neg (fun h=>e (zb ha ha h).2),Bg a ha f l n (k+1) j];by_cases h:k+1<=j/\j<k+1+n
   ·rw[if_pos h,jP]
   ·rw[if_neg h,jN]
theorem za(a:Nat)(f:U4)(l:UR)(i:Nat)(hi:∀k,i≠gG a k):∀(n k:Nat),az (oX a f k n l) i=az l i
 |0,k=>rfl
 |n+1,k=>by show(if i=gG a k then some (f k)else az (oX a f (k+1) n l) i)=_;rw[if_neg (hi k)];exact za a f l i hi n (k+1)
@[go_sem] def wD(a n:Nat)(f:U4)(l:UR)(i:Nat)(h:i<1000):az (ja a n f l) i=az l i:=za a f l i (fun k e=>by have:=yX a k;omega) n 0
@[go_sem] def sy(a n:Nat)(f:U4)(l:UR)(b k:Nat)(ha:a<8)(hb:b<8)(h:a≠b):az (ja a n f l) (gG b k)=az l (gG b k):=za a f l _ (fun j e=>h (zb hb ha e).1.symm) n 0
@[go_sem] def uR(a n:Nat)(f:U4)(l:UR)(k:Nat)(ha:a<8)(h:k<n):az (ja a n f l) (gG a k)=some (f k):=by unfold ja;rw[Bg a ha,jP]
@[go_sem] def NY(a n:Nat)(f:U4)(l:UR)(k:Nat)(ha:a<8)(h:n<=k):az (ja a n f l) (gG a k)=az l (gG a k):=by unfold ja;rw[Bg a ha,jN]
def vM(a n:Nat)(ha:a<8)(f:U4)(l:UR)(i:Nat):(∃k,k<n/\i=gG a k/\az (ja a n f l) i=some (f k))\/((∀k,k<n->i≠gG a k)/\az (ja a n f l) i=az l i):=by
 by_cases h:∃k,i=gG a k
 ·obtain⟨k,rfl⟩:=h;by_cases hk:k<n
  ·exact .inl ⟨k,hk,rfl,uR a n f l k ha hk⟩
  ·exact .inr ⟨fun j hj e=>hk ((zb ha ha e).2 ▸ hj),NY a n f l k ha jB⟩
 ·exact .inr ⟨fun k _ e=>h ⟨k,e⟩,za a f l i (fun k e=>h ⟨k,e⟩) n 0⟩
def x8{α:Type}(n:Nat)(f:Nat->α):List α:=(List.range n).map f
def KE{q:U2}{f:Nat->US}(h:∀k,k<n->aR q (f k)=true):QL q (x8 n f):=fun c hc=>by obtain⟨k,hk,rfl⟩:=List.mem_map.1 hc;exact h k (by simpa using hk)
variable{B:UW}{l:UR}
def Ib{r:AV}(l':UR)(h:∀i,az l i=az l' i):iN r ⟨B,l⟩ r ⟨B,l'⟩:=fun w v h1 h2=>by
 have hg:∀i,(Hp.mk B l').get i=(Hp.mk B l).get i:=fun i=>(h i).symm
 exact⟨w,rfl,{ rows:=fun i r hi=>h1.rows i r ((hg i) ▸ hi),dt:=fun i m z hz=>by rw[hg];exact h1.dt i m z hz,inj:=h1.inj,own:=h1.own,fin:=h1.fin,bY:=h1.bY },h2,{ ExtQ.refl _ w with base:=rfl }⟩
def DA{w:NW}{l':UR}(h:∀i,az l i=az l' i)(h1:aF w ⟨B,l⟩):aF w ⟨B,l'⟩:=by
 have hg:∀i,(Hp.mk B l').get i=(Hp.mk B l).get i:=fun i=>(h i).symm
 exact{ rows:=fun i r hi=>h1.rows i r ((hg i) ▸ hi),dt:=fun i m z hz=>by rw[hg];exact h1.dt i m z hz,inj:=h1.inj,own:=h1.own,fin:=h1.fin,bY:=h1.bY }
structure Lays(E:List (Nat×Row)->List (Nat×Row))(tl:List (Nat×Row)):Prop where
 get:∀i,az (E tl) i=(az (E []) i).or (az tl i)
 apart:∀i r,az tl i=some r->az (E []) i=none
def CK{P:U3}{f:FuncId}{args:US}{tl:UR}{E E':List U5->UR}{r0:AV}(hc:ab P f args (E []) fun r l'=>r=r0/\l'=E' [])(h1:Lays E tl)(h2:Lays E' tl)(h3:(ids (E' [])).Nodup)
  (ha:aR (fun i=>(ids (E [])).contains i) args=true) (hr:∀i r,az (E []) i=some r->aR (fun i=>(ids (E [])).contains i) r.cells=true) (hk:K r0 ⟨B,E' tl⟩) (h4:∀i,az (E []) i≠none->az (E' []) i≠none):cS P f args ⟨B,E tl⟩ K:=fun w vs hw hv=>by
 refine(zC (H:=⟨B,E tl⟩) (K:=fun r H'=>r=r0/\∃l',H'=⟨B,l'⟩/\∀i,az l' i=az (E' tl) i) hc (fun i r hi=>?_) ha hr (fun r l' ⟨e1,e2⟩=>⟨fun i s hs=>?_,by rw[e2];exact h3,e1,_,rfl,fun i=>?_⟩) hw hv).mono ?_
 ·show az (E tl) i=some r;rw[h1.get,hi];rfl
 ·cases e:az (E []) i with
  |some x=>exact .inl (tW e)
  |none=>
   right
   show az (E tl) i=none;rw[h1.get,e,Option.none_or];cases e':az tl i with
   |none=>rfl
   |some y=>rw[e2]at hs;have:=h2.apart i y e';rw[this]at hs;cases hs
 ·rw[e2,ud _ _ _ (fun _ _ _=>trivial) h3,h2.get,h1.get];cases e:az (E' []) i with
  |some x=>rfl
  |none=>
   have:az (E []) i=none:=Classical.byContradiction fun h=>h4 i h e
   rw[this];rfl
 ·rintro e W ⟨v,r,H',w',rfl,rfl,⟨rfl,l',rfl,hl⟩,g1,g2,g3⟩;exact⟨v,_,⟨B,E' tl⟩,w',rfl,rfl,hk,DA hl g1,g2,{ g3 with base:=rfl }⟩
def fA{P:U3}(i:Nat){H:Hp}(k:q)(hi:H.get i=none:=by first|rfl|exact dz)(hz:dS P t=some zs:=by(simp only[go_sem];rfl))(e:K (.pt i 0 0 0) (H.put i (.var t (zs.map .raw)))=q:=by exact fj):nZ P H t K:=zO i hz hi (e ▸ k)
def cL(i:Nat){x:AV}{H:Hp}(k:q)(hi:H.get i=none:=by first|rfl|exact dz)(ho:cI x.cells=true:=by simp only[go_sem])(e:K (.pt i 0 0 0) (H.put i (.var t x.cells))=q:=by exact fj):rR H t x K:=yH i ho hi (e ▸ k)
section
variable {α:Type}[DecidableEq α]
def iU(n:α):List α->US->Option AV
 |k::ks,v::vs=>if n=k then some v else iU n ks vs
 |_,_=>none
def lH(n:α)(x:AV):List α->US->US
 |k::ks,v::vs=>if n=k then x::vs else v::lH n x ks vs
 |_,_=>[x]
def mj(n:α):List α->List α
 |k::ks=>if n=k then k::ks else k::mj n ks
 |[]=>[n]
theorem IP(n:α)(x:AV):∀(ks:List α) (vs:US),ks.length=vs.length->(mj n ks).length=(lH n x ks vs).length
 |[],[],_=>rfl
 |[],_::_,h=>by simp at h
 |_::_,[],h=>by simp at h
 |k::ks,v::vs,h=>by
  have h:ks.length=vs.length:=by simpa using h
  unfold mj lH;split
  ·simp[h]
  ·simp[IP n x ks vs h]
structure ky(P:Program)(kt:TypeId)(enc:α->Value):Prop where
 QQ:∃d,P.underlying kt=some d/\∀a b,Instr.sameNow d (enc a) (enc b)=some (decide (a=b))
 zP:∀(w:World) a e,(Instr.checkKey e 10000 kt (enc a)).run P w=.ok () w
 bits:∀a,Instr.sameBits 10000 (enc a) (enc a)=true
variable{P:U3}{kt:UY}
def Uo(h:P.underlying kt=some (.int .i64)):ky P kt (Value.int .i64):=⟨⟨_,h,fun a b=>by simp[Instr.sameNow];rfl⟩,fun w a e=>MapKept.run_checkKey h (by simp[MapKept.IsKey]) e 9999,fun a=>by unfold Instr.sameBits;simp⟩
def QE(h:P.underlying kt=some .string):ky P kt Value.string:=⟨⟨_,h,fun a b=>by
 have:(a == b)=decide (a=b):=by rw[Bool.eq_iff_iff,MapKept.bytes_beq];simp
 simp only[Instr.sameNow,this]⟩,fun w a e=>MapKept.run_checkKey h (by simp[MapKept.IsKey]) e 9999,fun a=>by unfold Instr.sameBits;exact(MapKept.bytes_beq a a).2 rfl⟩
def oo(n:α):List α->U1->Nat->Option (Nat×Value)
 |k::ks,v::vs,i=>if n=k then some (i,v)else oo n ks vs (i+1)
 |_,_,_=>none
theorem Im{d:TypeDesc}{enc:α->Value}(h:∀a b,Instr.sameNow d (enc a) (enc b)=some (decide (a=b)))(n:α):∀(ks:List α) (vs:U1) (b i:Nat),Instr.findNow d (enc n) (iZ b (ks.map enc) vs) i=some (oo n ks vs i)
 |[],vs,b,i=>by simp[iZ,oo,Instr.findNow]
 |k::ks,[],b,i=>by simp[iZ,oo,Instr.findNow]
 |k::ks,v::vs,b,i=>by
  simp only[List.map_cons,iZ,oo,Instr.findNow,h];by_cases e:n=k
  ·simp[e]
  ·simp[e,Im h n ks vs (b+1) (i+1)]
theorem DP{n:α}:∀{ks:List α} {vs:U1} {i j:Nat} {v:Value},oo n ks vs i=some (j,v)->∃k,j=i+k/\vs[k]?=some v/\ks[k]?=some n/\k<ks.length/\
  (∀zl:US,zl.length=ks.length->iU n ks zl=zl[k]?/\(∀x,lH n x ks zl=zl.set k x))/\mj n ks=ks
 |[],_,_,_,_,h=>by simp[oo]at h
 |_::_,[],_,_,_,h=>by simp[oo]at h
 |k::ks,v'::vs,i,j,v,h=>by
  unfold oo at h;split at h
  ·rename_i e;cases h;refine⟨0,rfl,rfl,by simp[e],jE,fun zl hl=>?_,by simp[mj,e]⟩;cases zl with
   |nil=>simp at hl
   |cons a zl=>exact⟨by simp[iU,e],fun x=>by simp[lH,e]⟩
  ·rename_i e;obtain⟨q,h1,h2,h3,h5,h4,h6⟩:=DP h;refine⟨q+1,jB,by simpa using h2,by simpa using h3,by simpa using h5,fun zl hl=>?_,by unfold mj;rw[if_neg e,h6]⟩;cases zl with
   |nil=>simp at hl
   |cons a zl=> obtain⟨g1,g2⟩:=h4 zl (by simpa using hl);exact⟨by unfold iU;rw[if_neg e,g1];rfl,fun x=>by unfold lH;rw[if_neg e,g2];rfl⟩
theorem Cz{n:α}:∀{ks:List α} {vs:U1} {i:Nat},ks.length=vs.length->oo n ks vs i=none->(∀zl:US,zl.length=ks.length->iU n ks zl=none/\∀x,lH n x ks zl=zl++[x])/\mj n ks=ks++[n]
 |[],_,_,_,_=>⟨fun zl hl=>by
   have:zl=[]:=by simpa using hl
   subst this;exact⟨rfl,fun x=>rfl⟩,rfl⟩
 |_::_,[],_,h,_=>by simp at h
 |k::ks,v'::vs,i,hl,h=>by
  unfold oo at h;split at h
  ·cases h
  ·rename_i e;obtain⟨g1,g2⟩:=Cz (by simpa using hl) h;refine⟨fun zl Xj=>?_,by unfold mj;rw[if_neg e,g2];rfl⟩;cases zl with
   |nil=>simp at Xj
   |cons a zl=> obtain⟨q1,q2⟩:=g1 zl (by simpa using Xj);exact⟨by unfold iU;rw[if_neg e,q1],fun x=>by unfold lH;rw[if_neg e,q2];rfl⟩
theorem Jn:∀(b:Nat) (ks vs:U1) (k v:Value),ks.length=vs.length->iZ b (ks++[k]) (vs++[v])=iZ b ks vs++[⟨k,v,b+ks.length⟩]
 |b,[],[],k,v,_=>by simp[iZ]
 |b,[],_::_,k,v,h=>by simp at h
 |b,_::_,[],k,v,h=>by simp at h
 |b,k'::ks,v'::vs,k,v,h=>by have:=Jn (b+1) ks vs k v (by simpa using h);simp only[List.cons_append,iZ,this,List.length_cons];rw[show b+1+ks.length=b+(ks.length+1) from jB]
theorem IE:∀(b:Nat) (ks vs:U1) (j:Nat) (k v:Value),ks[j]?=some k->vs[j]?=some v->(iZ b ks vs)[j]?=some ⟨k,v,b+j⟩
 |b,[],_,j,k,v,h,_=>by simp at h
 |b,_::_,[],j,k,v,_,h=>by simp at h
 |b,k'::ks,v'::vs,0,k,v,h1,h2=>by simp at h1 h2;subst h1 h2;rfl
 |b,k'::ks,v'::vs,j+1,k,v,h1,h2=>by have:=IE (b+1) ks vs j k v (by simpa using h1) (by simpa using h2);simp only[iZ,List.getElem?_cons_succ,this];rw[show b+1+j=b+(j+1) from jB]
theorem IV:∀(b:Nat) (ks vs:U1) (j:Nat) (k v:Value),ks[j]?=some k->j<vs.length->iZ b ks (vs.set j v)=(iZ b ks vs).modify j fun e=>{ e with key:=k,val:=v }
 |b,[],_,j,k,v,h,_=>by simp at h
 |b,_::_,[],j,k,v,_,h=>by simp at h
 |b,k'::ks,v'::vs,0,k,v,h1,_=>by simp at h1;subst h1;simp[iZ]
 |b,k'::ks,v'::vs,j+1,k,v,h1,h2=>by have:=IV (b+1) ks vs j k v (by simpa using h1) (by simpa using h2);simp[iZ,this]
def Fl{enc:α->Value}(K:ky P kt enc)(w:World)(n:α)(ks:List α)(vs:U1)(b:Nat):(Instr.findKey kt (enc n) (iZ b (ks.map enc) vs)).run P w=.ok (oo n ks vs 0) w:=by obtain⟨d,h1,h2⟩:=K.QQ;simp[Instr.findKey,run_underlying h1,Im h2,Result.andThen]
end
section
variable {P:U3}{H:Hp}{α:Type}[DecidableEq α]
variable{i:Nat}{vs:US}
def Fm{w:NW}(hw:aF w H){ks:U1}{b t s:Nat}(hi:H.get i=some (.mp ks vs))(hn:w.nm i 0=some (.at b t s)) :
  s=0/\ks.length=vs.length/\∃cur:U0,w.heap[b]?=some (.map (iZ 0 ks cur.toList).toArray ks.length)/\cur.size=vs.length/\∀(k:Nat) a v,vs[k]?=some a->cur[k]?=some v->aw w a v:=by
 obtain⟨hok,z,hz,Vl⟩:=hw.rows _ _ hi;have:z=.at b t s:=by have hz:w.nm i 0=some z:=hz;rw[hn]at hz;cases hz;rfl
 subst this;obtain⟨h1,cur,hh,VJ,hr⟩:=Vl;exact⟨h1,hok,cur,hh,VJ,hr⟩
variable{ty t:UY}{K:UP}{q:Prop}
def nX(i:Nat){ev:UZ}(k:q)(hi:H.get i=none:=by first|rfl|exact dz)(e:K (.mr i) (H.put i (.mp [] []))=q:=by exact fj):jg P (.makeMap t none) ty ev H K:=fun w ρ dst pos after guard hw hρ=>by
 obtain⟨q1,q2⟩:=vQ (row:=.mp [] []) hw (hw.none hi _) (fun r' hr=>by rw[hi]at hr;cases hr) rfl #[] rfl (fun k a v ha hv=>by have ha:([]:US)[k]?=some a:=ha;simp at ha)
 refine⟨_,_,.mr i,e ▸ k,q1,q2,.inl ⟨.map (some w.heap.size),?_,.mr _ _ _ _ (NW.ci _ _ _ _)⟩⟩;simp[execOp,Instr.makeMap,newObj,Result.andThen];rfl
variable{et:UY}{om ox:Operand}{op:Op}{enc:α->Value}
def FR{ev:UZ}{kt:UY}{ok:Operand}{ks:List α}{n:α}{x:AV}(W3:op=.insert t om ok ox\/op=.mapUpdate t om ok ox)(hK:ky P kt enc)(ht:P.underlying t=some (.map kt et))
  (hm:ev om=.mr i) (hk:ev ok=.raw (enc n)) (hx:ev ox=x) (hi:H.get i=some (.mp (ks.map enc) vs)) (k:q) (e:K .any (H.put i (.mp ((mj n ks).map enc) (lH n x ks vs)))=q):jg P op ty ev H K:=fun w ρ dst pos after guard hw hρ=>by
 have ho:om∈op.operands.toList/\ok∈op.operands.toList/\ox∈op.operands.toList:=by rcases W3 with rfl|rfl<;>simp[Op.operands]
 have h1:=hρ om ho.1;have h2:=hρ ok ho.2.1;have h3:=hρ ox ho.2.2;rw[hm]at h1;rw[hk]at h2;rw[hx]at h3;have e2:=cZ h2;cases e1:ρ om with
 |map r=>
  rw[e1]at h1;cases h1 with
  |mr _ b u s hn=>
  obtain⟨rfl,hl,cur,hh,Vb,hr⟩:=Fm hw hi hn;have hl:ks.length=vs.length:=by simpa using hl
  have U9:ks.length=cur.toList.length:=by simp;omega
  have hb:b<w.heap.size:=hw.lt hn;have run:∀(vs':U1) (ks':List α),ks'.length=vs'.length->(lH n x ks vs).length=vs'.length->mj n ks=ks'->
    (Instr.mapUpdate t (ρ om) (ρ ok) (ρ ox)).run P w.toWorld=.ok () { w.toWorld with heap:=w.heap.setIfInBounds b (.map (iZ 0 (ks'.map enc) vs').toArray ks'.length) }->
    (∀(k:Nat) a v,(lH n x ks vs)[k]?=some a->vs'[k]?=some v->aw w a v)->∃(w':NW) (H':Hp) (r:AV),K r H'/\aF w' H'/\Ext w H w' H'/\((∃v,(execOp ρ ⟨dst,op,ty,pos,after,guard⟩).run P w.toWorld=.ok (.value v) w'.toWorld/\aw w' r v)\/((execOp ρ ⟨dst,op,ty,pos,after,guard⟩).run P w.toWorld=.ok .skip w'.toWorld/\r=.any)):=fun vs' ks' Wv Vf Yp B' Vp=>by
   obtain⟨g1,g2⟩:=KB (W:={ w.toWorld with heap:=w.heap.setIfInBounds b (.map (iZ 0 (ks'.map enc) vs').toArray ks'.length) }) (row:=.mp (ks.map enc) vs) (row':=.mp ((mj n ks).map enc) (lH n x ks vs)) hw hi hn rfl jl (by show((mj n ks).map enc).length=_;rw[List.length_map];exact IP n x ks vs hl) rfl rfl rfl jE (fun c hc=>by
    show(w.heap.setIfInBounds b _)[c]?=_;rw[Array.getElem?_setIfInBounds,if_neg (fun h=>hc h.symm)]) vs'.toArray (by
    show(w.heap.setIfInBounds b _)[b]?=_;rw[Array.getElem?_setIfInBounds,if_pos rfl,if_pos hb,Yp];simp[Row.obj]) (by show vs'.toArray.size=_;simp;omega) (fun k a v ha hv=>Vp k a v ha (by simpa using hv))
   refine⟨_,_,.any,e ▸ k,g1,g2,.inr ⟨?_,rfl⟩⟩;rcases W3 with rfl|rfl
   ·simp only[execOp,B'];simp[B',Result.andThen];rfl
   ·simp only[execOp,B'];simp[B',Result.andThen];rfl
  have V6:=Fl hK w.toWorld n ks cur.toList 0;cases hf:oo n ks cur.toList 0 with
  |none=>
   obtain⟨f1,f2⟩:=Cz U9 hf;obtain⟨f3,f4⟩:=f1 vs jB;refine run (cur.toList++[ρ ox]) (ks++[n]) jF (by rw[f4];simp;omega) f2 ?_ ?_
   ·rw[e1,e2];have es:=Jn 0 (ks.map enc) cur.toList (enc n) (ρ ox) (by simpa using U9);rw[Nat.zero_add,List.length_map]at es;rw[List.map_append,List.map_singleton,es];simp[Instr.mapUpdate,run_underlying ht,MapKept.run_getObj_map hh,hK.zP,V6,hf,MapKept.run_setObj_map _ hh,Result.andThen]
   ·intro k a v ha hv;rw[f4]at ha;rcases Nat.lt_or_ge k vs.length with h|h
    ·rw[List.getElem?_append_left h]at ha;rw[List.getElem?_append_left jF]at hv;exact hr k a v ha (by simpa using hv)
    ·rw[List.getElem?_append_right h]at ha;rw[List.getElem?_append_right jF]at hv;have Vi:k-vs.length=0:=by
      have:=(List.getElem?_eq_some_iff.1 ha).1;simp at this;omega
     rw[Vi]at ha;rw[show k-cur.toList.length=0 by simp;omega]at hv;simp at ha hv;subst ha hv;exact h3
  |some jv=>
   obtain⟨j,v0⟩:=jv;obtain⟨k0,rfl,f2,f3,f5,f4,f6⟩:=DP hf;rw[Nat.zero_add]at hf;obtain⟨f7,f8⟩:=f4 vs jB;refine run (cur.toList.set k0 (ρ ox)) ks jF (by rw[f8];simp;omega) f6 ?_ ?_
   ·rw[e1,e2];have WO:(ks.map enc)[k0]?=some (enc n):=by simp[f3]
    have es:=IV 0 (ks.map enc) cur.toList k0 (enc n) (ρ ox) WO jB;have eg:=IE 0 (ks.map enc) cur.toList k0 (enc n) v0 WO f2;rw[es];have hmod:∀g,(iZ 0 (ks.map enc) cur.toList).toArray.modify k0 g=((iZ 0 (ks.map enc) cur.toList).modify k0 g).toArray:=fun g=>jE
    simp[Instr.mapUpdate,run_underlying ht,MapKept.run_getObj_map hh,hK.zP,V6,hf,MapKept.run_setObj_map _ hh,Result.andThen,eg,Instr.keyThatStays,hK.bits]
   ·intro k a v ha hv;rw[f8,List.getElem?_set]at ha;rw[List.getElem?_set]at hv;by_cases Vn:k0=k
    ·rw[if_pos Vn]at ha hv;split at ha
     ·split at hv
      ·cases ha;cases hv;exact h3
      ·cases hv
     ·cases ha
    ·rw[if_neg Vn]at ha hv;exact hr k a v ha (by simpa using hv)
 |_=>rw[e1]at h1;cases h1
def jR(n:α)(ks:List α)(vs:US)(z:AV)(ok:Bool):AV:=if ok=true then(match iU n ks vs with|some v=>.aY [v,.raw (.bool true)]|none=>.aY [z,.raw (.bool false)])else(iU n ks vs).getD z
def D2{ev:UZ}{kt:UY}{c:Bool}{ks:List α}{n:α}{z:Value}(hK:ky P kt enc)(ht:P.underlying t=some (.map kt et))(hz:(P.info? et).bind (·.zero)=some z)
  (hm:ev om=.mr i) (hk:ev ox=.raw (enc n)) (hi:H.get i=some (.mp (ks.map enc) vs)) (k:q) (e:K (jR n ks vs (.raw z) c) H=q):jg P (.lookup t om ox c) ty ev H K:=fun w ρ dst pos after guard hw hρ=>by
 have h1:=hρ om (by simp[Op.operands]);have h2:=hρ ox (by simp[Op.operands]);rw[hm]at h1;rw[hk]at h2;have e2:=cZ h2;cases e1:ρ om with
 |map r=>
  rw[e1]at h1;cases h1 with
  |mr _ b u s hn=>
  obtain⟨rfl,hl,cur,hh,Vb,hr⟩:=Fm hw hi hn;have hl:ks.length=vs.length:=by simpa using hl
  have U9:ks.length=cur.toList.length:=by simp;omega
  have V6:=Fl hK w.toWorld n ks cur.toList 0;have hzr:(zeroValue et).run P w.toWorld=.ok z w.toWorld:=by
   cases Yb:P.info? et with
   |none=>rw[Yb]at hz;cases hz
   |some ti=>rw[Yb]at hz;simp only[Option.bind_some]at hz;simp[zeroValue,typeInfo,Yb,hz]
  cases hf:oo n ks cur.toList 0 with
  |none=>
   obtain⟨f1,f2⟩:=Cz U9 hf;obtain⟨f3,_⟩:=f1 vs jB;refine⟨w,H,_,e ▸ k,hw,Ext.refl w H,.inl ⟨if c=true then .tuple #[z,.bool false]else z,?_,?_⟩⟩
   ·simp only[execOp,e1,e2];cases c<;>simp[Instr.lookup,run_underlying ht,MapKept.run_getObj_map hh,hK.zP,V6,hf,hzr,Result.andThen]
   ·unfold jR;rw[f3];cases c
    ·exact .raw _
    ·exact .aY _ _ rfl fun i a v ha hv=>by
      match i with
      |0=>simp at ha hv;subst ha hv;exact .raw _
      |1=>simp at ha hv;subst ha hv;exact .raw _
      |i+2=>simp at ha
  |some jv=>
   obtain⟨j,v0⟩:=jv;obtain⟨k0,rfl,f2,f3,f5,f4,f6⟩:=DP hf;obtain⟨f7,_⟩:=f4 vs jB;have Vi:k0<vs.length:=jB;have hv0:aw w vs[k0] v0:=hr k0 _ v0 (List.getElem?_eq_getElem Vi) (by simpa using f2);refine⟨w,H,_,e ▸ k,hw,Ext.refl w H,.inl ⟨if c=true then .tuple #[v0,.bool true]else v0,?_,?_⟩⟩
   ·simp only[execOp,e1,e2];cases c<;>simp[Instr.lookup,run_underlying ht,MapKept.run_getObj_map hh,hK.zP,V6,hf,Result.andThen]
   ·unfold jR;rw[f7,List.getElem?_eq_getElem Vi];cases c
    ·exact hv0
    ·exact .aY _ _ rfl fun i a v ha hv=>by
      match i with
      |0=>simp at ha hv;subst ha hv;exact hv0
      |1=>simp at ha hv;subst ha hv;exact .raw _
      |i+2=>simp at ha
 |_=>rw[e1]at h1;cases h1
def pA(P:U3)(t:UY):Option (Bool×UY):=match P.underlying t with
 |some (.map k e)=>match P.underlying k with
  |some .string=>some (true,e)
  |some (.int .i64)=>some (false,e)
  |_=>none
 |_=>none
def Jk{e:UY}(h:pA P t=some (true,e)):∃k,P.underlying t=some (.map k e)/\ky P k Value.string:=by
 unfold pA at h;split at h
 ·rename_i k e' h1;split at h
  ·rename_i h2;cases h;exact⟨k,h1,QE h2⟩
  ·cases h
  ·cases h
 ·cases h
def EX{e:UY}(h:pA P t=some (false,e)):∃k,P.underlying t=some (.map k e)/\ky P k (Value.int .i64):=by
 unfold pA at h;split at h
 ·rename_i k e' h1;split at h
  ·cases h
  ·rename_i h2;cases h;exact⟨k,h1,Uo h2⟩
  ·cases h
 ·cases h
def gl{ev:UZ}{ok:Operand}{n:Int}(ks:UU)(YT:pA P t=some (false,et))(k:q)(W3:op=.insert t om ok ox\/op=.mapUpdate t om ok ox:=by first|exact Or.inl rfl|exact Or.inr rfl)
  (hm:ev om=.mr i:=by rfl) (hk:ev ok=.raw (.int .i64 n):=by rfl) (hi:H.get i=some (.mp (ks.map (Value.int .i64)) vs):=by first|rfl|exact dz) (e:K .any (H.put i (.mp ((mj n ks).map (Value.int .i64)) (lH n (ev ox) ks vs)))=q:=by exact fj):jg P op ty ev H K:=by
 obtain⟨kt,h1,h2⟩:=EX YT;exact FR W3 h2 h1 hm hk rfl hi k e
def tH{ev:UZ}{ok:Operand}{n:UX}(ks:List UX)(YT:pA P t=some (true,et))(k:q)(W3:op=.insert t om ok ox\/op=.mapUpdate t om ok ox:=by first|exact Or.inl rfl|exact Or.inr rfl)
  (hm:ev om=.mr i:=by rfl) (hk:ev ok=.raw (.string n):=by rfl) (hi:H.get i=some (.mp (ks.map Value.string) vs):=by first|rfl|exact dz) (e:K .any (H.put i (.mp ((mj n ks).map Value.string) (lH n (ev ox) ks vs)))=q:=by exact fj):jg P op ty ev H K:=by
 obtain⟨kt,h1,h2⟩:=Jk YT;exact FR W3 h2 h1 hm hk rfl hi k e
def pw{ev:UZ}{c:Bool}{n:Int}(ks:UU)(z:Value)(r:AV)(YT:pA P t=some (false,et))(hz:(P.info? et).bind (·.zero)=some z)(hr:jR n ks vs (.raw z) c=r)(k:q)
  (hm:ev om=.mr i:=by rfl) (hk:ev ox=.raw (.int .i64 n):=by rfl) (hi:H.get i=some (.mp (ks.map (Value.int .i64)) vs):=by first|rfl|exact dz) (e:K r H=q:=by exact fj):jg P (.lookup t om ox c) ty ev H K:=by
 obtain⟨kt,h1,h2⟩:=EX YT;exact D2 h2 h1 hz hm hk hi k (hr ▸ e)
def jb{ev:UZ}{c:Bool}{n:UX}(ks:List UX)(z:Value)(r:AV)(YT:pA P t=some (true,et))(hz:(P.info? et).bind (·.zero)=some z)(hr:jR n ks vs (.raw z) c=r)(k:q)
  (hm:ev om=.mr i:=by rfl) (hk:ev ox=.raw (.string n):=by rfl) (hi:H.get i=some (.mp (ks.map Value.string) vs):=by first|rfl|exact dz) (e:K r H=q:=by exact fj):jg P (.lookup t om ox c) ty ev H K:=by
 obtain⟨kt,h1,h2⟩:=Jk YT;exact D2 h2 h1 hz hm hk hi k (hr ▸ e)
@[go_sem] def j3j{ev:UZ}(t:UY)(r:Option Operand):vc P ev H ty K (.makeMap t r)=jg P (.makeMap t r) ty ev H K:=by simp[vc,di]
@[go_sem] def j54{ev:UZ}(t:UY)(m k x:Operand):vc P ev H ty K (.insert t m k x)=jg P (.insert t m k x) ty ev H K:=by simp[vc,di]
@[go_sem] def OE{ev:UZ}(t:UY)(m k x:Operand):vc P ev H ty K (.mapUpdate t m k x)=jg P (.mapUpdate t m k x) ty ev H K:=by simp[vc,di]
@[go_sem] def j56{ev:UZ}(t:UY)(m k:Operand)(c:Bool):vc P ev H ty K (.lookup t m k c)=jg P (.lookup t m k c) ty ev H K:=by simp[vc,di]
end
attribute [go_sem] lH mj
-- what is new, in regions that leave their order open
section
variable {P:U3}{A:AS}{ev:UZ}{H:Hp}
variable{K:UP}
@[go_sem] def j76(t:UY)(l c:Operand):u5 P A ev H K (.makeSlice t l c)=jg P (.makeSlice t l c) 0 ev H (AP (fun r H'=>eG A H H'/\K r H') .mk):=(rfl)
variable{q:Prop}
def vH(i:Nat){t:UY}{sz:Nat}{css:UQ}(k:q)(h0:0<sz:=by decide)(hi:H.get i=none:=by first|rfl|exact dz)(e:K (.rs i css.length sz css.length) (H.put i (.aD t sz css))=q:=by exact fj):tU t sz css H K:=Iz i h0 hi (e ▸ k)
def NK(i:Nat){t et:UY}{sz n:Nat}{zs:U1}{l c:Operand}{f:UP}{d:ix fun r H'=>eG A H H'/\f r H'}(k:q)(hl:ev l=.raw (.int .i64 (n:Int)):=by rfl)(hc:ev c=.raw (.int .i64 (n:Int)):=by rfl)(ht:iE P t=some et:=by(simp only[go_sem];rfl))(hs:cQ P et=some sz:=by(simp only[go_sem];rfl))(hz:dS P et=some zs:=by(simp only[go_sem];rfl))(XV:zs.length=sz:=by rfl)(h0:0<sz:=by decide)(hr:room (jW P et) n:=by(simp only[go_sem];omega))(hi:H.get i=none:=by first|rfl|exact dz)
  (e:f (.rs i n sz n) (H.put i (.aD et sz (List.replicate n (zs.map .raw))))=q:=by exact fj):jg P (.makeSlice t l c) 0 ev H (AP (fun r H'=>eG A H H'/\f r H') d):=
 MA (K:=AP (fun r H'=>eG A H H'/\f r H') d) (q:=eG A H (H.put i (.aD et sz (List.replicate n (zs.map .raw))))/\q) i ⟨eG.put hi,k⟩ hl hc ht hs hz XV h0 hr hi (by show(eG A H _/\f _ _)=_;rw[e])
variable{l0:UR}
def R5(h4:oO [] H l0)(h5:(ids l0).Nodup):eG A H ⟨H.B,gB H.l l0⟩:=fun i r _ hi=>by
 left
 show az (gB H.l l0) i=some r;rw[ud _ _ _ (fun _ _ _=>trivial) h5];cases e:az l0 i with
 |none=>exact hi
 |some x=>
  rcases Aq h4 i x e with h|h
  ·simp at h
  ·rw[hi]at h;cases h
def cN{f:FuncId}{args:US}{g:UP}{d:ix fun r H'=>eG A H H'/\g r H'}{r0:AV}(hc:ab P f args [] fun r l'=>r=r0/\l'=l0)(k:q)(h0:aW P f=true:=by exact dz)(h2:aR eo args=true:=by exact dz)
 (h4:oO [] H l0:=by exact dz) (h5:(ids l0).Nodup:=by exact dz) (e:g r0 ⟨H.B,gB H.l l0⟩=q:=by exact fj):eQ P (.raw (.func (.func f) #[] #[])) args H (AP (fun r H'=>eG A H H'/\g r H') d):=
 nS h0 (vF (K:=AP (fun r H'=>eG A H H'/\g r H') d) hc trivial (by simpa[ids]using h2) trivial h4 h5 ⟨R5 h4 h5,e ▸ k⟩)
end
attribute [go_sem] AD
-- calls under guards, that change things
def JT(D:UW):Option Tmp->Bool
 |some t=>D.contains t
 |none=>false
def D6(P:U3)(ev:UZ)(H:Hp)(K:UP):Op->Prop
 |.call { callee:=.value f,args,.. }=>eQ P (ev f) (args.toList.map ev) H K
 |_=>False
def kq(D:UW)(P:U3)(ops:Array Oper)(K:UO):List Oper->UO
 |[],F,H=>K F H
 |o::rest,F,H=>match o.guard with
  |none=>vc P (bM F) H o.type (fun r H'=>kq D P ops K rest (cr F o.dst r) H') o.op
  |some (j,want)=>match mo ops F j want with
   |some b=>if(JT D o.dst && jm o.op)=true then(b=true->gp F o.op=true/\D6 P (bK F) H (fun r H'=>kq D P ops K rest (cr F o.dst r) H') o.op)/\(b=false->kq D P ops K rest (cr F o.dst (.gd false (.raw (.bool false)))) H)
    else if jm o.op || iT o.op then eJ P F H b (fun r=>kq D P ops K rest (cr F o.dst r) H) o.op
    else(b=true->vc P (bM F) H o.type (fun r H'=>kq D P ops K rest (cr F o.dst r) H') o.op)/\(b=false->kq D P ops K rest (cr F o.dst .any) H)
   |none=>False
section
variable {P:U3}{ops:Array Oper}
theorem xb{D:UW}{K:UO}:∀(l:List Oper) (F:US) (H:Hp),kq D P ops K l F H->vL P ops K l F H
 |[],F,H,h=>FJ h
 |o::rest,F,H,h=>by
  refine IL ?_;simp only[kq]at h;split at h
  ·rename_i hg;exact(qR (K:=fun F' H'=>kq D P ops K rest F' H') hg h).mono fun F' H' hk=>xb rest F' H' hk
  ·rename_i j want hg;split at h
   ·rename_i b hb;split at h
    ·rename_i hd;refine nB.mono (K:=fun F' H'=>kq D P ops K rest F' H') ?_ fun F' H' hk=>xb rest F' H' hk
     obtain⟨dst,op,ty,pos,after,guard⟩:=o;have hc:jm op=true:=by simp only[Bool.and_eq_true]at hd;exact hd.2
     cases op<;>first|(cases hc;done)|skip
     rename_i c;obtain⟨callee,args,ts⟩:=c;cases callee<;>first|(cases hc;done)|skip
     rename_i f;refine pT hg hb (fun VE w tm Q next h1 h2 hn=>?_) (fun VE=>⟨.gd false (.raw (.bool false)),qH rfl,h.2 VE⟩);obtain⟨ok,Vz⟩:=h.1 VE;have Xw:=qy ok;have e1:kN F f=bK F f:=Xw f (by simp[Op.operands,Call.operands]);have e2:args.toList.map (kN F)=args.toList.map (bK F):=List.map_congr_left fun x hx=>Xw x (by simp[Op.operands,Call.operands]at hx ⊢;exact .inr hx)
     refine xa (ev:=kN F) e1 e2 Vz h1 (sQ h2) fun v r' w' H' hR g1 g2 g3=>?_
     rw[Act.put_eq];exact hn _ w' _ H' hR g1 ((h2.ext g3).put dst g2 []) g3
    split at h
    ·refine nB.mono (K:=fun F' H'=>kq D P ops K rest F' H') ?_ fun F' H' hk=>xb rest F' H' hk
     obtain⟨dst,op,ty,pos,after,guard⟩:=o;unfold eJ at h;split at h
     ·rename_i f args argTypes XQ;cases XQ;obtain⟨r,hc,hk⟩:=h;refine pT hg hb (fun VE w tm Q next h1 h2 hn=>?_) (fun VE=>⟨_,qH VE,hk⟩);obtain⟨ok,Vz⟩:=hc VE;have Xw:=qy ok;have e1:kN F f=bK F f:=Xw f (by simp[Op.operands,Call.operands]);have e2:args.toList.map (kN F)=args.toList.map (bK F):=List.map_congr_left fun x hx=>Xw x (by simp[Op.operands,Call.operands]at hx ⊢;exact .inr hx)
      refine xa (ev:=kN F) e1 e2 Vz h1 (sQ h2) fun v r' w' H' hR g1 g2 g3=>?_
      obtain⟨rfl,rfl⟩:=hR;rw[Act.put_eq];exact hn _ w' _ H' hk g1 ((h2.ext g3).put dst (tO VE g2) []) g3
     ·rename_i f m args argTypes XQ;cases XQ;obtain⟨r,hc,hk⟩:=h;refine pT hg hb (fun VE w tm Q next h1 h2 hn=>?_) (fun VE=>⟨_,qH VE,hk⟩);obtain⟨ok,Vz⟩:=hc VE;have Xw:=qy ok;have e1:kN F f=bK F f:=Xw f (by simp[Op.operands,Call.operands]);have e2:args.toList.map (kN F)=args.toList.map (bK F):=List.map_congr_left fun x hx=>Xw x (by simp[Op.operands,Call.operands]at hx ⊢;exact .inr hx)
      refine Be (ev:=kN F) e1 e2 Vz h1 (sQ h2) fun v r' w' H' hR g1 g2 g3=>?_
      obtain⟨rfl,rfl⟩:=hR;rw[Act.put_eq];exact hn _ w' _ H' hk g1 ((h2.ext g3).put dst (tO VE g2) []) g3
     ·rename_i c x y XQ;simp only at XQ;subst XQ;obtain⟨hs,hk⟩:=h;refine pT hg hb (fun VE w tm Q next h1 h2 hn=>?_) (fun VE=>⟨_,qH VE,hk⟩);obtain⟨ok,hq⟩:=hs VE;obtain⟨v,B',hv⟩:=Jq (P:=P) (ρ:=(Act.mk tm []).eval) (dst:=dst) (ty:=ty) (pos:=pos) (after:=after) (guard:=guard) (Dk h2 c ok) (h2.eval [] x) (h2.eval [] y) hq;simp only[Oper.wp,B',Oper.upon];rw[Act.put_eq];exact hn _ w _ H hk h1 (h2.put dst (tO VE hv) []) (Ext.refl w H)
     ·split at h
      ·obtain⟨hs,hk⟩:=h;refine pT hg hb (fun VE w tm Q next h1 h2 hn=>?_) (fun VE=>⟨_,qH VE,hk⟩);obtain⟨ok,hq⟩:=hs VE;rw[<-uE _ (qy ok)]at hq;obtain⟨v,B',hv⟩:=yQ (ρ:=(Act.mk tm []).eval) ⟨dst,op,ty,pos,after,guard⟩ h1 (sQ h2) hq;simp only[Oper.wp,B',Oper.upon];rw[Act.put_eq];rw[uE _ (qy ok)]at hv;exact hn _ w _ H hk h1 (h2.put dst (tO VE hv) []) (Ext.refl w H)
      ·exact h.elim
    ·refine nB.mono (K:=fun F' H'=>kq D P ops K rest F' H') ?_ fun F' H' hk=>xb rest F' H' hk
     refine pT hg hb (fun VE w tm Q next h1 h2 hn=>?_) (fun VE=>⟨_,fun w=>.any _,h.2 VE⟩);exact Cu (h.1 VE) h1 h2 (fun x=>h2.eval [] x) hn
   ·exact h.elim
end
section
variable {D:UW}{P:U3}{ops:Array Oper}{K:UO}
@[go_sem] def j8h(F:US)(H:Hp):kq D P ops K [] F H=K F H:=(rfl)
@[go_sem] def j6b(dst:Option Tmp)(op:Op)(ty:UY)(pos:String)(after:Array Edge)(rest:List Oper)(F:US)(H:Hp) :
  kq D P ops K (⟨dst,op,ty,pos,after,none⟩::rest) F H=vc P (bM F) H ty (AP (fun r H'=>kq D P ops K rest (cr F dst r) H') .mk) op:=(rfl)
def B9(P:U3)(F:US)(H:Hp)(K:UP):Op->Prop
 |.call { callee:=.value f,args,.. }=>((jZ (bM F f)).1=true/\qL F args.toList)/\eQ P (bK F f) (args.toList.map (bK F)) H K
 |_=>False
@[go_sem] def j51{F:US}{H:Hp}{K:UP}(f:Operand)(zl:Array Operand)(ts:Array UY):B9 P F H K (.call ⟨.value f,zl,ts⟩)=(((jZ (bM F f)).1=true/\qL F zl.toList)/\eQ P (bK F f) (zl.toList.map (bK F)) H K):=(rfl)
def QW{F:US}{H:Hp}{K:UP}{op:Op}(h:jm op=true):(gp F op=true/\D6 P (bK F) H K op)=B9 P F H K op:=by
 cases op<;>first|(cases h;done)|skip
 rename_i c;obtain⟨callee,args,ts⟩:=c;cases callee<;>first|(cases h;done)|skip
 rename_i f;rw[Io];rfl
@[go_sem] def j3p(t:Nat)(op:Op)(ty:UY)(pos:String)(after:Array Edge)(j:Nat)(want:Bool)(rest:List Oper)(F:US)(H:Hp) :
  kq D P ops K (⟨some t,op,ty,pos,after,some (j,want)⟩::rest) F H=rn (mo ops F j want) (fun b=>pX (D.contains t && jm op)
   (sC b (B9 P F H (AP (fun r H'=>kq D P ops K rest (cr F (some t) r) H') .mk) op) (kq D P ops K rest (cr F (some t) (.gd false (.raw (.bool false)))) H) .mk .mk)
   (pX (jm op || iT op) (eJ P F H b (wk (fun r=>kq D P ops K rest (cr F (some t) r) H) .mk) op)
    ((b=true->vc P (bM F) H ty (AP (fun r H'=>kq D P ops K rest (cr F (some t) r) H') .mk) op)/\(b=false->kq D P ops K rest (cr F (some t) .any) H)) .mk .mk) .mk .mk) .mk:=by
 conv=>lhs;unfold kq
 simp only;unfold rn pX sC JT;cases mo ops F j want with
 |none=>rfl
 |some b=>
  simp only;by_cases hc:(D.contains t && jm op)=true
  ·rw[if_pos hc,if_pos hc];have hv:jm op=true:=by simp only[Bool.and_eq_true]at hc;exact hc.2
   rw[<-QW hv];rfl
  ·rw[if_neg hc,if_neg hc];rfl
end
def sS{P:U3}{id:Nat}{l:List Oper}{Q:Exit->UO}{F:US}{H:Hp}(D:UW)(h:q)(e:kq D P l.toArray (Q .normal) l F H=q:=by exact fj):dJ P (.region id l.toArray false) Q F H:=
 Fa (by simpa using xb l F H (e ▸ h))
def io{b:Bool}{X Y X' Y' pt pf:Prop}{d:ix X}{d':ix Y}(ht:pt->X')(hf:pf->Y')
 (et:(b=true)=pt:=by first|(simp only[Int.reduceEq,Int.reduceLE,Int.reduceLT,Int.reduceNe,false_and,and_false,true_and,and_true,or_false,false_or,true_or,or_true,Bool.false_eq_true,Bool.true_eq_false,eq_self,reduceCtorEq,Bool.not_true,Bool.not_false,Bool.and_eq_true,Bool.or_eq_true,Bool.and_eq_false_iff,Bool.or_eq_false_iff,decide_eq_true_eq,decide_eq_false_iff_not,Bool.not_eq_true',Bool.not_eq_false',Int.not_lt,Int.not_le];rfl)|rfl) (ef:(b=false)=pf:=by first|(simp only[Int.reduceEq,Int.reduceLE,Int.reduceLT,Int.reduceNe,false_and,and_false,true_and,and_true,or_false,false_or,true_or,or_true,Bool.false_eq_true,Bool.true_eq_false,eq_self,reduceCtorEq,Bool.not_true,Bool.not_false,Bool.and_eq_true,Bool.or_eq_true,Bool.and_eq_false_iff,Bool.or_eq_false_iff,decide_eq_true_eq,decide_eq_false_iff_not,Bool.not_eq_true',Bool.not_eq_false',Int.not_lt,Int.not_le];rfl)|rfl) (eX:X=X':=by exact fj) (eY:Y=Y':=by exact fj):sC b X Y d d':=⟨fun h=>eX ▸ ht (et ▸ h),fun h=>eY ▸ hf (ef ▸ h)⟩
def BK(A:AS)(l0:UR):List U5->Prop
 |[]=>True
 |(i,r)::l=>(A.1.contains i=true\/az l0 i=some r)/\BK A l0 l
theorem Jr{A:AS}{l0:UR}:∀{l:UR},BK A l0 l->∀{i:Nat},(ids l).contains i=true->A.1.contains i=true\/∃r,az l i=some r/\az l0 i=some r
 |[],_,i,h=>by simp[ids]at h
 |(j,r)::l,hk,i,h=>by
  by_cases e:i=j
  ·subst e;rcases hk.1 with g|g
   ·exact .inl g
   ·exact .inr ⟨r,by simp[az],g⟩
  ·have h:(ids l).contains i=true:=by
    simp only[ids,List.map_cons,List.contains_cons,Bool.or_eq_true,beq_iff_eq]at h;rcases h with h|h
    ·exact(e h).elim
    ·exact h
   rcases Jr hk.2 h with g|⟨s,g1,g2⟩
   ·exact .inl g
   ·exact .inr ⟨s,by simp only[az,if_neg e];exact g1,g2⟩
def sH{P:U3}{A:AS}{H:Hp}{f:FuncId}{args:US}{g:UP}{d:ix fun r H'=>eG A H H'/\g r H'}{l0:UR}{r0:AV}(hc:ab P f args l fun r l'=>r=r0/\l'=l0)(k:q)(hA:BK A l0 l:=by(repeat' (first|exact jI|exact Or.inl rfl|exact Or.inr rfl|refine jA ?_ ?_)))(h1:si l H:=by exact dz)(h0:aW P f=true:=by exact dz)(h2:aR (fun i=>(ids l).contains i) args=true:=by exact dz)(h3:rJ (fun i=>(ids l).contains i) l:=by exact dz)
 (h4:oO (ids l) H l0:=by exact dz) (h5:(ids l0).Nodup:=by exact dz) (e:g r0 ⟨H.B,gB H.l l0⟩=q:=by exact fj):eQ P (.raw (.func (.func f) #[] #[])) args H (AP (fun r H'=>eG A H H'/\g r H') d):=
 have hx:eG A H ⟨H.B,gB H.l l0⟩:=fun i r hi hr=>by
  left
  show az (gB H.l l0) i=some r;rw[ud _ _ _ (fun _ _ _=>trivial) h5];cases e':az l0 i with|none=>exact hr|some x=>
   rcases Aq h4 i x e' with h|h
   ·rcases Jr hA h with g|⟨s,g1,g2⟩
    ·rw[g]at hi;cases hi
    ·rw[g2]at e';cases e';rw[C5 h1 i _ g1]at hr;cases hr;rfl
   ·rw[hr]at h;cases h
 nS h0 (vF (K:=AP (fun r H'=>eG A H H'/\g r H') d) hc h1 h2 h3 h4 h5 ⟨hx,e ▸ k⟩)
variable {P:U3}{H:Hp}
def Nl{e:UY}{d:Nat}{x:AV}{c:Prop}{css ys:UQ}(k:q)(hd:H.get d=some (.aD e sz css):=by(simp(disch:=first|omega|assumption|fail) only[go_sem,rD,↓reduceIte,Int.reduceEq,Int.reduceLE,Int.reduceLT,Int.reduceNe,Int.reduceToNat,Nat.reduceMul,Nat.reduceAdd,Nat.reduceLeDiff,Nat.reduceSub,Nat.reduceEqDiff,Nat.reduceBEq,List.nodup_cons,List.nodup_nil,List.mem_cons,List.not_mem_nil,List.mem_nil_iff];first|rfl|exact⟨rfl,rfl⟩|exact⟨rfl,rfl,rfl⟩))(ht:iE P t=some e:=by first|(simp only[go_sem];done)|(simp only[go_sem];rfl))(WJ:cQ P e=some sz:=by(simp only[go_sem];done))(hze:dS P e=some zs:=by first|(simp only[go_sem];done)|(simp only[go_sem];rfl))(XV:zs.length=sz:=by rfl)(h0:0<sz:=by decide)(hn:css.length=n:=by first|rfl|exact List.length_replicate|exact dz)(YO:wB H x=some (c,ys):=by rfl)(hc:c:=by trivial)(hg:Good sz ys:=by exact dz)(YU:ys.length<=n:=by first|assumption|(simp only[List.length_map];omega)|exact dz)
  (he:K (.raw (.int .i64 (ys.length:Nat))) (H.put d (.aD e sz (fl css 0 ys)))=q:=by exact fj):re P .copy [t,t] [.rs d n sz n,x] H K:=by
 subst hn;have hk:=he ▸ k;intro w vs ty cs hw hr;obtain⟨vd,vx,rfl⟩:∃vd vx,vs=[vd,vx]:=by
  have:=hr.1;match vs,this with
  |[vd,vx],_=>exact⟨vd,vx,rfl⟩
 have hu:=vC ht;obtain⟨i,z,hi,Vx,Xu,Zd,Zn⟩:=yj WJ hze XV;obtain⟨A',cx,news,rfl,Vy,Wq⟩:=Cg hw (hr.2 1 _ vx rfl rfl) YO hc hg;have XU:aw w (.rs d css.length sz css.length) vd:=hr.2 0 _ vd rfl rfl;have Wm:ys.flatten.length=ys.length*sz:=ij fun y hy=>(hg y hy).1
 have W0:news.length=ys.length*sz:=by rw[<-Vy.1,Wm]
 have WV:cI ys.flatten=true:=by simp only[cI,List.all_eq_true];intro u Zo;obtain⟨y,hy,huy⟩:=List.mem_flatten.1 Zo;have:=(hg y hy).2;simp only[cI,List.all_eq_true]at this;exact this u huy
 have hf:(Builtin.firstCells i.size ys.length (.slice A' ys.length cx)).run P w.toWorld=.ok news.toArray w.toWorld:=by
  by_cases h0:ys.length=0
  ·have:news=[]:=by have:=W0;rw[h0,Nat.zero_mul]at this;simpa using this
   subst this;rw[h0];cases A'<;>simp[Builtin.firstCells,loadCells,loadCellsFrom]
  ·obtain⟨ad,rfl,D'⟩:=Wq jB;exact run_firstCells_some (P:=P) w.toWorld i.size ys.length ad ys.length cx news (by rw[Vx];exact W0) D'
 rw[Vx]at hf;have hok:=(hw.rows d _ hd).1;have Vu:∀cs∈fl css 0 ys,cs.length=sz:=fun cs h=>by
  unfold fl at h;rcases List.mem_append.1 h with h|h
  ·rcases List.mem_append.1 h with h|h
   ·exact hok.2 _ (List.mem_of_mem_take h)
   ·exact(hg cs h).1
  ·exact hok.2 _ (List.mem_of_mem_drop h)
 have W5:=ij hok.2;have Vf:=xd (css:=css) ys (Nat.zero_le _);have hmn:Nat.min ys.length css.length=ys.length:=Nat.min_eq_left YU;generalize hN:css.length=N at XU;cases XU with
 |iH _ _ _ A Vh=>
  have YV:ys=[]:=List.length_eq_zero_iff.1 jB;subst YV;refine⟨w,_,_,.int .i64 0,?_,hk,?_,.raw _,?_⟩
  ·have Xz:news=[]:=by simpa using W0
   subst Xz;have hN':Nat.min ([]:UQ).length 0=0:=rfl;have hf:(Builtin.firstCells sz 0 (.slice A' 0 cx)).run P w.toWorld=.ok #[] w.toWorld:=hf;cases A<;>simp[builtin,Builtin.copy_,run_underlying hu,Builtin.lenOf,sizeOf,typeInfo,hi,Vx,hf,storeCells,goInt]
  ·refine{ hw with rows:=fun j r hj=>?_,dt:=fun j q z hz=>?_ }
   ·rw[Hp.bj]at hj;split at hj
    ·rename_i e;subst e;exact hw.rows j r (by rw[hd];exact hj)
    ·exact hw.rows j r hj
   ·rw[Hp.bj];split
    ·rename_i e;subst e;obtain⟨r,g1,g2⟩:=hw.dt j q z hz;rw[hd]at g1;cases g1;exact⟨_,rfl,g2⟩
    ·exact hw.dt j q z hz
  ·exact{ Ext.refl w H with base:=rfl }
 |rs _ _ _ _ b t' cap Vh Wz Vj Wp=>
  subst hN;obtain⟨_,z',VN,Vl⟩:=hw.rows d _ hd;have:z'=.at b t' sz:=by have VN:w.nm d css.length=some z':=VN;rw[Vh]at VN;cases VN;rfl
  subst this;obtain⟨_,cur,hh,⟨VW,U9⟩,Xv⟩:=Vl;have U9:css.flatten.length<=t':=U9;have XT:css.length<=cap:=by rw[W5,<-Wz]at U9;exact Nat.le_of_mul_le_mul_right U9 h0
  have WI:0+ys.flatten.length<=t':=by rw[Wm,Nat.zero_add,<-Wz];exact Nat.mul_le_mul_right _ (Nat.le_trans YU XT)
  obtain⟨w',B',g1,g2,g3⟩:=vS (P:=P) (off:=0) (r':=.aD e sz (fl css 0 ys)) hw hd Vh Vy WV WI rfl rfl rfl rfl (by show css.length<=(fl css 0 ys).length;rw[Vf];omega) ⟨h0,Vu⟩ (by show(fl css 0 ys).flatten.length<=t';rw[ij Vu,Vf,<-Wz];exact Nat.mul_le_mul_right _ (Nat.max_le.2 ⟨XT,jB⟩)) (fun p u hp=>by
   have hp:(fl css 0 ys).flatten[p]?=some u:=hp;unfold fl at hp;rw[List.flatten_append,List.flatten_append]at hp;show if _ then _ else css.flatten[p]?=some u
   simp only[List.take_zero,List.flatten_nil,List.nil_append,Nat.zero_add]at hp;rcases Nat.lt_or_ge p (0+ys.flatten.length)with h'|h'
   ·rw[if_pos ⟨Nat.zero_le _,h'⟩];rw[List.getElem?_append_left jB]at hp;exact hp
   ·rw[jN];rw[List.getElem?_append_right jB]at hp;have e2:css.flatten=(css.take ys.length).flatten++(css.drop ys.length).flatten:=by rw[<-List.flatten_append,List.take_append_drop]
    have e3:(css.take ys.length).flatten.length=ys.flatten.length:=by rw[ij fun c hc=>hok.2 c (List.mem_of_mem_take hc),List.length_take,Nat.min_eq_left YU,Wm]
    rw[e2,List.getElem?_append_right jB,e3];exact hp)
  refine⟨w',_,_,.int .i64 ys.length,?_,hk,g1,.raw _,g2⟩;simp[builtin,Builtin.copy_,run_underlying hu,Builtin.lenOf,sizeOf,typeInfo,hi,Vx,hmn,hf,B',goInt]
mutual
def AV.bV(f:Nat->Nat):AV->AV
 |.raw v=>.raw v
 |.any=>.any
 |.agg cs=>.agg (fb f cs)
 |.aY cs=>.aY (fb f cs)
 |.sl x sz css d=>.sl x sz css d
 |.ip cs=>.ip cs
 |.gd p v=>.gd p (v.bV f)
 |.eT g cs=>.eT g (fb f cs)
 |.pt i m k j=>.pt (f i) m k j
 |.rs i m sz n=>.rs (f i) m sz n
 |.rc i m sz n=>.rc (f i) m sz n
 |.rv i m sz o n=>.rv (f i) m sz o n
 |.mr i=>.mr (f i)
 |.bd g fs=>.bd g (fb f fs)
 |.iS t v=>.iS t (v.bV f)
 |.mv m v=>.mv m (v.bV f)
def fb(f:Nat->Nat):US->US
 |[]=>[]
 |a::l=>a.bV f::fb f l
end
theorem pv(f:Nat->Nat):∀(l:US) (i:Nat),(fb f l)[i]?=(l[i]?).map (AV.bV f)
 |[],i=>by simp[fb]
 |a::l,0=>by simp[fb]
 |a::l,i+1=>by simp only[fb,List.getElem?_cons_succ];exact pv f l i
theorem mK(f:Nat->Nat):∀l:US,(fb f l).length=l.length
 |[]=>rfl
 |a::l=>by simp only[fb,List.length_cons,mK f l]
theorem Gn(f:Nat->Nat):∀l m:US,fb f (l++m)=fb f l++fb f m
 |[],m=>rfl
 |a::l,m=>by simp only[List.cons_append,fb,Gn f l m]
def Row.bV(f:Nat->Nat):Row->Row
 |.var t cs=>.var t (fb f cs)
 |.aD e sz css=>.aD e sz (css.map (fb f))
 |.mp ks vs=>.mp ks (fb f vs)
def Row.jY(f:Nat->Nat)(r:Row):(r.bV f).fD=r.fD:=by cases r<;>simp[Row.bV,Row.fD]
def Row.ku(f:Nat->Nat)(r:Row):(r.bV f).bB=r.bB:=by cases r<;>rfl
def Row.gV(f:Nat->Nat)(r:Row):(r.bV f).cells=fb f r.cells:=by
 cases r with
 |var t cs=>rfl
 |aD e sz css=>
  show(css.map (fb f)).flatten=fb f css.flatten;induction css with
  |nil=>rfl
  |cons c css ih=>simp only[List.map_cons,List.flatten_cons,ih,Gn]
 |mp ks vs=>rfl
def Row.od(f:Nat->Nat)(r:Row)(cur:U0):(r.bV f).obj cur=r.obj cur:=by cases r<;>rfl
def Row.nY(f:Nat->Nat)(r:Row)(n t:Nat):(r.bV f).fit n t=r.fit n t:=by
 have h:=r.gV f;cases r with
 |var ty cs=> show(n=t/\(Row.var ty (fb f cs)).cells.length<=t)=_;have h:(Row.var ty (fb f cs)).cells=fb f (Row.var ty cs).cells:=h;rw[h,mK];rfl
 |aD e sz css=> show(n=t/\(Row.aD e sz (css.map (fb f))).cells.length<=t)=_;have h:(Row.aD e sz (css.map (fb f))).cells=fb f (Row.aD e sz css).cells:=h;rw[h,mK];rfl
 |mp ks vs=>show(n=(fb f vs).length)=_;rw[mK];rfl
variable{f:Nat->Nat}{r:Row}
def Row.u0(h:r.ok):(r.bV f).ok:=by
 cases r with
 |var t cs=>trivial
 |aD e sz css=> refine⟨h.1,fun cs VW=>?_⟩;obtain⟨c,hc,rfl⟩:=List.mem_map.1 VW;rw[mK];exact h.2 c hc
 |mp ks vs=>show ks.length=(fb f vs).length;rw[mK];exact h
def lF(f:Nat->Nat)(l:UR):UR:=l.map fun x=>(f x.1,x.2.bV f)
def yw(f:Nat->Nat)(l:UR):ids (lF f l)=(ids l).map f:=by unfold ids lF;simp[List.map_map,Function.comp_def]
theorem y8{f g:Nat->Nat}(hf:∀i,g (f i)=i):∀(l:UR) (i:Nat),az (lF f l) (f i)=(az l i).map (Row.bV f)
 |[],i=>rfl
 |(j,r)::l,i=>by
  show(if f i=f j then some (r.bV f)else az (lF f l) (f i))=((if i=j then some r else az l i):Option Row).map _;by_cases h:i=j
  ·subst h;rw[if_pos rfl,if_pos rfl];rfl
  ·rw[if_neg h,if_neg (fun e=>h (by rw[<-hf i,<-hf j,e])),y8 hf l i]
variable{l:UR}{j:Nat}
def xo{g:Nat->Nat}(hf:∀i,g (f i)=i)(h:az (lF f l) j=some r):∃i r0,j=f i/\r=r0.bV f/\az l i=some r0:=by
 induction l with
 |nil=>cases h
 |cons x l ih=>
  obtain⟨k,s⟩:=x;have h:(if j=f k then some (s.bV f)else az (lF f l) j)=some r:=h;by_cases e:j=f k
  ·rw[if_pos e]at h;cases h;exact⟨k,s,e,rfl,by simp[az]⟩
  ·rw[if_neg e]at h;obtain⟨i,r0,h1,h2,h3⟩:=ih h;refine⟨i,r0,h1,h2,?_⟩;show(if i=k then some s else az l i)=_;rw[if_neg (fun e'=>e (by rw[h1,e']))];exact h3
@[reducible] def NW.pull(f:Nat->Nat)(w:NW):NW:={ w with nm:=fun i m=>w.nm (f i) m }
@[reducible] def NW.push(f g:Nat->Nat)(w:NW):NW:={ w with nm:=fun j m=>if f (g j)=j then w.nm (g j) m else none }
def NW.o9{g:Nat->Nat}(hf:∀i,g (f i)=i)(w:NW):(w.push f g).pull f=w:=by
 obtain⟨W,O,nm⟩:=w;show NW.mk W O _=NW.mk W O nm;congr 1
 funext i m
 show(if f (g (f i))=f i then nm (g (f i)) m else none)=nm i m;rw[hf,if_pos rfl]
def Hu{a:AV}{v:Value}{w0:NW}(h:aw w0 a v):∀w:NW,w0=w.pull f->aw w (a.bV f) v:=by
 induction h with
 |raw v=>intro w e;simp only[AV.bV];exact .raw v
 |any v=>intro w e;simp only[AV.bV];exact .any v
 |agg cs vs hl _ ih=>
  intro w e;simp only[AV.bV];refine .agg _ vs (by rw[mK];exact hl) fun i a v h1 h2=>?_
  rw[pv]at h1;cases hc:cs[i]? with
  |none=>rw[hc]at h1;cases h1
  |some b=>rw[hc]at h1;cases h1;exact ih i b v hc h2 w e
 |aY cs vs hl _ ih=>
  intro w e;simp only[AV.bV];refine .aY _ vs (by rw[mK];exact hl) fun i a v h1 h2=>?_
  rw[pv]at h1;cases hc:cs[i]? with
  |none=>rw[hc]at h1;cases h1
  |some b=>rw[hc]at h1;cases h1;exact ih i b v hc h2 w e
 |hJ x sz A c hx=>intro w e;simp only[AV.bV];exact .hJ x sz A c hx
 |sl x sz css a c vs hn hc hx Vb hb hH D' Wb _=>intro w e;subst e;simp only[AV.bV];exact .sl x sz css a c vs hn hc hx Vb hb hH D' Wb
 |ip cs a vs hb hH D' Wb _=>intro w e;subst e;simp only[AV.bV];exact .ip cs a vs hb hH D' Wb
 |gd p a v _ hu ih=>intro w e;simp only[AV.bV];exact .gd p _ v (fun hp=>ih hp w e) hu
 |eT g cs vs hl _ ih=>
  intro w e;simp only[AV.bV];refine .eT g _ vs (by rw[mK];exact hl) fun i a v h1 h2=>?_
  rw[pv]at h1;cases hc:cs[i]? with
  |none=>rw[hc]at h1;cases h1
  |some b=>rw[hc]at h1;cases h1;exact ih i b v hc h2 w e
 |pt i m k j b t s h=>intro w e;subst e;simp only[AV.bV];exact .pt (f i) m k j b t s h
 |iH i m sz A h=>intro w e;subst e;simp only[AV.bV];exact .iH (f i) m sz A h
 |rs i m sz n b t c h hc hn hs=>intro w e;subst e;simp only[AV.bV];exact .rs (f i) m sz n b t c h hc hn hs
 |rc i m sz n b t h hc hn hs=>intro w e;subst e;simp only[AV.bV];exact .rc (f i) m sz n b t h hc hn hs
 |kj i m sz o c A=>intro w e;simp only[AV.bV];exact .kj (f i) m sz o c A
 |rv i m sz o n b t c h hn=>intro w e;subst e;simp only[AV.bV];exact .rv (f i) m sz o n b t c h hn
 |mr i b t s h=>intro w e;subst e;simp only[AV.bV];exact .mr (f i) b t s h
 |bd g fs vs hl _ ih=>
  intro w e;simp only[AV.bV];refine .bd g _ vs (by rw[mK];exact hl) fun i a v h1 h2=>?_
  rw[pv]at h1;cases hc:fs[i]? with
  |none=>rw[hc]at h1;cases h1
  |some b=>rw[hc]at h1;cases h1;exact ih i b v hc h2 w e
 |iS t a v _ ih=>intro w e;simp only[AV.bV];exact .iS t _ v (ih w e)
 |mv m a v _ ih=>intro w e;simp only[AV.bV];exact .mv m _ v (ih w e)
mutual
theorem wi{f:Nat->Nat}{w:NW}:∀(a:AV) (v:Value),aw w (a.bV f) v->aw (w.pull f) a v
 |.raw x,v,h=>by simp only[AV.bV]at h;cases h;exact .raw _
 |.any,v,h=>.any v
 |.agg cs,v,h=>by
  simp only[AV.bV]at h;cases h with
  |agg _ vs hl hh=>exact .agg cs vs (by rw[mK]at hl;exact hl) fun i a u h1 h2=>xc cs i a h1 u (hh i _ u (by rw[pv,h1];rfl) h2)
 |.aY cs,v,h=>by
  simp only[AV.bV]at h;cases h with
  |aY _ vs hl hh=>exact .aY cs vs (by rw[mK]at hl;exact hl) fun i a u h1 h2=>xc cs i a h1 u (hh i _ u (by rw[pv,h1];rfl) h2)
 |.sl x sz css d,v,h=>by
  simp only[AV.bV]at h;cases h with
  |hJ _ _ A c hx=>exact .hJ x sz A c hx
  |sl _ _ _ a c vs hn hc hx Vb hb hH D' Wb=>exact .sl x sz css a c vs hn hc hx Vb hb hH D' Wb
 |.ip cs,v,h=>by
  simp only[AV.bV]at h;cases h with
  |ip _ a vs hb hH D' Wb=>exact .ip cs a vs hb hH D' Wb
 |.gd p x,v,h=>by
  simp only[AV.bV]at h;cases h with
  |gd _ _ _ h1 hu=>exact .gd p x v (fun hp=>wi x v (h1 hp)) hu
 |.eT g cs,v,h=>by
  simp only[AV.bV]at h;cases h with
  |eT _ _ vs hl hh=>exact .eT g cs vs (by rw[mK]at hl;exact hl) fun i a u h1 h2=>xc cs i a h1 u (hh i _ u (by rw[pv,h1];rfl) h2)
 |.pt i m k j,v,h=>by
  simp only[AV.bV]at h;cases h with
  |pt _ _ _ _ b t s hn=>exact .pt i m k j b t s hn
 |.rs i m sz n,v,h=>by
  simp only[AV.bV]at h;cases h with
  |iH _ _ _ A hn=>exact .iH i m sz A hn
  |rs _ _ _ _ b t c hn h1 h2 h3=>exact .rs i m sz n b t c hn h1 h2 h3
 |.rc i m sz n,v,h=>by
  simp only[AV.bV]at h;cases h with
  |rc _ _ _ _ b t hn h1 h2 h3=>exact .rc i m sz n b t hn h1 h2 h3
 |.rv i m sz o n,v,h=>by
  simp only[AV.bV]at h;cases h with
  |kj _ _ _ _ c A=>exact .kj i m sz o c A
  |rv _ _ _ _ _ b t c hn h1=>exact .rv i m sz o n b t c hn h1
 |.mr i,v,h=>by
  simp only[AV.bV]at h;cases h with
  |mr _ b t s hn=>exact .mr i b t s hn
 |.bd g fs,v,h=>by
  simp only[AV.bV]at h;cases h with
  |bd _ _ vs hl hh=>exact .bd g fs vs (by rw[mK]at hl;exact hl) fun i a u h1 h2=>xc fs i a h1 u (hh i _ u (by rw[pv,h1];rfl) h2)
 |.iS t x,v,h=>by
  simp only[AV.bV]at h;cases h with
  |iS _ _ u h1=>exact .iS t x u (wi x u h1)
 |.mv m x,v,h=>by
  simp only[AV.bV]at h;cases h with
  |mv _ _ u h1=>exact .mv m x u (wi x u h1)
theorem xc{f:Nat->Nat}{w:NW}:∀(l:US) (i:Nat) (a:AV),l[i]?=some a->∀v,aw w (a.bV f) v->aw (w.pull f) a v
 |[],i,a,h,v,hv=>by simp at h
 |x::l,0,a,h,v,hv=>by
  have e:x=a:=by simpa using h
  rw[<-e]at hv ⊢;exact wi x v hv
 |x::l,i+1,a,h,v,hv=>xc l i a (by simpa using h) v hv
end
variable{w:NW}
def TZ{z:Rz}(h:gD (w.pull f) r z):gD w (r.bV f) z:=by
 cases z with
 |nil=> obtain⟨e,sz,rfl⟩:=h;exact⟨e,sz,rfl⟩
 |«at» b t s=>
  obtain⟨h1,cur,h2,h3,h4⟩:=h;refine⟨h1.trans (r.ku f).symm,cur,by rw[Row.od];exact h2,by rw[Row.nY];exact h3,fun i a v h5 h6=>?_⟩;rw[Row.gV,pv]at h5;cases hc:r.cells[i]? with
  |none=>rw[hc]at h5;cases h5
  |some c=>rw[hc]at h5;cases h5;exact Hu (h4 i c v hc h6) w rfl
def PV{z:Rz}(h:gD w (r.bV f) z):gD (w.pull f) r z:=by
 cases z with
 |nil=>
  obtain⟨e,sz,h⟩:=h;cases r with
  |var t cs=>cases h
  |aD e' sz' css=>
   have h:Row.aD e' sz' (css.map (fb f))=Row.aD e sz []:=h;cases css with
   |nil=>exact⟨e',sz',rfl⟩
   |cons c css=>cases h
  |mp ks vs=>cases h
 |«at» b t s=> obtain⟨h1,cur,h2,h3,h4⟩:=h;rw[Row.od]at h2;rw[Row.nY]at h3;refine⟨h1.trans (r.ku f),cur,h2,h3,fun i a v h5 h6=>?_⟩;exact wi a v (h4 i (a.bV f) v (by rw[Row.gV,pv,h5];rfl) h6)
theorem ab.bV{P:U3}{fn:FuncId}{args:US}{l:UR}{R:AV->List U5->Prop}{f g:Nat->Nat}(hf:∀i,g (f i)=i)(hc:ab P fn args l R) :
  ab P fn (fb f args) (lF f l) fun r l'=>∃r0 l0,r=AV.bV f r0/\l'=lF f l0/\R r0 l0:=fun w vs hw hv=>by
 have inj:∀{i j},f i=f j->i=j:=fun{i j} e=>by rw[<-hf i,<-hf j,e]
 have hW:aF (w.pull f) (entry l):={
  bY:=hw.bY
  rows:=fun i r hi=>by
   have hi:az l i=some r:=hi;obtain⟨h1,z,h2,h3⟩:=hw.rows (f i) (r.bV f) (by show az (lF f l) (f i)=_;rw[y8 hf,hi];rfl);refine⟨?_,z,by rw[Row.jY]at h2;exact h2,PV h3⟩;cases r with
   |var t cs=>trivial
   |aD e sz css=>exact⟨h1.1,fun cs VW=>by have:=h1.2 (fb f cs) (List.mem_map_of_mem VW);rw[mK]at this;exact this⟩
   |mp ks vs=>have h1:ks.length=(fb f vs).length:=h1;rw[mK]at h1;exact h1
  dt:=fun i m z h=>by obtain⟨r,h1,h2⟩:=hw.dt (f i) m z h;obtain⟨i',r0,e1,rfl,e3⟩:=xo hf h1;cases inj e1;exact⟨r0,e3,by rw[Row.jY]at h2;exact h2⟩
  inj:=fun i m j n b t s t' s' h1 h2=>inj (hw.inj _ _ _ _ _ _ _ _ _ h1 h2)
  own:=fun i m b t s h=>hw.own _ _ _ _ _ h
  fin:=hw.fin }
 have hV:br (w.pull f) args vs:=⟨by have:=hv.1;rw[mK]at this;exact this,fun i a v h1 h2=>wi a v (hv.2 i _ v (by rw[pv,h1];rfl) h2)⟩;refine(hc (w.pull f) vs hW hV).mono ?_;rintro e W ⟨v,r,H',w',rfl,rfl,hR,h1,h2,h3⟩;have hp:=NW.o9 hf w';refine⟨v,r.bV f,⟨H'.B.map f,lF f H'.l⟩,w'.push f g,rfl,rfl,⟨r,H'.l,rfl,rfl,hR⟩,?_,?_,?_⟩
 ·exact{
   bY:=h1.bY
   rows:=fun j r hj=>by obtain⟨i,r0,rfl,rfl,e3⟩:=xo hf hj;obtain⟨k1,z,k2,k3⟩:=h1.rows i r0 e3;refine⟨Row.u0 k1,z,?_,TZ (w:=w'.push f g) (by rw[hp];exact k3)⟩;show(if f (g (f i))=f i then w'.nm (g (f i)) (r0.bV f).fD else none)=some z;rw[hf,if_pos rfl,Row.jY];exact k2
   dt:=fun j m z h=>by
    have h:(if f (g j)=j then w'.nm (g j) m else none)=some z:=h;split at h
    ·rename_i e;obtain⟨r0,k1,k2⟩:=h1.dt _ _ _ h;refine⟨r0.bV f,?_,by rw[Row.jY];exact k2⟩;show az (lF f H'.l) j=_;rw[<-e,y8 hf];have k1:az H'.l (g j)=some r0:=k1;rw[k1];rfl
    ·cases h
   inj:=fun i m j n b t s t' s' k1 k2=>by
    have k1:(if f (g i)=i then w'.nm (g i) m else none)=some _:=k1;have k2:(if f (g j)=j then w'.nm (g j) n else none)=some _:=k2;split at k1
    ·rename_i e1;split at k2
     ·rename_i e2;have:=h1.inj _ _ _ _ _ _ _ _ _ k1 k2;rw[<-e1,<-e2,this]
     ·cases k2
    ·cases k1
   own:=fun i m b t s k=>by
    have k:(if f (g i)=i then w'.nm (g i) m else none)=some _:=k;split at k
    ·exact h1.own _ _ _ _ _ k
    ·cases k
   fin:=h1.fin }
 ·exact Hu (w0:=w') h2 (w'.push f g) hp.symm
 ·exact{
   size:=h3.size
   free:=h3.free
   names:=fun j m z hj hz=>by have hj:(ids (lF f l)).contains j=true:=hj;rw[yw]at hj;obtain⟨i,hi,rfl⟩:=List.mem_map.1 (List.contains_iff_mem.1 hj);have:=h3.names i m z (List.contains_iff_mem.2 hi) hz;show(if f (g (f i))=f i then w'.nm (g (f i)) m else none)=some z;rw[hf,if_pos rfl];exact this
   os:=h3.os,tape:=h3.tape,output:=h3.output
   rest:=fun b hb hO Vd=>by
    obtain⟨k1,k2,k3⟩:=h3.rest b hb hO fun i m t s=>Vd (f i) m t s
    refine⟨k1,k2,fun j m t s h=>?_⟩;have h:(if f (g j)=j then w'.nm (g j) m else none)=some _:=h;split at h
    ·exact k3 _ _ _ _ h
    ·cases h
   base:=by show H'.B.map f=ids (lF f l);rw[yw];have:H'.B=ids l:=h3.base;rw[this] }
section
variable {P:U3}{f:FuncId}{args fs:US}{H:Hp}{K:UP}{q:Prop}
def bm{l l0:UR}{r0:AV}(hc:ab P f (fs++args) l fun r l'=>r=r0/\l'=l0)(k:q)(h1:si l H:=by exact dz)(h0:aW P f=true:=by exact dz)(h2:aR (fun i=>(ids l).contains i) (fs++args)=true:=by exact dz)(h3:rJ (fun i=>(ids l).contains i) l:=by exact dz)
 (h4:oO (ids l) H l0:=by exact dz) (h5:(ids l0).Nodup:=by exact dz) (e:K r0 ⟨H.B,gB H.l l0⟩=q:=by exact fj):eQ P (.bd f fs) args H K:=.inl ⟨h0,by have:=vF hc h1 h2 h3 h4 h5 (e ▸ k:K r0 ⟨H.B,gB H.l l0⟩);simpa using this⟩
end
variable {P:U3}{H:Hp}
def Da(w:NW)(v:Value)(k:Nat)(ys:UQ):Prop:=∃A c news,v=.slice A k c/\ys.length<=k/\bZ w ys.flatten news/\(0<ys.length->∃ad,A=some ad/\∀(j:Nat) u,news[j]?=some u->w.cell? (ad.add j)=some u)
variable{ys:UQ}{sz:Nat}
def Eu{H:Hp}{x:AV}{c:Prop}(h:wB H x=some (c,ys))(hc:c)(hg:Good sz ys):∀(w:NW) vx,aF w H->aw w x vx->Da w vx ys.length ys:=fun w vx hw hx=>by obtain⟨A,c',news,e,h1,h2⟩:=Cg hw hx h hc hg;exact⟨A,c',news,e,Nat.le_refl _,h1,h2⟩
variable{d m o k n:Nat}{css:UQ}
def Fz{e:UY}(hd:H.get d=some (.aD e sz css))(hm:m=css.length)(ho:o+k<=m)(hn:n<=k):∀(w:NW) vx,aF w H->aw w (.rv d m sz o k) vx->Da w vx k ((css.drop o).take n):=fun w vx hw hx=>by
 subst hm;obtain⟨hok,_⟩:=hw.rows d _ hd;have Vm:=hok.2;have J':((css.drop o).take n).length=n:=by simp;omega
 cases hx with
 |kj _ _ _ _ c A=> have e0:n=0:=jB;subst e0;exact⟨A,c,[],rfl,jE,⟨rfl,fun i a v h=>by simp at h⟩,fun h=>by simp at h⟩
 |rv _ _ _ _ _ b t c Vh Vj=>
  by_cases h0:n=0
  ·subst h0;exact⟨_,c,[],rfl,jE,⟨rfl,fun i a v h=>by simp at h⟩,fun h=>by simp at h⟩
  have:=zU (w:=w) (sz:=sz) (c:=c) (ys:=(css.drop o).take n) (ad:=⟨b,o*sz,none⟩) (fun y hy=>Vm y (List.mem_of_mem_drop (List.mem_of_mem_take hy))) fun i' j Wx hj=>by obtain⟨_,_,_,v,h1,h2⟩:=sG hw hd Vh (k:=o+i') (j:=j) jB hj;refine⟨v,by rw[j3,<-Nat.add_assoc,<-Nat.add_mul];exact h1,fun u hu=>h2 u ?_⟩;rw[<-hu];simp[List.getElem?_take,show i'<n from jB]
  obtain⟨A,c',news,e,h1,h2⟩:=this;cases e;exact⟨_,c,news,rfl,jB,h1,h2⟩
def Lq(hc:∀c∈css,c.length=sz)(hy:∀c∈ys,c.length=sz)(ho:o+ys.length<=css.length){p:Nat}{u:AV}(hp:(fl css o ys).flatten[p]?=some u):if o*sz<=p/\p<o*sz+ys.flatten.length then ys.flatten[p-o*sz]?=some u else css.flatten[p]?=some u:=by
 have h1:(css.take o).flatten.length=o*sz:=by rw[ij fun c h=>hc c (List.mem_of_mem_take h),List.length_take,Nat.min_eq_left jB]
 have e2:css.flatten=(css.take o).flatten++((css.drop o).take ys.length).flatten++(css.drop (o+ys.length)).flatten:=by
  rw[<-List.flatten_append,<-List.flatten_append];congr 1
  rw[List.append_assoc,<-List.drop_drop,List.take_append_drop,List.take_append_drop]
 have h3:((css.drop o).take ys.length).flatten.length=ys.flatten.length:=by rw[ij fun c h=>hc c (List.mem_of_mem_drop (List.mem_of_mem_take h)),ij hy,List.length_take,List.length_drop,Nat.min_eq_left jB]
 unfold fl at hp;rw[List.flatten_append,List.flatten_append]at hp;generalize (css.take o).flatten=T at*;generalize ((css.drop o).take ys.length).flatten=M at*;generalize (css.drop (o+ys.length)).flatten=D at*;generalize ys.flatten=Y at*;rcases Nat.lt_or_ge p T.length with h|h
 ·rw[jN,e2,List.append_assoc,List.getElem?_append_left h];rw[List.append_assoc,List.getElem?_append_left h]at hp;exact hp
 ·rw[List.append_assoc,List.getElem?_append_right h]at hp;rcases Nat.lt_or_ge (p-T.length) Y.length with h'|h'
  ·rw[List.getElem?_append_left h']at hp;rw[if_pos ⟨jB,jB⟩,<-hp,h1]
  ·rw[List.getElem?_append_right h']at hp;rw[jN,e2,List.append_assoc,List.getElem?_append_right h,List.getElem?_append_right jB,<-hp,h3]
variable{t:UY}{zs:U1}{K:UP}
def yx{e:UY}{x:AV}(hd:H.get d=some (.aD e sz css))(hm:m=css.length)(ht:iE P t=some e)(WJ:cQ P e=some sz)(hze:dS P e=some zs)(XV:zs.length=sz)(h0:0<sz)(hon:o+n<=m)(XH:0<n)
  (YO:∀(w:NW) vx,aF w H->aw w x vx->Da w vx k ys) (hg:Good sz ys) (YW:Nat.min k n=ys.length)
  (hk:K (.raw (.int .i64 (ys.length:Nat))) (H.put d (.aD e sz (fl css o ys)))):re P .copy [t,t] [.rv d m sz o n,x] H K:=by
 subst hm;intro w vs ty cs hw hr;obtain⟨vd,vx,rfl⟩:∃vd vx,vs=[vd,vx]:=by
  have:=hr.1;match vs,this with
  |[vd,vx],_=>exact⟨vd,vx,rfl⟩
 have hu:=vC ht;obtain⟨i,z,hi,Vx,Xu,Zd,Zn⟩:=yj WJ hze XV;obtain⟨A',cx,news,rfl,hyk,Vy,Wq⟩:=YO w vx hw (hr.2 1 _ vx rfl rfl);have XU:aw w (.rv d css.length sz o n) vd:=hr.2 0 _ vd rfl rfl;have hyn:ys.length<=n:=by rw[<-YW];exact Nat.min_le_right _ _
 have Wm:ys.flatten.length=ys.length*sz:=ij fun y hy=>(hg y hy).1
 have W0:news.length=ys.length*sz:=by rw[<-Vy.1,Wm]
 have WV:cI ys.flatten=true:=by simp only[cI,List.all_eq_true];intro u Zo;obtain⟨y,hy,huy⟩:=List.mem_flatten.1 Zo;have:=(hg y hy).2;simp only[cI,List.all_eq_true]at this;exact this u huy
 have hf:(Builtin.firstCells i.size ys.length (.slice A' k cx)).run P w.toWorld=.ok news.toArray w.toWorld:=by
  by_cases h0:ys.length=0
  ·have:news=[]:=by have:=W0;rw[h0,Nat.zero_mul]at this;simpa using this
   subst this;rw[h0];cases A'<;>simp[Builtin.firstCells,loadCells,loadCellsFrom]
  ·obtain⟨ad,rfl,D'⟩:=Wq jB;exact run_firstCells_some (P:=P) w.toWorld i.size ys.length ad k cx news (by rw[Vx];exact W0) D'
 rw[Vx]at hf;have hok:=(hw.rows d _ hd).1;have Vu:∀cs∈fl css o ys,cs.length=sz:=fun cs h=>by
  unfold fl at h;rcases List.mem_append.1 h with h|h
  ·rcases List.mem_append.1 h with h|h
   ·exact hok.2 _ (List.mem_of_mem_take h)
   ·exact(hg cs h).1
  ·exact hok.2 _ (List.mem_of_mem_drop h)
 have W5:=ij hok.2;have Vf:(fl css o ys).length=css.length:=by rw[xd ys jB,Nat.max_eq_left jB]
 cases XU with
 |kj _ _ _ _ _ A=>omega
 |rv _ _ _ _ _ b t' cap Vh Vj=>
  obtain⟨_,z',VN,Vl⟩:=hw.rows d _ hd;have:z'=.at b t' sz:=by have VN:w.nm d css.length=some z':=VN;rw[Vh]at VN;cases VN;rfl
  subst this;obtain⟨_,cur,hh,⟨VW,U9⟩,Xv⟩:=Vl;have U9:css.flatten.length<=t':=U9;have hmul:(o+ys.length)*sz<=css.length*sz:=Nat.mul_le_mul_right _ jB;rw[Nat.add_mul]at hmul;have WI:o*sz+ys.flatten.length<=t':=jB;obtain⟨w',B',g1,g2,g3⟩:=vS (P:=P) (off:=o*sz) (r':=.aD e sz (fl css o ys)) hw hd Vh Vy WV WI rfl rfl rfl rfl (by show css.length<=(fl css o ys).length;rw[Vf];exact Nat.le_refl _) ⟨h0,Vu⟩ (by show(fl css o ys).flatten.length<=t';rw[ij Vu,Vf];omega) (fun p u hp=>Lq hok.2 (fun c hc=>(hg c hc).1) jB hp);refine⟨w',_,_,.int .i64 ys.length,?_,hk,g1,.raw _,g2⟩;have haF:Nat.min n k=ys.length:=(Nat.min_comm n k).trans YW;simp[builtin,Builtin.copy_,run_underlying hu,Builtin.lenOf,sizeOf,typeInfo,hi,Vx,YW,haF,hf,B',goInt]
variable{f:FuncId}
def Sa  {fn : Func} {tR e:TypeId}   {dd : List AV} {K : AV → Hp → Prop} (hf : P.funcs[f]? = some fn) (Xt : (fn.name == "runtime.NumGoroutine") = false) (hbn : fn.body.isNone = true) (hn : Extern.findNext fn = none)
  (he:Extern.find fn=some (Extern.SlicesOverlaps.overlaps #[t,t] #[tR])) (ht:iE P t=some e) (Vb:cQ P e=some sz) (hd:H.get d=some (.aD e sz css)) (hm:m=css.length) (XH:0<n) (hon:o+n<=m) (hy:0<ys.length) (hk:K (.raw (.bool false)) H) :
  u7 P f [.sl true sz ys dd,.rv d m sz o n] H K:=by
 subst hm;have hu:=vC ht;intro w vs hw hr;obtain⟨vd,vx,rfl⟩:∃vd vx,vs=#[vd,vx]:=by
  have:=hr.1;match vs,this with
  |⟨[vd,vx]⟩,_=>exact⟨vd,vx,rfl⟩
 have h2:=hr.2 1 _ vx rfl rfl;have h1:=hr.2 0 _ vd rfl rfl;cases h2 with
 |kj _ _ _ _ _ A=>omega
 |rv _ _ _ _ _ b t' cap Vh Vj=>
  obtain⟨hok,z',VN,Vl⟩:=hw.rows d _ hd;have:z'=.at b t' sz:=by have VN:w.nm d css.length=some z':=VN;rw[Vh]at VN;cases VN;rfl
  subst this;obtain⟨_,cur,hh,⟨VW,U9⟩,Xv⟩:=Vl;have U9:css.flatten.length<=t':=U9;have hh:w.heap[b]?=some (.cells cur e (0,0)):=hh;rw[ij hok.2]at U9;have VK:0<css.length*sz:=Nat.mul_pos jB hok.1;have hO:w.O b:=hw.own _ _ _ _ _ Vh;cases h1 with
  |hJ=>simp at hy
  |sl _ _ _ ad c' vs' _ _ hx _ hbl hH _ _=>
   obtain⟨_,cu,el,XP⟩:=hx rfl;have B':=Lib.run_overlaps_apart (P:=P) w.toWorld t tR e hu sz (fun _=>lQ Vb) ad ⟨b,o*sz,none⟩ ys.length c' n cap (fun e=>hH (by rw[e];exact hO)) el e cu.size cur.size
    (by simp[World.shape?,XP]) (by simp[World.shape?,hh]) jB (by simp[World.frozen?,XP]) (by simp[World.frozen?,XP])
   refine⟨_,w,_,H,?_,hk,hw,.raw _,Ext.refl w H⟩;rw[run_callFunc_extern hf Xt hbn hn he,B'];rfl
def Ll(z:U0)(m:Nat):(Builtin.zeroCells z m).toList=(List.replicate m z.toList).flatten:=by
 induction m with
 |zero=>simp[Builtin.zeroCells]
 |succ m ih=>
  rw[List.replicate_succ',List.flatten_append,<-ih];apply List.ext_getElem
  ·simp[Builtin.zeroCells,Nat.add_mul]
  ·intro i h1 h2;simp only[Builtin.zeroCells,Array.toList_map,Array.toList_range,List.getElem_map,List.getElem_range]at h1 ⊢;rcases Nat.lt_or_ge i (m*z.size)with h|h
   ·rw[List.getElem_append_left (by simpa using h)];simp
   ·rw[List.getElem_append_right (by simpa using h)];simp only[List.length_map,List.length_range,Array.size_range]at*;simp only[List.length_map,List.length_range,Nat.add_mul,Nat.one_mul]at h1;have hi:i % z.size=i-m*z.size:=by
     have:i=(i-m*z.size)+m*z.size:=jB;rw[this,Nat.add_mul_mod_self_right,Nat.mod_eq_of_lt jB];omega
    rw[hi];simp[getElem!_pos,show i-m*z.size<z.size from jB]
variable{i:Nat}
def QZ{t' e:UY}{q:Int}(ht:iE P t=some e)(Zo:∃d,P.underlying t'=some (.int d))(Vb:cQ P e=some sz)(hz:dS P e=some zs)(XV:zs.length=sz)(h0:0<sz)
  (hd:H.get d=some (.aD e sz css)) (hm:m=css.length) (hi:i<=m) (hc:m<i+k) (We:room (jW P e) (i+k)) (hq:q=k) (hj:H.get j=none) (hn:n=i+k)
  (hk:K (.rs j n sz n) (H.put j (.aD e sz (css.take i++List.replicate k (zs.map .raw))))):sf P t t' (.rc d m sz i) (.raw (.int .i64 q)) H K:=by
 subst hm hq hn;have hu:=vC ht;intro w va vx ty hw XU hrx;have:=cZ hrx;subst this;obtain⟨dk,Zs⟩:=Zo;obtain⟨inf,z,Wx,Vx,Xu,Zd,Zn⟩:=yj Vb hz XV;obtain⟨W8,Yq⟩:=We;rw[Zn]at W8;have YD:z.cells.toList=zs:=by unfold dS at hz;rw[Wx]at hz;simp only[Option.bind_some,Xu,Option.map_some,Option.some.injEq]at hz;exact hz
 have W2:i+k<=grownCap w.toWorld (i+k) css.length e:=by unfold grownCap Question.cut;simp
 have hok:=(hw.rows d _ hd).1;have Vu:∀cs∈css.take i++List.replicate k (zs.map AV.raw),cs.length=sz:=fun cs h=>by
  rcases List.mem_append.1 h with h|h
  ·exact hok.2 cs (List.mem_of_mem_take h)
  ·rw[List.eq_of_mem_replicate h];simpa using XV
 have Vf:(css.take i++List.replicate k (zs.map AV.raw)).length=i+k:=by simp;omega
 have W5:=ij hok.2;have Vy:bZ w (List.replicate k (zs.map AV.raw)).flatten (List.replicate k zs).flatten:=by
  have:(List.replicate k (zs.map AV.raw)).flatten=((List.replicate k zs).flatten).map .raw:=by simp[List.map_flatten]
  rw[this];exact Cf _
 generalize ha3:css.length=L at XU hc W2 W5 hi;cases XU with
 |rc _ _ _ _ b t' Vh Wz Vj Wp=>
  obtain⟨_,z',VN,Vl⟩:=hw.rows d _ hd;have:z'=.at b t' sz:=by have VN:w.nm d css.length=some z':=VN;rw[ha3,Vh]at VN;cases VN;rfl
  subst this;obtain⟨_,cur,hh,⟨VW,U9⟩,Xv⟩:=Vl;have hh:w.heap[b]?=some (.cells cur e (0,0)):=hh;have U9:css.flatten.length<=t':=U9;have Xv:∀(x:Nat) a v,css.flatten[x]?=some a->cur[x]?=some v->aw w a v:=Xv;have hmul:=Nat.mul_le_mul_right sz hi;have Xb:(css.take i).flatten=css.flatten.take (i*sz):=by
   have e1:css.flatten=(css.take i).flatten++(css.drop i).flatten:=by rw[<-List.flatten_append,List.take_append_drop]
   have e2:(css.take i).flatten.length=i*sz:=by rw[ij fun c h=>hok.2 c (List.mem_of_mem_take h),List.length_take,Nat.min_eq_left jB]
   have e3:=congrArg (List.take (i*sz)) e1;rw[List.take_append_of_le_length jB,List.take_of_length_le (l:=(css.take i).flatten) jB]at e3;exact e3.symm
  have hold:bZ w (css.take i).flatten (cur.toList.take (i*sz)):=by
   rw[Xb];refine⟨by simp only[List.length_take,Array.length_toList];omega,fun x a v ha hv=>?_⟩;rw[List.getElem?_take]at ha hv;split at ha
   ·rename_i h;rw[if_pos h]at hv;exact Xv x a v ha (by simpa using hv)
   ·cases ha
  have Vm:=hold.append Vy;rw[<-List.flatten_append]at Vm;have hnj:∀q,w.nm j q=none:=fun q=>by
   cases e:w.nm j q with
   |none=>rfl
   |some z=>obtain⟨r,h1,_⟩:=hw.dt j q z e;rw[hj]at h1;cases h1
  obtain⟨w',e1,g1,g2,g3⟩:=tX (i:=j) (e:=e) (cap:=grownCap w.toWorld (i+k) L e) (css:=css.take i++List.replicate k (zs.map AV.raw)) (rest:=Builtin.zeroCells z.cells (grownCap w.toWorld (i+k) L e-(i+k))) hw h0 Vu Vm (by rw[Vf];exact W2) (by rw[Vf];simp[Builtin.zeroCells,Zd]) (hnj _) (fun r hr=>by rw[hj]at hr;cases hr);rw[Vf]at g3;refine⟨w',_,_,_,?_,hk,g1,g3,g2⟩;rw[e1];have XZ:(Builtin.firstCells inf.size i (.slice (some ⟨b,0,none⟩) i L)).run P w.drew=.ok (cur.toList.take (i*sz)).toArray w.drew:=by
   refine run_firstCells_some (P:=P) w.drew inf.size i ⟨b,0,none⟩ i L _ (by rw[Vx];simp only[List.length_take,Array.length_toList];omega) (fun x v h=>?_);rw[List.getElem?_take]at h;split at h
   ·rw[j3,td (w:=w.drew) b _ cur e (0,0) hh,Nat.zero_add];simpa using h
   ·cases h
  have YF:IntKind.i64.wrap (k:Int)=k:=rD jB;have WG:¬(281474976710656<(k:Int)*inf.bytes):=by have:k*inf.bytes<=(i+k)*inf.bytes:=Nat.mul_le_mul_right _ jB;have h2:((k*inf.bytes:Nat):Int)<=140737488355328:=jB;rw[Int.natCast_mul]at h2;omega
  have V0:¬(i+k<=L):=jB;have Xd:¬(9223372036854775807<(i:Int)+(k:Int)):=jB;have X0:¬((k:Int)<0):=jB;have haG:=growslice_fits (bytes:=inf.bytes) (old:=L) (show L<i+k from jB) W8;have WQ:¬(281474976710656<Builtin.nextslicecap (i+k) L*inf.bytes):=jB;have hkz:¬(k*inf.size=0):=by rw[Vx];exact Nat.ne_of_gt (Nat.mul_pos jB h0)
  simp[Builtin.append_,run_underlying hu,run_underlying Zs,sizeOf,typeInfo,zeroValue,Wx,Xu,asInt,asIntOf,YF,WG,WQ,V0,Xd,X0,hkz,Question.forced,XZ,newRow,grownCap];have:Builtin.zeroCells z.cells k=(List.replicate k zs).flatten.toArray:=by apply Array.ext';rw[Ll,YD]
  rw[this];congr 2
  apply Array.ext';simp
def hZ(sz k:Nat):UQ:=List.replicate k (List.replicate sz AV.any)
def A3:(hZ sz k).length=k:=List.length_replicate
def Gi{w':NW}(e:w'.toWorld=w.toWorld)(hO:∀b,w'.O b=w.O b){q:U2}(hn:∀i m z,q i=true->w.nm i m=some z->w'.nm i m=some z):Keep q w w':=
 ⟨by rw[e];exact Nat.le_refl _,fun b _ h=>⟨by rw[e],by rw[hO];exact h⟩,hn⟩
def gD.tB{w':NW}{z:Rz}{q:U2}(h:gD w r z)(e:w'.toWorld=w.toWorld)(k:Keep q w w')(hq:aR q r.cells=true):gD w' r z:=by
 cases z with
 |nil=>exact h
 |«at» b t s=> obtain⟨h1,cur,h2,h3,h5⟩:=h;exact⟨h1,cur,by rw[e];exact h2,h3,fun i a v ha hv=>(h5 i a v ha hv).aU k (mH hq ha)⟩
theorem D9{r s:Row}{i:Nat}:∀{l:UR},az l i=some s->ids (aZ l i r)=ids l
 |[],h=>by cases h
 |(j,t)::l,h=>by
  simp only[az]at h;simp only[aZ];split
  ·rename_i e;subst e;rfl
  ·rename_i e;rw[if_neg e]at h;have:=D9 (r:=r) h;simp only[ids,List.map_cons]at this ⊢;rw[this]
variable{X:UQ}{rest:US}
def ab.yo{e:UY}{n0 N q:Nat}(hn:0<css.length)(hl:az l i=some (.aD e sz css))(Xz:n=css.length)(hq:∀k r,az l k=some r->k≠i->aR (fun j=>(ids l).contains j && !(j == i)) r.cells=true)(hX:X.length=N)(hnN:n<=N)(hXq:aR (fun j=>(ids l).contains j && !(j == i)) X.flatten=true)(hXs:∀x∈X,x.length=sz)
  (h:∀c,n<=c->ab P f (.rc i c sz n0::rest) (aZ l i (.aD e sz (css++hZ sz (c-n)))) fun r l'=>(N<=c/\r=.rc i c sz q/\l'=aZ l i (.aD e sz (X++hZ sz (c-N))))\/((n<N/\0<q)/\c=n/\∃j,az l j=none/\r=.rs j N sz q/\l'=l++[(j,.aD e sz X)])) :
  ab P f (.rs i n sz n0::rest) l fun r l'=>r=.rs i N sz q/\l'=aZ l i (.aD e sz X):=fun w vs hw hv=>by
 obtain⟨v0,vr,rfl⟩:∃v0 vr,vs=(v0::vr).toArray:=by
  have:=hv.1;obtain⟨vl⟩:=vs;match vl,this with
  |v0::vr,_=>exact⟨v0,vr,rfl⟩
 have h0:aw w (.rs i n sz n0) v0:=hv.2 0 _ v0 rfl rfl;have Vl:=hw.rows i _ hl;obtain⟨⟨Wp,Vm⟩,z,hz,hrw⟩:=Vl;have hz:w.nm i css.length=some z:=hz;rw[<-Xz]at hz;generalize hn':n0=n' at h0;cases h0 with
 |iH _ _ _ A Vh=>
  have:z=.nil:=by rw[Vh]at hz;cases hz;rfl
  subst this;obtain⟨_,_,h⟩:=hrw;cases h;exact absurd hn (Nat.lt_irrefl 0)
 |rs _ _ _ _ b t c Vh Wz ha4 _=>
  subst hn';have:z=.at b t sz:=by rw[Vh]at hz;cases hz;rfl
  subst this;obtain⟨_,cur,hh,⟨VW,U9⟩,Xv⟩:=hrw;have U9:css.flatten.length<=t:=U9;have Vj:n<=c:=by rw[ij (sz:=sz) Vm,<-Wz,<-Xz]at U9;exact Nat.le_of_mul_le_mul_right U9 Wp
  have Xv:∀(x:Nat) a v,css.flatten[x]?=some a->cur[x]?=some v->aw w a v:=Xv
  -- the names, with one more
  let w1:NW:={ w with nm:=fun k m=>if k=i/\m=c then some (.at b t sz)else w.nm k m }
  have Vs:∀k m z,w.nm k m=some z->w1.nm k m=some z:=fun k m z VT=>by
   show(if k=i/\m=c then _ else _)=_;by_cases hc:k=i/\m=c
   ·rw[if_pos hc];rw[hc.1,hc.2]at VT;obtain⟨r,g1,g2⟩:=hw.dt _ _ _ VT;have g1:az l i=some r:=g1;rw[hl]at g1;cases g1;have g2:c<=css.length:=g2;have e2:c=n:=jB;rw[e2,Vh]at VT;exact VT
   ·rw[if_neg hc];exact VT
  have WG:∀{k m b' t' s'},w1.nm k m=some (.at b' t' s')->w.nm k m=some (.at b' t' s')\/(k=i/\m=c/\b'=b/\t'=t/\s'=sz):=fun{k m b' t' s'} h=>by
   have h:(if k=i/\m=c then some (.at b t sz)else w.nm k m)=some (.at b' t' s'):=h;split at h
   ·rename_i hc;cases h;exact .inr ⟨hc.1,hc.2,rfl,rfl,rfl⟩
   ·exact .inl h
  have K1:Keep rW w w1:=Gi (w:=w) (w':=w1) rfl (fun _=>rfl) fun k m z _ VT=>Vs k m z VT
  have YX:(css++hZ sz (c-n)).length=c:=by rw[List.length_append,A3];omega
  have hfl1:(css++hZ sz (c-n)).flatten.length=c*sz:=by
   rw[ij (sz:=sz),YX];intro x hx;rcases List.mem_append.1 hx with hx|hx
   ·exact Vm x hx
   ·rw[List.eq_of_mem_replicate hx];simp
  have had:ids (aZ l i (.aD e sz (css++hZ sz (c-n))))=ids l:=D9 hl;have W1:aF w1 (entry (aZ l i (.aD e sz (css++hZ sz (c-n))))):={
   bY:=hw.bY
   rows:=fun k r hk=>by
    have hk:az (aZ l i (.aD e sz (css++hZ sz (c-n)))) k=some r:=hk;rw[bO]at hk;by_cases e1:k=i
    ·rw[if_pos e1]at hk;have hk:=Option.some.inj hk;subst hk;subst e1;refine⟨⟨Wp,fun x hx=>?_⟩,.at b t sz,?_,rfl,cur,hh,⟨VW,by show(css++hZ sz (c-n)).flatten.length<=t;omega⟩,fun x a v ha hv=>?_⟩
     ·rcases List.mem_append.1 hx with hx|hx
      ·exact Vm x hx
      ·rw[List.eq_of_mem_replicate hx];simp
     ·show(if _ then _ else _)=_;rw[if_pos ⟨rfl,YX⟩]
     ·have ha:(css++hZ sz (c-n)).flatten[x]?=some a:=ha;rw[List.flatten_append]at ha;rcases Nat.lt_or_ge x css.flatten.length with hx|hx
      ·rw[List.getElem?_append_left hx]at ha;exact(Xv x a v ha hv).aU K1 (nH a)
      ·rw[List.getElem?_append_right hx]at ha;have:a=.any:=by
        have:=List.mem_of_getElem? ha;obtain⟨y,hy,hay⟩:=List.mem_flatten.1 this;rw[List.eq_of_mem_replicate hy]at hay;exact List.eq_of_mem_replicate hay
       subst this;exact .any v
    ·rw[if_neg e1]at hk;obtain⟨g1,z,g2,g3⟩:=hw.rows k r hk;refine⟨g1,z,Vs _ _ _ g2,?_⟩;exact g3.tB rfl K1 (vU _)
   dt:=fun k m z hk=>by
    have hk:(if k=i/\m=c then some (.at b t sz)else w.nm k m)=some z:=hk;show∃r,az (aZ l i _) k=some r/\m<=r.fD;rw[bO];split at hk
    ·rename_i hc;rw[if_pos hc.1];exact⟨_,rfl,by show m<=(css++hZ sz (c-n)).length;rw[YX,hc.2];exact Nat.le_refl _⟩
    ·obtain⟨r,g1,g2⟩:=hw.dt k m z hk;split
     ·rename_i e1;subst e1;have g1:az l k=some r:=g1;rw[hl]at g1;cases g1;have g2:m<=css.length:=g2;exact⟨_,rfl,by show m<=(css++hZ sz (c-n)).length;omega⟩
     ·exact⟨r,g1,g2⟩
   inj:=fun k m j q b' t1 s1 t2 s2 h1 h2=>by
    rcases WG h1 with h1|⟨a1,_,a2,_,_⟩<;>rcases WG h2 with h2|⟨c1,_,c2,_,_⟩
    ·exact hw.inj _ _ _ _ _ _ _ _ _ h1 h2
    ·rw[c1];exact hw.inj _ _ _ _ _ _ _ _ _ h1 (c2 ▸ Vh)
    ·rw[a1];exact hw.inj _ _ _ _ _ _ _ _ _ (a2 ▸ Vh) h2
    ·rw[a1,c1]
   own:=fun k m b' t1 s1 h1=>by
    rcases WG h1 with h1|⟨_,_,a2,_,_⟩
    ·exact hw.own _ _ _ _ _ h1
    ·rw[a2];exact hw.own _ _ _ _ _ Vh
   fin:=hw.fin }
  have V1:br w1 (.rc i c sz n0::rest) (.slice (some ⟨b,0,none⟩) n0 c::vr).toArray:=by
   refine⟨hv.1,fun k a v ha Ve=>?_⟩;cases k with
   |zero=> cases ha;cases Ve;exact .rc i c sz n0 b t (by show(if _ then _ else _)=_;rw[if_pos ⟨rfl,rfl⟩]) Wz ha4 Wp
   |succ k=>exact(hv.2 (k+1) a v ha Ve).aU K1 (nH a)
  refine((h c jB) w1 _ W1 V1).mono ?_;rintro ex W ⟨v,r,H2,w2,rfl,rfl,hR,g1,g2,g3⟩;have hB:H2.B=ids l:=g3.base.trans had;have hN2:∀k m z,(ids l).contains k=true->w.nm k m=some z->w2.nm k m=some z:=fun k m z hk hz=>g3.names k m z (by show(ids (aZ l i _)).contains k=true;rw[had];exact hk) (Vs k m z hz)
  have hiL:(ids l).contains i=true:=tW hl;have Vk:∀b',b'<w.heap.size->w.O b'->(∀k m t s,w.nm k m≠some (.at b' t s))->w2.heap[b']?=w.heap[b']?/\w2.O b'/\∀k m t s,w2.nm k m≠some (.at b' t s):=fun b' h1 h2 h3=>g3.rest b' h1 h2 fun k m t1 s1 h4=>by
   rcases WG h4 with h4|⟨_,_,a2,_,_⟩
   ·exact h3 _ _ _ _ h4
   ·exact h3 _ _ _ _ (a2 ▸ Vh)
  have hae:∀m z,w.nm i m=some z->m<=n:=fun m z hz=>by obtain⟨r,q1,q2⟩:=hw.dt _ _ _ hz;have q1:az l i=some r:=q1;rw[hl]at q1;cases q1;have q2:m<=css.length:=q2;omega
  have fin:∀(jj cc b3 t3 c3:Nat) (sp:UQ),(jj=i\/az l jj=none)->az H2.l jj=some (.aD e sz (X++sp))->w2.nm jj (X++sp).length=some (.at b3 t3 sz)->(N=n->b3=b/\t3=t)->c3*sz=t3->q<=c3->v=.slice (some ⟨b3,0,none⟩) q c3->(∀k,k≠i->k≠jj->az H2.l k=az l k)->
    ∃v' r' H' w',w2.toWorld=NW.toWorld w'/\Ending.returned v=.returned v'/\(r'=.rs i N sz q/\Hp.l H'=aZ l i (.aD e sz X))/\aF w' H'/\aw w' r' v'/\fU w (entry l) w' H':=fun jj _ b3 t3 c3 sp hjj hg X0 Zt hc3 ha5 ev hun=>by
   have hnj:∀k,(ids l).contains k=true->k≠i->k≠jj:=fun k hk WA e1=>by
    rcases hjj with e2|e2
    ·exact WA (e1.trans e2)
    ·obtain⟨r,hr⟩:=zf hk;rw[e1,e2]at hr;cases hr
   let w3:NW:={ w2 with nm:=fun k m=>if k=i then(if m=N then some (.at b3 t3 sz)else if m<=n then w.nm i m else none)else if k=jj then none else w2.nm k m }
   have n1:∀{m},m<=n->w.nm i m≠none->w3.nm i m=w.nm i m:=fun{m} hm VZ=>by
    show(if i=i then(if m=N then _ else if m<=n then _ else _)else _)=_;rw[if_pos rfl];by_cases e1:m=N
    ·have e2:N=n:=jB;obtain⟨rfl,rfl⟩:=Zt e2;rw[if_pos e1,e1,e2,Vh]
    ·rw[if_neg e1,if_pos hm]
   have n2:w3.nm i N=some (.at b3 t3 sz):=by show(if i=i then(if N=N then _ else _)else _)=_;rw[if_pos rfl,if_pos rfl]
   have n3:∀{k m},k≠i->k≠jj->w3.nm k m=w2.nm k m:=fun{k m} h1 h2=>by show(if k=i then _ else if k=jj then _ else _)=_;rw[if_neg h1,if_neg h2]
   have n4:∀{k m z},w3.nm k m=some z->(k≠i/\k≠jj/\w2.nm k m=some z)\/(k=i/\m<=n/\w.nm i m=some z)\/(k=i/\m=N/\z=.at b3 t3 sz):=fun{k m z} VT=>by
    have VT:(if k=i then(if m=N then some (.at b3 t3 sz)else if m<=n then w.nm i m else none)else if k=jj then none else w2.nm k m)=some z:=VT;by_cases e1:k=i
    ·rw[if_pos e1]at VT;by_cases e3:m=N
     ·rw[if_pos e3]at VT;cases VT;exact .inr (.inr ⟨e1,e3,rfl⟩)
     ·rw[if_neg e3]at VT;by_cases e2:m<=n
      ·rw[if_pos e2]at VT;exact .inr (.inl ⟨e1,e2,VT⟩)
      ·rw[if_neg e2]at VT;cases VT
    ·rw[if_neg e1]at VT;by_cases e2:k=jj
     ·rw[if_pos e2]at VT;cases VT
     ·rw[if_neg e2]at VT;exact .inl ⟨e1,e2,VT⟩
   have n5:∀{m z},w.nm i m=some z->w2.nm i m=some z:=fun{m z} VT=>hN2 i m z hiL VT
   have K3:Keep (fun j=>(ids l).contains j && !(j == i)) w2 w3:=Gi (w:=w2) (w':=w3) rfl (fun _=>rfl) fun k m z hk VT=>by simp at hk;rw[n3 hk.2 (hnj k (by simpa using hk.1) hk.2)];exact VT
   obtain⟨_,z4,hz4,ha6⟩:=g1.rows jj _ hg;have:z4=.at b3 t3 sz:=by have hz4:w2.nm jj (X++sp).length=some z4:=hz4;rw[X0]at hz4;cases hz4;rfl
   subst this;obtain⟨_,cur4,hh4,⟨ha7,haf⟩,hah⟩:=ha6;have haf:(X++sp).flatten.length<=t3:=haf;have hah:∀(x:Nat) a v,(X++sp).flatten[x]?=some a->cur4[x]?=some v->aw w2 a v:=hah;refine⟨v,_,⟨ids l,aZ l i (.aD e sz X)⟩,w3,rfl,rfl,⟨rfl,rfl⟩,?_,?_,?_⟩
   ·exact{
     bY:=g1.bY
     rows:=fun k r hk=>by
      have hk:az (aZ l i (.aD e sz X)) k=some r:=hk;rw[bO]at hk;by_cases e1:k=i
      ·rw[if_pos e1]at hk;have hk:=Option.some.inj hk;subst hk;subst e1;refine⟨⟨Wp,hXs⟩,.at b3 t3 sz,?_,rfl,cur4,hh4,⟨ha7,?_⟩,fun x a v ha hv=>?_⟩
       ·show w3.nm k X.length=_;rw[hX];exact n2
       ·show X.flatten.length<=t3;rw[List.flatten_append,List.length_append]at haf;omega
       ·have ha:X.flatten[x]?=some a:=ha;have I':=(List.getElem?_eq_some_iff.1 ha).1;refine(hah x a v ?_ hv).aU K3 (mH hXq ha);rw[List.flatten_append,List.getElem?_append_left I'];exact ha
      ·rw[if_neg e1]at hk;have hj:=hnj k (tW hk) e1;obtain⟨q1,z,q2,q3⟩:=g1.rows k r (by show az H2.l k=_;rw[hun k e1 hj];exact hk);exact⟨q1,z,by rw[n3 e1 hj];exact q2,q3.tB rfl K3 (hq k r hk e1)⟩
     dt:=fun k m z VT=>by
      show∃r,az (aZ l i _) k=some r/\m<=r.fD;rw[bO];rcases n4 VT with⟨e1,e2,VT⟩|⟨e1,e2,_⟩|⟨e1,e2,_⟩
      ·rw[if_neg e1];obtain⟨r,q1,q2⟩:=g1.dt k m z VT;have q1:az H2.l k=some r:=q1;rw[hun k e1 e2]at q1;exact⟨r,q1,q2⟩
      ·rw[if_pos e1];exact⟨_,rfl,by show m<=X.length;omega⟩
      ·rw[if_pos e1];exact⟨_,rfl,by show m<=X.length;omega⟩
     inj:=fun k m k' m' b' t1 s1 t2 s2 h1 h2=>by
      rcases n4 h1 with⟨a1,a2,h1⟩|⟨a1,a2,h1⟩|⟨a1,a2,h1⟩<;>rcases n4 h2 with⟨c1,c2,h2⟩|⟨c1,c2,h2⟩|⟨c1,c2,h2⟩
      ·exact g1.inj _ _ _ _ _ _ _ _ _ h1 h2
      ·rw[c1];exact g1.inj _ _ _ _ _ _ _ _ _ h1 (n5 h2)
      ·cases h2;exact(a2 (g1.inj _ _ _ _ _ _ _ _ _ h1 X0)).elim
      ·rw[a1];exact g1.inj _ _ _ _ _ _ _ _ _ (n5 h1) h2
      ·rw[a1,c1]
      ·rw[a1,c1]
      ·cases h1;exact(c2 (g1.inj _ _ _ _ _ _ _ _ _ h2 X0)).elim
      ·rw[a1,c1]
      ·rw[a1,c1]
     own:=fun k m b' t1 s1 h1=>by
      rcases n4 h1 with⟨a1,a2,h1⟩|⟨a1,a2,h1⟩|⟨a1,a2,h1⟩
      ·exact g1.own _ _ _ _ _ h1
      ·exact g1.own _ _ _ _ _ (n5 h1)
      ·cases h1;exact g1.own _ _ _ _ _ X0
     fin:=g1.fin }
   ·rw[ev];exact .rs i N sz q b3 t3 c3 n2 hc3 ha5 Wp
   ·exact{
     size:=g3.size
     free:=g3.free
     names:=fun k m z hk VT=>by
      have hk:(ids l).contains k=true:=hk;by_cases e1:k=i
      ·subst e1;rw[n1 (hae m z VT) (by rw[VT];exact Option.some_ne_none _)];exact VT
      ·rw[n3 e1 (hnj k hk e1)];exact hN2 k m z hk VT
     os:=g3.os,tape:=g3.tape,output:=g3.output
     rest:=fun b' h1 h2 h3=>by
      obtain⟨q1,q2,q3⟩:=Vk b' h1 h2 h3;refine⟨q1,q2,fun k m t1 s1 h4=>?_⟩;rcases n4 h4 with⟨a1,a2,h4⟩|⟨a1,a2,h4⟩|⟨a1,a2,h4⟩
      ·exact q3 _ _ _ _ h4
      ·exact h3 _ _ _ _ h4
      ·cases h4;exact q3 _ _ _ _ X0
     base:=rfl }
  rcases hR with⟨hc,rfl,Vf⟩|⟨⟨I',hq0⟩,hc,j,hj,rfl,Vf⟩
  ·generalize Yk:c=c' at g2;cases g2 with
   |rc _ _ _ _ b3 t3 q1 q2 q3 q4=>
    subst Yk;have hlX:(X++hZ sz (c-N)).length=c:=by rw[List.length_append,A3];omega
    have Zt:b3=b/\t3=t:=by have h9:w2.nm i c=some (.at b t sz):=g3.names i c _ (by show(ids (aZ l i _)).contains i=true;rw[had];exact hiL) (by show(if i=i/\c=c then _ else _)=_;rw[if_pos ⟨rfl,rfl⟩]);rw[q1]at h9;cases h9;exact⟨rfl,rfl⟩
    refine fin i c b3 t3 c (hZ sz (c-N)) (.inl rfl) ?_ (by rw[hlX];exact q1) (fun _=>Zt) q2 q3 rfl fun k h1 _=>?_
    ·rw[Vf,bO,if_pos rfl]
    ·rw[Vf,bO,if_neg h1]
  ·have WN:j≠i:=fun e1=>by rw[e1,hl]at hj;cases hj
   have lget_app2:∀(l m:UR) (i:Nat),az (l++m) i=(az l i).or (az m i):=fun l m i=>by
    induction l with
    |nil=>rfl
    |cons x l ih=>
     obtain⟨k,r⟩:=x;simp only[List.cons_append,az];split
     ·rfl
     ·exact ih
   have hga:∀k,az (l++[(j,Row.aD e sz X)]) k=(az l k).or (if k=j then some (.aD e sz X)else none):=fun k=>by rw[lget_app2];rfl
   generalize ha8:N=n1 at g2;cases g2 with
   |iH _ _ _ A q1=>omega
   |rs _ _ _ _ b3 t3 c3 q1 q2 q3 q4=>
    subst ha8;refine fin j N b3 t3 c3 [] (.inr hj) ?_ (by rw[List.append_nil,hX];exact q1) (fun e9=>jB) q2 q3 rfl fun k h1 h2=>?_
    ·rw[Vf,hga,hj,if_pos rfl,List.append_nil];rfl
    ·rw[Vf,hga,if_neg h2];cases az l k<;>rfl
def ab.ym{e:UY}{N q:Nat}(hn:0<css.length)(hl:az l i=some (.aD e sz css))(Xz:n=css.length)(hq:∀k r,az l k=some r->k≠i->aR (fun j=>(ids l).contains j && !(j == i)) r.cells=true)(hX:X.length=N)(hnN:n<=N)(hXq:aR (fun j=>(ids l).contains j && !(j == i)) X.flatten=true)(hXs:∀x∈X,x.length=sz)
  (h:∀c,n<=c->ab P f (.rc i c sz n::rest) (aZ l i (.aD e sz (css++hZ sz (c-n)))) fun r l'=>(N<=c/\r=.rc i c sz q/\l'=aZ l i (.aD e sz (X++hZ sz (c-N))))\/((n<N/\0<q)/\c=n/\∃j,az l j=none/\r=.rs j N sz q/\l'=l++[(j,.aD e sz X)])) :
  ab P f (.rs i n sz n::rest) l fun r l'=>r=.rs i N sz q/\l'=aZ l i (.aD e sz X):=ab.yo hn hl Xz hq hX hnN hXq hXs h
def ab.room{e:UY}(hn:0<css.length)(hl:az l i=some (.aD e sz css))(Xz:n=css.length)(hq:∀k r,az l k=some r->k≠i->aR (fun j=>(ids l).contains j && !(j == i)) r.cells=true)(hX:X.length=n+1)(hXq:aR (fun j=>(ids l).contains j && !(j == i)) X.flatten=true)(hXs:∀x∈X,x.length=sz)
  (h:∀c,n<=c->ab P f (.rc i c sz n::rest) (aZ l i (.aD e sz (css++hZ sz (c-n)))) fun r l'=>(n+1<=c/\r=.rc i c sz (n+1)/\l'=aZ l i (.aD e sz (X++hZ sz (c-(n+1)))))\/(c=n/\∃j,az l j=none/\r=.rs j (n+1) sz (n+1)/\l'=l++[(j,.aD e sz X)])) :
  ab P f (.rs i n sz n::rest) l fun r l'=>r=.rs i (n+1) sz (n+1)/\l'=aZ l i (.aD e sz X):=
 ab.ym (N:=n+1) (q:=n+1) hn hl Xz hq hX jB hXq hXs fun c hc=>(h c hc).mono fun r l' h=>h.imp id fun⟨a,b⟩=>⟨⟨jB,jB⟩,a,b⟩
def ab.xn{e:UY}(j:Nat)(hn:0<css.length)(hl:az l i=some (.aD e sz css))(Xz:n=css.length)(hq:∀k r,az l k=some r->k≠i->aR (fun j=>(ids l).contains j && !(j == i)) r.cells=true)(hX:X.length=n+1)(hXq:aR (fun j=>(ids l).contains j && !(j == i)) X.flatten=true)(hXs:∀x∈X,x.length=sz)(hj:az l j=none)
  (ha:ab P f (.rc i n sz n::rest) (aZ l i (.aD e sz css)) fun r l'=>r=.rs j (n+1) sz (n+1)/\l'=l++[(j,.aD e sz X)])
  (hb:∀c,n+1<=c->ab P f (.rc i c sz n::rest) (aZ l i (.aD e sz (css++hZ sz (c-n)))) fun r l'=>r=.rc i c sz (n+1)/\l'=aZ l i (.aD e sz (X++hZ sz (c-(n+1))))) :
  ab P f (.rs i n sz n::rest) l fun r l'=>r=.rs i (n+1) sz (n+1)/\l'=aZ l i (.aD e sz X):=ab.room hn hl Xz hq hX hXq hXs fun c hc=>by
 by_cases ZP:c=n
 ·subst ZP;rw[Nat.sub_self,show hZ sz 0=[] from rfl,List.append_nil];exact ha.mono fun r l' h=>.inr ⟨rfl,j,hj,h.1,h.2⟩
 ·exact(hb c jB).mono fun r l' h=>.inl ⟨jB,h.1,h.2⟩
section
variable {P:U3}{H:Hp}
def yE(z:Value)(k:Nat):Builtin.zeroCells #[z] k=(List.replicate k z).toArray:=by
 apply Array.ext
 ·simp[Builtin.zeroCells]
 ·intro i h1 h2;simp[Builtin.zeroCells,Nat.mod_one]
def TG(w:NW)(z:Value):∀k,bZ w (List.replicate k [AV.raw z]).flatten (List.replicate k z):=fun k=>by
 have:(List.replicate k [AV.raw z]).flatten=(List.replicate k z).map .raw:=by simp[List.flatten_replicate_singleton]
 rw[this];refine⟨jE,fun i a v ha hv=>?_⟩;rw[List.getElem?_map,hv]at ha;simp at ha;subst ha;exact .raw _
def RJ{t t' e:UY}{d m n k:Nat}{z0:Value}{css:UQ}{K:UP}(hu:P.underlying t=some (.slice e))(Zo:∃d,P.underlying t'=some (.int d))(Vb:cQ P e=some 1)(hz:dS P e=some [z0])(VT:z0.oneCell'=true)
  (hd:H.get d=some (.aD e 1 css)) (hm:m=css.length) (hn:n=css.length) (We:room (jW P e) (css.length+k)) (hk:K (.rs d (css.length+k) 1 (css.length+k)) (H.put d (.aD e 1 (css++List.replicate k [.raw z0])))):sf P t t' (.rs d m 1 n) (.raw (.int .i64 k)) H K:=by
 subst hm hn;intro w va vx ty hw XU hrx;have:=cZ hrx;subst this;obtain⟨dk,Zs⟩:=Zo;obtain⟨i,z,hi,Vx,Xu,Zd,Zn⟩:=yj Vb hz rfl;obtain⟨W8,Yq⟩:=We;rw[Zn]at W8;have YD:z.cells=#[z0]:=by unfold dS at hz;rw[hi]at hz;simp only[Option.bind_some,Xu,Option.map_some,Option.some.injEq]at hz;rw[<-Array.toList_inj,hz]
 have W2:∀need old,need<=grownCap w.toWorld need old e:=fun need old=>by unfold grownCap Question.cut;simp
 have haH:∀m,(Builtin.zeroCells z.cells m).size=m*1:=fun m=>by rw[YD,yE];simp
 have hok:=(hw.rows d _ hd).1;have Vu:∀cs∈css++List.replicate k [AV.raw z0],cs.length=1:=fun cs h=>by
  rcases List.mem_append.1 h with h|h
  ·exact hok.2 cs h
  ·rw[List.eq_of_mem_replicate h];rfl
 have Vy:=TG w z0 k;have YF:IntKind.i64.wrap (k:Int)=k:=by
  have:IntKind.i64.wrap (k:Int)=(k:Int):=by unfold IntKind.wrap;simp[IntKind.bits,IntKind.signed];omega
  exact this
 have WG:¬(281474976710656<(k:Int)*i.bytes):=by have:k*i.bytes<=(css.length+k)*i.bytes:=Nat.mul_le_mul_right _ jB;have h2:((k*i.bytes:Nat):Int)<=140737488355328:=jB;rw[Int.natCast_mul]at h2;omega
 have X0:¬((k:Int)<0):=jB;have Vf:(css++List.replicate k [AV.raw z0]).length=css.length+k:=jE;have W5:=ij hok.2;generalize hgl:css.length=l at*;cases XU with
 |iH _ _ _ A Vh=>
  obtain⟨_,z',VN,Vl⟩:=hw.rows d _ hd;have:z'=.nil:=by have VN:w.nm d css.length=some z':=VN;rw[hgl,Vh]at VN;cases VN;rfl
  subst this;obtain⟨e2,sz3,Vl⟩:=Vl;cases Vl;simp only[List.length_nil]at hgl;by_cases Vi:k=0
  ·subst Vi;refine⟨w,_,_,.slice A 0 0,?_,hk,?_,.iH _ _ _ _ Vh,?_⟩
   ·have hw0:IntKind.i64.wrap 0=0:=YF;cases A<;>simp[Builtin.append_,run_underlying hu,run_underlying Zs,sizeOf,typeInfo,hi,asInt,asIntOf,hw0,storeCells]
   ·refine{ hw with rows:=fun j r hj=>?_,dt:=fun j q z hz=>?_ }
    ·rw[Hp.bj]at hj;split at hj
     ·rename_i e;subst e;exact hw.rows j r (by rw[hd];exact hj)
     ·exact hw.rows j r hj
    ·rw[Hp.bj];split
     ·rename_i e;subst e;obtain⟨r,g1,g2⟩:=hw.dt j q z hz;rw[hd]at g1;cases g1;exact⟨_,rfl,g2⟩
     ·exact hw.dt j q z hz
   ·exact{ Ext.refl w H with base:=rfl }
  ·simp only[List.nil_append,Nat.zero_add]at hk Vu Vf W8 Yq;obtain⟨w',e1,g1,g2,g3⟩:=tX (i:=d) (e:=e) (cap:=grownCap w.toWorld k 0 e) (css:=List.replicate k [AV.raw z0]) (rest:=Builtin.zeroCells z.cells (grownCap w.toWorld k 0 e-k)) hw jC Vu Vy (by rw[Vf];exact W2 _ _) (by rw[Vf];exact haH _) (hw.later hd (by show([]:UQ).length<_;rw[Vf];simp;omega)) (fun r hr=>by rw[hd]at hr;cases hr;exact Nat.zero_le _);rw[Vf]at g3;refine⟨w',_,_,_,?_,by simpa using hk,g1,by simpa using g3,g2⟩;rw[e1];have V0:¬(k=0):=Vi;have Xd:¬(9223372036854775807<(k:Int)):=jB;have WQ:¬(281474976710656<Builtin.nextslicecap k 0*i.bytes):=by rw[nextslicecap_zero jB];omega
   cases A<;>simp[Builtin.append_,run_underlying hu,run_underlying Zs,sizeOf,typeInfo,zeroValue,hi,Xu,Vx,asInt,asIntOf,YF,WG,WQ,V0,Xd,X0,Question.forced,newRow,grownCap,Builtin.firstCells,loadCells,loadCellsFrom,YD,yE]
 |rs _ _ _ _ b t' cap Vh Wz Vj Wp=>
  obtain⟨_,z',VN,Vl⟩:=hw.rows d _ hd;have:z'=.at b t' 1:=by have VN:w.nm d css.length=some z':=VN;rw[hgl,Vh]at VN;cases VN;rfl
  subst this;obtain⟨_,cur,hh,⟨VW,U9⟩,Xv⟩:=Vl;have hh:w.heap[b]?=some (.cells cur e (0,0)):=hh;have U9:css.flatten.length<=t':=U9;have WV:cI (List.replicate k [AV.raw z0]).flatten=true:=by
   have:(List.replicate k [AV.raw z0]).flatten=(List.replicate k z0).map .raw:=by simp[List.flatten_replicate_singleton]
   rw[this];simp[cI,AV.one,VT]
  have W4:(List.replicate k [AV.raw z0]).flatten.length=k:=jE;by_cases VJ:l+k<=cap
  ·obtain⟨w',B',g1,g2,g3⟩:=vS (P:=P) (off:=l) (r':=.aD e 1 (css++List.replicate k [.raw z0])) hw hd (by show w.nm d css.length=_;rw[hgl];exact Vh) Vy WV (by rw[W4];omega) rfl rfl rfl rfl (by show css.length<=(css++_).length;simp) ⟨jC,Vu⟩ (by show(css++List.replicate k [AV.raw z0]).flatten.length<=t';rw[ij Vu,Vf];omega) (fun p u hp=>by
     have hp:(css++List.replicate k [AV.raw z0]).flatten[p]?=some u:=hp;rw[List.flatten_append]at hp;show if _ then _ else css.flatten[p]?=some u
     rcases Nat.lt_or_ge p l with h|h
     ·rw[jN];rw[List.getElem?_append_left jB]at hp;exact hp
     ·rw[List.getElem?_append_right jB]at hp;have I':=(List.getElem?_eq_some_iff.1 hp).1;rw[if_pos ⟨h,jB⟩];rw[<-hp];congr 1;omega)
   refine⟨w',_,_,.slice (some ⟨b,0,none⟩) (l+k) cap,?_,hk,g1,?_,g2⟩
   ·have Zp:(⟨b,0,none⟩:Addr).add l=⟨b,l,none⟩:=by rw[j3];simp
    by_cases Vi:k=0
    ·subst Vi;have hw0:IntKind.i64.wrap 0=0:=YF;have haI:(storeCells ⟨b,l,none⟩ []).run P w.toWorld=.ok () w'.toWorld:=B';have YU:l<=cap:=jB;simp[Builtin.append_,run_underlying hu,run_underlying Zs,sizeOf,typeInfo,hi,Vx,asInt,asIntOf,hw0,YU,Zp,haI]
    ·simp[Builtin.append_,run_underlying hu,run_underlying Zs,sizeOf,typeInfo,zeroValue,hi,Xu,Vx,asInt,asIntOf,YF,WG,X0,VJ,Vi,Zp,YD,yE,B']
   ·have g3:w'.nm d (css++List.replicate k [AV.raw z0]).length=some (.at b t' 1):=g3;rw[Vf]at g3;exact .rs d _ 1 _ b t' cap g3 Wz VJ jC
  ·have hold:bZ w css.flatten (cur.toList.take l):=by
    refine⟨by simp only[List.length_take,Array.length_toList];omega,fun j a v YP hv=>?_⟩;rw[List.getElem?_take]at hv;split at hv
    ·exact Xv j a v YP (by simpa using hv)
    ·cases hv
   have Vm:=hold.append Vy;rw[<-List.flatten_append]at Vm;obtain⟨w',e1,g1,g2,g3⟩:=tX (i:=d) (e:=e) (cap:=grownCap w.toWorld (l+k) cap e) (css:=css++List.replicate k [AV.raw z0]) (rest:=Builtin.zeroCells z.cells (grownCap w.toWorld (l+k) cap e-(l+k))) hw jC Vu Vm (by rw[Vf];exact W2 _ _) (by rw[Vf];exact haH _) (hw.later hd (by show css.length<_;rw[Vf];omega)) (fun r hr=>by rw[hd]at hr;cases hr;show css.length<=_;rw[Vf];omega);rw[Vf]at g3;refine⟨w',_,_,_,?_,hk,g1,g3,g2⟩;rw[e1];have XZ:(Builtin.firstCells 1 l (.slice (some ⟨b,0,none⟩) l cap)).run P w.drew=.ok (cur.toList.take l).toArray w.drew:=by
    refine run_firstCells_some (P:=P) w.drew 1 l ⟨b,0,none⟩ l cap _ (by simp only[List.length_take,Array.length_toList];omega) (fun j v h=>?_);rw[List.getElem?_take]at h;split at h
    ·rw[j3,td (w:=w.drew) b _ cur e (0,0) hh,Nat.zero_add];simpa using h
    ·cases h
   have V0:¬(l+k<=cap):=VJ;have Xd:¬(9223372036854775807<(l:Int)+(k:Int)):=jB;have haG:=growslice_fits (bytes:=i.bytes) (old:=cap) (show cap<l+k from jB) W8;have WQ:¬(281474976710656<Builtin.nextslicecap (l+k) cap*i.bytes):=jB;have Vi:¬(k=0):=jB;simp[Builtin.append_,run_underlying hu,run_underlying Zs,sizeOf,typeInfo,zeroValue,hi,Xu,Vx,asInt,asIntOf,YF,WG,WQ,V0,Xd,X0,Vi,Question.forced,XZ,newRow,grownCap,YD,yE];congr 2
   apply Array.ext';simp
end
abbrev sE:UX:=⟨#[]⟩
def vI(n:Int):aj:=⟨1,n,sE⟩
def vB(b:Bool):aj:=⟨2,if b=true then 1 else 0,sE⟩
def vT(s:UX):aj:=⟨3,0,s⟩
def vZ(t:Int):aj:=⟨t,0,sE⟩
def v0:aj:=⟨0,0,sE⟩
def lS(v:aj):Bool:=
 if v.ty=1 then decide (v.s=sE)
 else if v.ty=2 then decide (v.s=sE) && (decide (v.n=0) || decide (v.n=1))
 else if v.ty=3 then decide (v.n=0) && decide ((v.s.size:Int)<=40)
 else if v.ty=4 then decide (v.s=sE) && decide (0<=v.n)
 else false
def v6(sign:UX)(a b:Int):aj×Int:=
 if sign=(⟨#[43]⟩:UX)then(vI (IntKind.i64.wrap (a+b)),0)
 else if sign=(⟨#[45]⟩:UX)then(vI (IntKind.i64.wrap (a-b)),0)
 else if sign=(⟨#[42]⟩:UX)then(vI (IntKind.i64.wrap (a*b)),0)
 else if sign=(⟨#[47]⟩:UX)then(if b=0 then(v0,1)else(vI (IntKind.i64.wrap (a.tdiv b)),0))
 else if sign=(⟨#[37]⟩:UX)then(if b=0 then(v0,1)else(vI (a.tmod b),0))
 else if sign=(⟨#[60]⟩:UX)then(vB (decide (a<b)),0)
 else if sign=(⟨#[60,61]⟩:UX)then(vB (decide (a<=b)),0)
 else(v0,0)
def qD(sign:UX)(a b:aj):aj×Int:=
 if a.ty≠b.ty\/a.ty<1\/4<a.ty then(v0,0)
 else if sign=(⟨#[61,61]⟩:UX)then(vB (decide (a.n=b.n) && decide (a.s=b.s)),0)
 else if sign=(⟨#[33,61]⟩:UX)then(vB (!(decide (a.n=b.n) && decide (a.s=b.s))),0)
 else if a.ty=1 then v6 sign a.n b.n
 else if a.ty=2 then(if sign=(⟨#[124,124]⟩:UX)then(vB (decide (a.n=1) || decide (b.n=1)),0)else if sign=(⟨#[38,38]⟩:UX)then(vB (decide (a.n=1) && decide (b.n=1)),0)else(v0,0))
 else if a.ty=3 then(if sign=(⟨#[43]⟩:UX)then(if(a.s.size:Int)+b.s.size>40 then(v0,6)else(vT (a.s++b.s),0))else(v0,0))
 else(v0,0)
def nj(sign:UX)(a:aj):aj:=
 if sign=(⟨#[45]⟩:UX)/\a.ty=1 then vI (IntKind.i64.wrap (-a.n))
 else if sign=(⟨#[33]⟩:UX)/\a.ty=2 then vB (!decide (a.n=1))
 else v0
def km(n:Int):Bool:=decide (48<=n) && decide (n<=57)
def yv(n:Int):Bool:=(decide (97<=n) && decide (n<=122)) || (decide (65<=n) && decide (n<=90))
def yb(s:UX):Bool:=decide ((s.size:Int)<19) || (decide ((s.size:Int)=19) && (Op.bytesLess s.toList (⟨#[57,50,50,51,51,55,50,48,51,54,56,53,52,55,55,53,56,48,55]⟩:UX).toList || decide (s=(⟨#[57,50,50,51,51,55,50,48,51,54,56,53,52,55,55,53,56,48,55]⟩:UX))))
def pS(s:UX):Nat->Int
 |0=>1
 |k+1=>if dY s k=10 then pS s k+1 else pS s k
theorem CT(s:UX):∀k,1<=pS s k/\pS s k<=k+1
 |0=>by simp[pS]
 |k+1=>by have:=CT s k;unfold pS;split<;>omega
def fX:List UX:=[(⟨#[102,110]⟩:UX),(⟨#[108,101,116]⟩:UX),(⟨#[105,102]⟩:UX),(⟨#[101,108,115,101]⟩:UX),(⟨#[119,104,105,108,101]⟩:UX),(⟨#[114,101,116,117,114,110]⟩:UX),(⟨#[112,114,105,110,116]⟩:UX),(⟨#[105,110,112,117,116]⟩:UX),(⟨#[110,101,119]⟩:UX),(⟨#[108,101,110]⟩:UX),(⟨#[116,114,117,101]⟩:UX),(⟨#[102,97,108,115,101]⟩:UX),(⟨#[105,110,116]⟩:UX),(⟨#[98,111,111,108]⟩:UX),(⟨#[116,101,120,116]⟩:UX),(⟨#[108,105,115,116]⟩:UX)]
def LU:fX.length=16:=rfl
def vY(s:UX):Bool:=fX.any fun t=>decide (t=s)
-- the first one
theorem y7{α:Type}[Inhabited α]{p:α->Bool}:∀{l:List α} {k:Nat},(∀j,j<k->p (nth l j)=false)->k<l.length->p (nth l k)=true->l.find? p=some (nth l k)
 |[],k,_,h,_=>by simp at h
 |x::l,0,_,_,hp=>by have:p x=true:=hp;rw[List.find?_cons,this];rfl
 |x::l,k+1,h,hk,hp=>by have h0:p x=false:=h 0 jB;rw[List.find?_cons,h0];exact y7 (fun j hj=>h (j+1) jB) (by simpa using hk) hp
variable{α:Type}
def Bt[Inhabited α]{p:α->Bool}{l:List α}(h:∀j,j<l.length->p (nth l j)=false):l.find? p=none:=by rw[List.find?_eq_none];intro x hx;obtain⟨j,hj,rfl⟩:=List.getElem_of_mem hx;have:=h j hj;rw[ee hj]at this;simp[this]
def BS(h:k<n):nth (List.range n) k=k:=by simp[nth,h]
-- bytes of which p holds
def pV(p:Int->Bool)(s:UX):Nat->Nat->Nat
 |0,i=>i
 |n+1,i=>if i<s.size/\p (dY s i)=true then pV p s n (i+1)else i
def gJ(p:Int->Bool)(s:UX)(i:Nat):Nat:=pV p s (s.size+1) i
theorem FH{p:Int->Bool}{s:UX}{k:Nat}(Yc:¬(k<s.size/\p (dY s k)=true)):∀{n i:Nat},i<=k->k<n+i->(∀j,i<=j->j<k->j<s.size/\p (dY s j)=true)->pV p s n i=k
 |0,i,h1,h2,_=>by omega
 |n+1,i,h1,h2,h3=>by
  unfold pV;by_cases e:i=k
  ·subst e;rw[if_neg Yc]
  ·rw[if_pos (h3 i jl jB)];exact FH Yc jB jB fun j hj=>h3 j jB
variable{p:Int->Bool}{s:UX}
def zY(Yc:¬(k<s.size/\p (dY s k)=true))(h1:i<=k)(hk:k<=s.size)(h3:∀j,i<=j->j<k->p (dY s j)=true):gJ p s i=k:=
 FH Yc h1 jB fun j hj hjk=>⟨jB,h3 j hj hjk⟩
theorem zV{p:Int->Bool}{s:UX}:∀{n i:Nat},i<=pV p s n i/\(i<=s.size->pV p s n i<=s.size)
 |0,i=>⟨Nat.le_refl _,id⟩
 |n+1,i=>by
  unfold pV;split
  ·have:=zV (p:=p) (s:=s) (n:=n) (i:=i+1);exact⟨jB,fun _=>this.2 jB⟩
  ·exact⟨Nat.le_refl _,id⟩
def uw(h:i<=s.size):i<=gJ p s i/\gJ p s i<=s.size:=⟨zV.1,zV.2 h⟩
def xq(h:i<s.size)(hp:p (dY s i)=true):i<gJ p s i:=by unfold gJ;unfold pV;rw[if_pos ⟨h,hp⟩];have:=(zV (p:=p) (s:=s) (n:=s.size) (i:=i+1)).1;omega
theorem CL{p:Int->Bool}{s:UX}:∀{n i j:Nat},i<=j->j<pV p s n i->p (dY s j)=true
 |0,i,j,h1,h2=>by unfold pV at h2;omega
 |n+1,i,j,h1,h2=>by
  unfold pV at h2;split at h2
  ·rename_i h;by_cases e:j=i
   ·subst e;exact h.2
   ·exact CL jB h2
  ·omega
-- iP between tokens
def zJ(c:Int):Bool:=decide (c=32) || decide (c=9) || decide (c=13) || decide (c=10)
def z6(s:UX)(i:Nat):Bool:=decide (dY s i=47) && decide (i+1<s.size) && decide (dY s (i+1:Nat)=47)
def tc(c:Int):Bool:=decide (c≠10)
def mL(s:UX)(i:Nat):Option Nat:=if i<s.size then(if zJ (dY s i)=true then some (i+1)else if z6 s i=true then some (gJ tc s i)else none)else none
def nI(s:UX):Nat->Nat->Nat
 |0,i=>i
 |n+1,i=>match mL s i with
  |some j=>nI s n j
  |none=>i
def yO(h:mL s i=some j):i<j/\j<=s.size:=by
 unfold mL at h;split at h
 ·rename_i hi;split at h
  ·cases h;omega
  ·split at h
   ·rename_i hc;cases h;have VZ:tc (dY s i)=true:=by
     simp only[z6,Bool.and_eq_true,decide_eq_true_eq]at hc;simp[tc,hc.1.1]
    exact⟨xq hi VZ,(uw jB).2⟩
   ·cases h
 ·cases h
theorem E7(s:UX):∀(n m i:Nat),s.size<n+i->s.size<m+i->nI s n i=nI s m i
 |0,0,i,_,_=>rfl
 |0,m+1,i,h,_=>by
  unfold nI;have:mL s i=none:=by unfold mL;rw[jN]
  rw[this]
 |n+1,0,i,_,h=>by
  unfold nI;have:mL s i=none:=by unfold mL;rw[jN]
  rw[this]
 |n+1,m+1,i,h1,h2=>by
  unfold nI;cases e:mL s i with
  |none=>rfl
  |some j=> have:=yO e;exact E7 s n m j jB jB
def oY(s:UX)(i:Nat):Nat:=nI s (s.size+1) i
def GO(h:mL s i=some j):oY s i=oY s j:=by have:=yO h;show nI s (s.size+1) i=nI s (s.size+1) j;rw[nI,h];exact E7 s _ _ j jB jB
def HF(h:mL s i=none):oY s i=i:=by show nI s (s.size+1) i=i;rw[nI,h]
theorem Bq{s:UX}:∀{n i:Nat},i<=nI s n i/\(i<=s.size->nI s n i<=s.size)
 |0,i=>⟨Nat.le_refl _,id⟩
 |n+1,i=>by
  unfold nI;cases e:mL s i with
  |none=>exact⟨Nat.le_refl _,id⟩
  |some j=> have h1:=yO e;have h2:=Bq (s:=s) (n:=n) (i:=j);exact⟨by simp only;omega,fun _=>h2.2 h1.2⟩
def wc(h:i<=s.size):i<=oY s i/\oY s i<=s.size:=⟨Bq.1,Bq.2 h⟩
-- tokens
def uY(c:Int):Bool:=decide (32<=c) && decide (c<=126) && decide (c≠34)
def oT(s:UX)(a:Nat):UX×Int×Int:=
 let i:=gJ uY s (a+1)
 if i<s.size/\dY s i=34 then(if(i:Int)-a-1>12 then(⟨#[]⟩,a,4)else(s.extract (a+1) i,(i:Int)+1,0))else(⟨#[]⟩,a,11)
def jw:List UX:=[(⟨#[124,124]⟩:UX),(⟨#[38,38]⟩:UX),(⟨#[60,61]⟩:UX),(⟨#[61,61]⟩:UX),(⟨#[33,61]⟩:UX)]
def iG:UX:=(⟨#[40,41,123,125,91,93,44,59,61,60,43,45,42,47,37,33]⟩:UX)
def qY(s t:UX):Bool:=decide (2<=(s.size:Int)) && decide (s.extract 0 2=t)
def oC(s:UX):UX:=match jw.find? (qY s)with
 |some t=>t
 |none=>match (List.range 16).find? fun k:Nat=>decide (dY s 0=dY iG (k:Nat))with
  |some k=>iG.extract k (k+1)
  |none=>⟨#[]⟩
def lL(c:Int):Bool:=yv c || km c || decide (c=95)
def T7{b:UX}(h:b.size=0):b=⟨#[]⟩:=by obtain⟨d⟩:=b;have:d=#[]:=Array.size_eq_zero_iff.1 h;rw[this]
def wm:cd:=⟨0,⟨#[]⟩,0⟩
def gP(s:UX)(a:Nat):cd×Int×Int:=
 if km (dY s a)=true then
  (if yb (s.extract a (gJ km s a))=true then(⟨1,s.extract a (gJ km s a),a⟩,(gJ km s a:Nat),0)else(wm,a,12))
 else if yv (dY s a)=true then
  (if vY (s.extract a (gJ lL s a))=true then(⟨4,s.extract a (gJ lL s a),a⟩,(gJ lL s a:Nat),0)
  else if((s.extract a (gJ lL s a)).size:Int)>8 then(wm,a,13)else(⟨3,s.extract a (gJ lL s a),a⟩,(gJ lL s a:Nat),0))
 else if dY s a=34 then(⟨2,(oT s a).1,a⟩,(oT s a).2.1,(oT s a).2.2)
 else if oC (s.extract a s.size)=⟨#[]⟩then(wm,a,10)
 else(⟨5,oC (s.extract a s.size),a⟩,a+(oC (s.extract a s.size)).size,0)
def KN(s:UX):(oC s).size<=2:=by
 unfold oC;cases h:jw.find? (qY s)with
 |some t=> have hm:=List.mem_of_find?_eq_some h;have:∀t∈jw,t.size<=2:=jC;exact this t hm
 |none=>
  cases h2:(List.range 16).find? fun k:Nat=>decide (dY s 0=dY iG (k:Nat))with
  |some k=> simp only;rw[ByteArray.size_extract];omega
  |none=>decide
variable{t:UX}
def TI(h:jw.find? (qY s)=some t):t.size=2/\2<=s.size:=by have hm:=List.mem_of_find?_eq_some h;have hp:=List.find?_some h;have:∀t∈jw,t.size=2:=jC;simp only[qY,Bool.and_eq_true,decide_eq_true_eq]at hp;exact⟨this t hm,jB⟩
def UK(hs:0<s.size):(oC s).size<=s.size:=by
 unfold oC;cases h:jw.find? (qY s)with
 |some t=>have:=TI h;simp only;omega
 |none=>
  cases h2:(List.range 16).find? fun k:Nat=>decide (dY s 0=dY iG (k:Nat))with
  |some k=> simp only;rw[ByteArray.size_extract];omega
  |none=>exact Nat.zero_le _
variable{a:Nat}
def At(ha:a<s.size)(h:(gP s a).2.2=0):∃e:Nat,(gP s a).2.1=e/\a<e/\e<=s.size:=by
 unfold gP at h ⊢;split at h<;>rename_i h1
 ·rw[if_pos h1]at*;split at h<;>rename_i h2
  ·rw[if_pos h2];exact⟨_,rfl,xq ha h1,(uw jB).2⟩
  ·cases h
 ·rw[if_neg h1]at*;split at h<;>rename_i h2
  ·rw[if_pos h2];have hw:lL (dY s a)=true:=by simp[lL,h2]
   split at h<;>rename_i h3
   ·rw[if_pos h3];exact⟨_,rfl,xq ha hw,(uw jB).2⟩
   ·rw[if_neg h3];split at h<;>rename_i h4
    ·cases h
    ·rw[if_neg h4];exact⟨_,rfl,xq ha hw,(uw jB).2⟩
  ·rw[if_neg h2];split at h<;>rename_i h3
   ·rw[if_pos h3];have hb:=uw (p:=uY) (s:=s) (i:=a+1) jB;simp only[oT]at h ⊢;split at h<;>rename_i h4
    ·rw[if_pos h4];split at h<;>rename_i h5
     ·cases h
     ·rw[if_neg h5];exact⟨gJ uY s (a+1)+1,jE,jB,jB⟩
    ·cases h
   ·rw[if_neg h3];split at h<;>rename_i h4
    ·cases h
    ·rw[if_neg h4];have Vb:(s.extract a s.size).size=s.size-a:=by rw[ByteArray.size_extract];omega
     have Vj:=UK (s:=s.extract a s.size) jB;have VK:0<(oC (s.extract a s.size)).size:=by
      rcases Nat.eq_zero_or_pos (oC (s.extract a s.size)).size with e|e
      ·exact(h4 (T7 e)).elim
      ·exact e
     exact⟨a+(oC (s.extract a s.size)).size,jE,jB,jB⟩
def kP(s:UX):Nat->Nat->List cd->List cd×Int×Int
 |0,_,out=>(out,0,0)
 |n+1,i,out=>if i<s.size then
   (if(gP s i).2.2=0 then kP s n (oY s (gP s i).2.1.toNat) (out++[(gP s i).1])else([],((i:Nat):Int),(gP s i).2.2))
  else(out++[⟨0,⟨#[]⟩,s.size⟩],0,0)
theorem DW(s:UX):∀(n m i:Nat) (out:List cd),s.size<n+i->s.size<m+i->i<=s.size->kP s n i out=kP s m i out
 |0,_,i,_,h,_,h3=>by omega
 |_,0,i,_,_,h,h3=>jB
 |n+1,m+1,i,out,h1,h2,h3=>by
  unfold kP;split
  ·rename_i hi;split
   ·rename_i he;obtain⟨e,h4,h5,h6⟩:=At hi he;rw[h4,Int.toNat_natCast];have:=wc (s:=s) (i:=e) h6;exact DW s n m _ _ jB jB this.2
   ·rfl
  ·rfl
def wo(s:UX)(i:Nat)(out:List cd):List cd×Int×Int:=kP s (s.size+1) i out
variable{out:List cd}
def NT(hi:i<s.size)(he:(gP s i).2.2=0):wo s i out=wo s (oY s (gP s i).2.1.toNat) (out++[(gP s i).1]):=by show kP s (s.size+1) i out=kP s (s.size+1) _ _;rw[kP,if_pos hi,if_pos he];obtain⟨e,h4,h5,h6⟩:=At hi he;rw[h4,Int.toNat_natCast];have:=wc (s:=s) (i:=e) h6;exact DW s _ _ _ _ jB jB this.2
def Qe(hi:i<s.size)(he:(gP s i).2.2≠0):wo s i out=([],((i:Nat):Int),(gP s i).2.2):=by show kP s (s.size+1) i out=_;rw[kP,if_pos hi,if_neg he]
def Pp(hi:¬i<s.size):wo s i out=(out++[⟨0,⟨#[]⟩,s.size⟩],0,0):=by show kP s (s.size+1) i out=_;rw[kP,if_neg hi]
def ko(s:UX):List cd×Int×Int:=if(s.size:Int)>600 then([],0,4)else wo s (oY s 0) []
structure Rd where
 src:ByteArray
 l:List cd
 i:Int
 nodes:List bk
 deep:Int
 e:Int
 at_:Int
 deriving Inhabited
namespace Rd
def tok(r:Rd):cd:=nth r.l r.i.toNat
def aA(r:Rd)(e:Int):Rd:=if r.e=0 then{ r with e:=e,at_:=r.tok.at_ }else r
def is(r:Rd)(t:UX):Bool:=decide (r.e=0) && (decide (r.tok.kind=5) || decide (r.tok.kind=4)) && decide (r.tok.text=t)
def kind(r:Rd)(k:Int):Bool:=decide (r.e=0) && decide (r.tok.kind=k)
def inc(r:Rd):Rd:={ r with i:=r.i+1 }
def ao(r:Rd)(t:UX):Rd:=if r.is t=true then r.inc else r.aA 20
def name(r:Rd):Rd×UX:=if r.kind 3=true then(r.inc,r.tok.text)else(r.aA 20,⟨#[]⟩)
def bA(r:Rd):Int:=pS r.src (min r.src.size r.tok.at_.toNat)
def node(r:Rd)(n:bk):Rd:={ r with nodes:=r.nodes++[n] }
def put(r:Rd)(k ln n:Int)(nm:UX)(L:UU):Rd×Int:=(r.node ⟨k,ln,n,nm,L⟩,r.nodes.length)
def down(r:Rd):Rd:={ (if 16<=r.deep then r.aA 21 else r)with deep:=r.deep+1 }
def up(r:Rd):Rd:={ r with deep:=r.deep-1 }
end Rd
def nK(level:Int):List UX:=
 if level=0 then[(⟨#[124,124]⟩:UX)]else if level=1 then[(⟨#[38,38]⟩:UX)]else if level=2 then[(⟨#[60]⟩:UX),(⟨#[60,61]⟩:UX),(⟨#[61,61]⟩:UX),(⟨#[33,61]⟩:UX)]else if level=3 then[(⟨#[43]⟩:UX),(⟨#[45]⟩:UX)]else[(⟨#[42]⟩:UX),(⟨#[47]⟩:UX),(⟨#[37]⟩:UX)]
namespace Rd
section
variable (r:Rd)(e:Int)
@[go_sem] def Kc:(r.aA e).src=r.src:=by unfold aA;split<;>rfl
@[go_sem] def gT:(r.aA e).l=r.l:=by unfold aA;split<;>rfl
@[go_sem] def wR:(r.aA e).i=r.i:=by unfold aA;split<;>rfl
@[go_sem] def dI:(r.aA e).nodes=r.nodes:=by unfold aA;split<;>rfl
@[go_sem] def SQ:(r.aA e).deep=r.deep:=by unfold aA;split<;>rfl
end
section
variable (r:Rd)
@[go_sem] def j9f:(r.inc.src=r.src)/\(r.inc.l=r.l)/\(r.inc.i=r.i+1)/\(r.inc.nodes=r.nodes)/\(r.inc.deep=r.deep)/\(r.inc.e=r.e)/\(r.inc.at_=r.at_)/\(r.up.src=r.src)/\(r.up.l=r.l)/\(r.up.i=r.i)/\(r.up.nodes=r.nodes)/\(r.up.deep=r.deep-1)/\(r.up.e=r.e)/\(r.up.at_=r.at_):=by and_intros<;>(intros;rfl)
end
def next(r:Rd)(level:Int):UX:=match (nK level).find? (fun s=>r.is s)with
 |some s=>s
 |none=>⟨#[]⟩
def n7(r:Rd):cd:=nth r.l (r.i+1).toNat
def calls(r:Rd):Bool:=r.kind 3 && decide (r.n7.kind=5) && decide (r.n7.text=(⟨#[40]⟩:UX))
def word(r:Rd):UX:=if r.kind 4=true then r.tok.text else⟨#[]⟩
end Rd
def xf(s:UX):Nat->Int
 |0=>0
 |k+1=>xf s k*10+(dY s k-48)
def qv(s:UX):Int:=xf s s.size
mutual
def po:Nat->Rd->Rd×Int
 |0,r=>(r,0)
 |n+1,r=>
  if r.e≠0 then(r,0)
  else if r.tok.kind=1 then r.inc.put 1 r.bA (qv r.tok.text) ⟨#[]⟩ []
  else if r.tok.kind=2 then r.inc.put 3 r.bA 0 r.tok.text []
  else if r.tok.kind=3 then
   (if r.inc.is (⟨#[91]⟩:UX)=true then
    (((dF n 0 (r.inc.down.ao (⟨#[91]⟩:UX))).1.ao (⟨#[93]⟩:UX)).up).put 5 r.bA 0 r.tok.text [(dF n 0 (r.inc.down.ao (⟨#[91]⟩:UX))).2]
   else r.inc.put 4 r.bA 0 r.tok.text [])
  else if r.is (⟨#[116,114,117,101]⟩:UX)=true then r.inc.put 2 r.bA 1 ⟨#[]⟩ []
  else if r.is (⟨#[102,97,108,115,101]⟩:UX)=true then r.inc.put 2 r.bA 0 ⟨#[]⟩ []
  else if r.is (⟨#[108,101,110]⟩:UX)=true then
   (if r.inc.is (⟨#[40]⟩:UX)=true then
    (((dF n 0 (r.inc.down.ao (⟨#[40]⟩:UX))).1.ao (⟨#[41]⟩:UX)).up).put 6 r.bA 0 ⟨#[]⟩ [(dF n 0 (r.inc.down.ao (⟨#[40]⟩:UX))).2]
   else(r.inc.aA 20,0))
  else if r.is (⟨#[40]⟩:UX)=true then
   (((dF n 0 (r.down.ao (⟨#[40]⟩:UX))).1.ao (⟨#[41]⟩:UX)).up,(dF n 0 (r.down.ao (⟨#[40]⟩:UX))).2)
  else(r.aA 20,0)
def ig:Nat->Rd->Rd×Int
 |0,r=>(r,0)
 |n+1,r=>
  if r.is (⟨#[45]⟩:UX)=true then((ig n r.down.inc).1.up).put 7 r.bA 0 ⟨#[]⟩ [(ig n r.down.inc).2]
  else if r.is (⟨#[33]⟩:UX)=true then((ig n r.down.inc).1.up).put 8 r.bA 0 ⟨#[]⟩ [(ig n r.down.inc).2]
  else po n r
def dF:Nat->Nat->Rd->Rd×Int
 |0,_,r=>(r,0)
 |n+1,lv,r=>if lv=5 then ig n r else ny n lv r.bA (dF n (lv+1) r)
def ny:Nat->Nat->Int->Rd×Int->Rd×Int
 |0,_,_,p=>p
 |n+1,lv,ln,p=>
  if p.1.next lv=⟨#[]⟩then p
  else if lv=2 then((dF n (lv+1) p.1.inc).1).put 9 ln 0 (p.1.next lv) [p.2,(dF n (lv+1) p.1.inc).2]
  else ny n lv ln (((dF n (lv+1) p.1.inc).1).put 9 ln 0 (p.1.next lv) [p.2,(dF n (lv+1) p.1.inc).2])
end
-- what is kept
def Rd.rem(r:Rd):Nat:=if r.e=0 then(r.l.length-r.i).toNat else 0
def Rd.dK(r:Rd):Int:=r.nodes.length+3*(r.l.length-r.i)+if r.e=0 then 1 else 0
def rZ(s:UX):Prop:=0<s.size/\yb s=true/\∀j,j<s.size->km (dY s j)=true
structure Rd.Inv(r:Rd):Prop where
 src:r.src.size<=1000
 pos:0<=r.i
 lt:r.i<r.l.length
 len:r.l.length<=2000
 num:∀k,k<r.l.length->(nth r.l k).kind=1->rZ (nth r.l k).text
 tk:∀k,k<r.l.length->(nth r.l k).kind≠0->k+1<r.l.length
 pH:0<=r.deep
 qn:r.deep<=17
 L4:r.e=0->r.deep<=16
 dK:r.dK<=8000
structure Rd.St(r r':Rd):Prop where
 src:r'.src=r.src
 l:r'.l=r.l
 deep:r'.deep=r.deep
 i:r.i<=r'.i
 lt:r'.i<r.l.length
 dK:r'.dK<=r.dK
 err:r.e≠0->r'.e≠0
variable{r r':Rd}
def Rd.St.inv(s:Rd.St r r')(h:r.Inv):r'.Inv:=by
 obtain⟨s1,s2,s3,s4,s5,s6,s7⟩:=s;obtain⟨h1,h2,h3,h4,hn,h5,h6,h7,h8,h9⟩:=h;exact⟨by rw[s1];exact h1,jB,by rw[s2];exact s5,by rw[s2];exact h4,by rw[s2];exact hn,by rw[s2];exact h5,jB,jB,fun h=>by rw[s3];exact h8 (Classical.byContradiction fun e=>s7 e h),jB⟩
def Rd.St.refl(h:r.Inv):Rd.St r r:=⟨rfl,rfl,rfl,Int.le_refl _,h.lt,Int.le_refl _,id⟩
theorem Rd.St.trans{a b c:Rd}(h:Rd.St a b)(k:Rd.St b c):Rd.St a c:=
 ⟨k.src.trans h.src,k.l.trans h.l,k.deep.trans h.deep,Int.le_trans h.i k.i,by have:=k.lt;rw[h.l]at this;exact this,Int.le_trans k.dK h.dK,fun e=>k.err (h.err e)⟩
theorem Rd.St.rem{r r':Rd}(s:Rd.St r r'):r'.rem<=r.rem:=by
 unfold Rd.rem;have h1:=s.i;have h2:=s.l;by_cases e:r.e=0
 ·rw[if_pos e,h2];split<;>omega
 ·rw[if_neg e,if_neg (s.err e)];exact Nat.le_refl _
def Rd.behind(h:r.Inv)(hk:r.tok.kind≠0):r.i+1<r.l.length:=by have:=h.tk r.i.toNat (by have:=h.lt;have:=h.pos;omega) hk;have:=h.pos;omega
def Rd.aT(h:r.is t=true):r.e=0/\r.tok.kind≠0:=by simp only[Rd.is,Bool.and_eq_true,Bool.or_eq_true,decide_eq_true_eq]at h;exact⟨h.1.1,by rcases h.1.2 with h|h<;>omega⟩
def Rd.dH{k:Int}(h:r.kind k=true)(h0:k≠0):r.e=0/\r.tok.kind≠0:=by simp only[Rd.kind,Bool.and_eq_true,decide_eq_true_eq]at h;exact⟨h.1,jB⟩
def Rd.fJ(h:r.Inv)(e:Int)(he:e≠0):Rd.St r (r.aA e):=by
 refine⟨Kc _ _,gT _ _,SQ _ _,by rw[wR];exact Int.le_refl _,by rw[wR];exact h.lt,?_,fun h1=>by unfold aA;rw[if_neg h1];exact h1⟩;unfold Rd.dK;rw[dI,gT,wR];by_cases e0:r.e=0
 ·have:(r.aA e).e=e:=by unfold aA;rw[if_pos e0]
  rw[this,if_pos e0,if_neg he];omega
 ·have:(r.aA e).e=r.e:=by unfold aA;rw[if_neg e0]
  rw[this];omega
def Rd.bq(h:r.Inv)(hk:r.tok.kind≠0):Rd.St r r.inc/\r.inc.dK=r.dK-3:=by
 have:=Rd.behind h hk;have e:r.inc.dK=r.dK-3:=by simp only[Rd.dK,Rd.inc];omega
 exact⟨⟨rfl,rfl,rfl,by simp only[Rd.inc];omega,by simp only[Rd.inc];omega,jB,id⟩,e⟩
def Rd.aH(h:r.Inv)(t:UX):Rd.St r (r.ao t):=by
 unfold Rd.ao;split
 ·rename_i hs;exact(Rd.bq h (Rd.aT hs).2).1
 ·exact Rd.fJ h 20 jC
def Rd.dm(h:r.Inv):Rd.St r r.name.1:=by
 unfold Rd.name;split
 ·rename_i hs;exact(Rd.bq h (Rd.dH hs jC).2).1
 ·exact Rd.fJ h 20 jC
def Rd.mM(r:Rd)(n:bk):(r.node n).dK=r.dK+1:=by simp only[Rd.dK,Rd.node,List.length_append,List.length_cons,List.length_nil];omega
def Rd.cR(s:Rd.St r r')(hp:r'.dK+1<=r.dK)(k ln n:Int)(nm:UX)(L:UU):Rd.St r (r'.put k ln n nm L).1:=
 ⟨s.src,s.l,s.deep,s.i,s.lt,by show(r'.node _).dK<=_;rw[Rd.mM];exact hp,s.err⟩
def Rd.uS:r.down.e=(if 16<=r.deep then r.aA 21 else r).e:=rfl
def Rd.bH(h:r.Inv)(he:r.e=0):r.down.Inv/\r.down.dK<=r.dK/\r.down.i=r.i/\r.down.l=r.l/\r.down.src=r.src/\r.down.deep=r.deep+1:=by
 have hd:=h.L4 he;have hi:r.down.i=r.i:=by unfold Rd.down;split<;>simp[wR]
 have hl:r.down.l=r.l:=by unfold Rd.down;split<;>simp[gT]
 have hs:r.down.src=r.src:=by unfold Rd.down;split<;>simp[Kc]
 have hn:r.down.nodes=r.nodes:=by unfold Rd.down;split<;>simp[dI]
 have hdd:r.down.deep=r.deep+1:=rfl;have hee:r.down.e=0->r.deep<16:=fun e=>by
  rw[Rd.uS]at e;split at e
  ·unfold aA at e;rw[if_pos he]at e;cases e
  ·omega
 have hp:r.down.dK<=r.dK:=by unfold Rd.dK;rw[hn,hl,hi,if_pos he];split<;>omega
 refine⟨⟨by rw[hs];exact h.src,by rw[hi];exact h.pos,by rw[hi,hl];exact h.lt,by rw[hl];exact h.len,by rw[hl];exact h.num,by rw[hl];exact h.tk,by have:=h.pH;omega,jB,fun e=>by have:=hee e;omega,by have:=h.dK;omega⟩,hp,hi,hl,hs,hdd⟩
def Rd.fw(h:r.Inv)(he:r.e=0)(s:Rd.St r.down r'):Rd.St r r'.up:=by obtain⟨_,h1,h2,h3,h4,h5⟩:=Rd.bH h he;exact⟨s.src.trans h4,s.l.trans h3,by show r'.deep-1=_;rw[s.deep,h5];omega,by show r.i<=r'.i;rw[<-h2];exact s.i,by show r'.i<_;rw[<-h3];exact s.lt,by show r'.dK<=_;have:=s.dK;omega,fun e=>(e he).elim⟩
def Rd.lV{lv:Int}(h:r.next lv≠⟨#[]⟩):r.is (r.next lv)=true:=by
 unfold Rd.next at h ⊢;cases e:(nK lv).find? (fun s=>r.is s)with
 |none=>rw[e]at h;exact(h rfl).elim
 |some s=>exact List.find?_some e
def Rd.cW(h:r.Inv)(hk:r.e=0/\r.tok.kind≠0):r.inc.rem+1<=r.rem:=by have:=Rd.behind h hk.2;unfold Rd.rem;rw[if_pos hk.1,if_pos (show r.inc.e=0 from hk.1)];have:r.inc.i=r.i+1:=rfl;have:r.inc.l=r.l:=rfl;simp only[*];omega
theorem sI:∀n,(∀r:Rd,r.Inv->Rd.St r (po n r).1)/\(∀r:Rd,r.Inv->Rd.St r (ig n r).1)/\(∀lv (r:Rd),r.Inv->Rd.St r (dF n lv r).1)/\(∀lv ln (p:Rd×Int),p.1.Inv->Rd.St p.1 (ny n lv ln p).1)
 |0=>⟨fun r h=>by unfold po;exact .refl h,fun r h=>by unfold ig;exact .refl h,fun lv r h=>by unfold dF;exact .refl h,fun lv ln p h=>by unfold ny;exact .refl h⟩
 |n+1=>by
  obtain⟨ia,lC,ic,il⟩:=sI n
  -- a token, and what is behind it, deeper
  have deeper:∀(r:Rd) (t u:UX),r.Inv->r.e=0->Rd.St r ((dF n 0 (r.down.ao t)).1.ao u).up:=fun r t u h he=>by have h1:=(Rd.bH h he).1;have s1:=Rd.aH h1 t;have s2:=ic 0 _ (s1.inv h1);have s12:=s1.trans s2;have s3:=Rd.aH (s12.inv h1) u;exact Rd.fw h he (s12.trans s3)
  refine⟨fun r h=>?_,fun r h=>?_,fun lv r h=>?_,fun lv ln p h=>?_⟩
  ·unfold po;split
   ·exact .refl h
   rename_i he;have he:r.e=0:=jB;split
   ·rename_i hk;obtain⟨s1,e1⟩:=Rd.bq h jB;exact Rd.cR s1 jB _ _ _ _ _
   split
   ·rename_i hk;obtain⟨s1,e1⟩:=Rd.bq h jB;exact Rd.cR s1 jB _ _ _ _ _
   split
   ·rename_i hk;obtain⟨s1,e1⟩:=Rd.bq h jB;split
    ·have s2:=deeper r.inc (⟨#[91]⟩:UX) (⟨#[93]⟩:UX) (s1.inv h) he;exact Rd.cR (s1.trans s2) (by have:=s2.dK;omega) _ _ _ _ _
    ·exact Rd.cR s1 jB _ _ _ _ _
   split
   ·rename_i hs;obtain⟨s1,e1⟩:=Rd.bq h (Rd.aT hs).2;exact Rd.cR s1 jB _ _ _ _ _
   split
   ·rename_i hs;obtain⟨s1,e1⟩:=Rd.bq h (Rd.aT hs).2;exact Rd.cR s1 jB _ _ _ _ _
   split
   ·rename_i hs;obtain⟨s1,e1⟩:=Rd.bq h (Rd.aT hs).2;split
    ·have s2:=deeper r.inc (⟨#[40]⟩:UX) (⟨#[41]⟩:UX) (s1.inv h) he;exact Rd.cR (s1.trans s2) (by have:=s2.dK;omega) _ _ _ _ _
    ·exact s1.trans (Rd.fJ (s1.inv h) 20 jC)
   split
   ·exact deeper r (⟨#[40]⟩:UX) (⟨#[41]⟩:UX) h he
   ·exact Rd.fJ h 20 jC
  ·unfold ig;have sg:∀t,r.is t=true->∀k ln nm,Rd.St r (((ig n r.down.inc).1.up).put k ln 0 nm [(ig n r.down.inc).2]).1:=fun t ht k ln nm=>by
    obtain⟨he,hk⟩:=Rd.aT ht;obtain⟨h1,h2,h3,h4,_⟩:=Rd.bH h he;have Xb:r.down.tok=r.tok:=by unfold Rd.tok;rw[h3,h4]
    obtain⟨s1,e1⟩:=Rd.bq h1 (by rw[Xb];exact hk);have s2:=lC _ (s1.inv h1);exact Rd.cR (Rd.fw h he (s1.trans s2)) (by have:=s2.dK;show(ig n r.down.inc).1.dK+1<=_;omega) _ _ _ _ _
   split
   ·rename_i ht;exact sg _ ht _ _ _
   split
   ·rename_i ht;exact sg _ ht _ _ _
   ·exact ia r h
  ·unfold dF;split
   ·exact lC r h
   ·have s1:=ic (lv+1) r h;exact s1.trans (il _ _ _ (s1.inv h))
  ·unfold ny;split
   ·exact .refl h
   rename_i hn;obtain⟨s1,e1⟩:=Rd.bq h (Rd.aT (Rd.lV hn)).2;have s2:=ic (lv+1) _ (s1.inv h);have s3:=fun L=>Rd.cR (s1.trans s2) (by have:=s2.dK;omega) 9 ln 0 (p.1.next lv) L
   split
   ·exact s3 _
   ·exact(s3 _).trans (il _ _ _ ((s3 _).inv h))
def cU(r:Rd):Rd×Int:=dF (8*r.rem+8) 0 r
def mf:Nat->Bool->Rd->UU->Rd×UU
 |0,_,r,L=>(r,L)
 |_+1,false,r,L=>(r,L)
 |n+1,true,r,L=>if(cU r).1.is (⟨#[44]⟩:UX)=true then mf n true (cU r).1.inc (L++[(cU r).2])else((cU r).1,L++[(cU r).2])
def more(r:Rd):Bool:=!(r.is (⟨#[41]⟩:UX)) && decide (r.e=0)
def pK(r:Rd):Rd:=r.name.1.ao (⟨#[40]⟩:UX)
def oI(r:Rd):Rd×UU:=mf ((pK r).rem+2) (more (pK r)) (pK r) []
def mU(r:Rd):Rd×Int:=((oI r).1.ao (⟨#[41]⟩:UX)).put 21 r.bA 0 r.name.2 (oI r).2
def kZ(r:Rd):Rd×Int:=
 if r.is (⟨#[105,110,112,117,116]⟩:UX)=true then r.inc.put 19 r.bA 0 ⟨#[]⟩ []
 else if r.is (⟨#[110,101,119]⟩:UX)=true then((cU (r.inc.ao (⟨#[40]⟩:UX))).1.ao (⟨#[41]⟩:UX)).put 20 r.bA 0 ⟨#[]⟩ [(cU (r.inc.ao (⟨#[40]⟩:UX))).2]
 else if r.calls=true then mU r else cU r
def pe(r:Rd):Rd×Int:=cU (r.down.ao (⟨#[91]⟩:UX))
def uB(r:Rd):Rd×Int:=cU (((pe r).1.ao (⟨#[93]⟩:UX)).up.ao (⟨#[61]⟩:UX))
def pd(r:Rd)(ln:Int):Rd×Int:=
 if r.calls=true then((mU r).1.ao (⟨#[59]⟩:UX)).put 13 ln 0 ⟨#[]⟩ [(mU r).2]
 else if r.name.1.is (⟨#[91]⟩:UX)=true then((uB r.name.1).1.ao (⟨#[59]⟩:UX)).put 12 ln 0 r.name.2 [(pe r.name.1).2,(uB r.name.1).2]
 else((kZ (r.name.1.ao (⟨#[61]⟩:UX))).1.ao (⟨#[59]⟩:UX)).put 11 ln 0 r.name.2 [(kZ (r.name.1.ao (⟨#[61]⟩:UX))).2]
mutual
def fP:Nat->Rd->Rd×Int
 |0,r=>(r,0)
 |n+1,r=>
  if r.is (⟨#[123]⟩:UX)=true then((mn n (r.down.ao (⟨#[123]⟩:UX)) []).1.ao (⟨#[125]⟩:UX)).up.put 18 r.bA 0 ⟨#[]⟩ (mn n (r.down.ao (⟨#[123]⟩:UX)) []).2
  else(r.aA 20,0)
def mn:Nat->Rd->UU->Rd×UU
 |0,r,L=>(r,L)
 |n+1,r,L=>if r.e=0/\r.is (⟨#[125]⟩:UX)=false then mn n (mF n r).1 (L++[(mF n r).2])else(r,L)
def mF:Nat->Rd->Rd×Int
 |0,r=>(r,0)
 |n+1,r=>
  if r.word=(⟨#[108,101,116]⟩:UX)then((kZ (r.inc.name.1.ao (⟨#[61]⟩:UX))).1.ao (⟨#[59]⟩:UX)).put 10 r.bA 0 r.inc.name.2 [(kZ (r.inc.name.1.ao (⟨#[61]⟩:UX))).2]
  else if r.word=(⟨#[112,114,105,110,116]⟩:UX)then((cU r.inc).1.ao (⟨#[59]⟩:UX)).put 14 r.bA 0 ⟨#[]⟩ [(cU r.inc).2]
  else if r.word=(⟨#[119,104,105,108,101]⟩:UX)then(fP n (cU r.inc).1).1.put 16 r.bA 0 ⟨#[]⟩ [(cU r.inc).2,(fP n (cU r.inc).1).2]
  else if r.word=(⟨#[105,102]⟩:UX)then
   (if(fP n (cU r.inc).1).1.is (⟨#[101,108,115,101]⟩:UX)=true then(fP n (fP n (cU r.inc).1).1.inc).1.put 15 r.bA 0 ⟨#[]⟩ [(cU r.inc).2,(fP n (cU r.inc).1).2,(fP n (fP n (cU r.inc).1).1.inc).2]
   else(fP n (cU r.inc).1).1.put 15 r.bA 0 ⟨#[]⟩ [(cU r.inc).2,(fP n (cU r.inc).1).2])
  else if r.word=(⟨#[114,101,116,117,114,110]⟩:UX)then
   (if r.inc.is (⟨#[59]⟩:UX)=true then(r.inc.ao (⟨#[59]⟩:UX)).put 17 r.bA 0 ⟨#[]⟩ []
   else((cU r.inc).1.ao (⟨#[59]⟩:UX)).put 17 r.bA 0 ⟨#[]⟩ [(cU r.inc).2])
  else pd r r.bA
end
def oi(r:Rd):Rd×Int:=fP (4*r.rem+4) r
def tZ(w:UX):Int:=if w=(⟨#[105,110,116]⟩:UX)then 1 else if w=(⟨#[98,111,111,108]⟩:UX)then 2 else if w=(⟨#[116,101,120,116]⟩:UX)then 3 else if w=(⟨#[108,105,115,116]⟩:UX)then 4 else 0
def iB(r:Rd):Rd×Int:=if tZ r.word=0 then(r.aA 20,0)else(r.inc,tZ r.word)
def pr(r:Rd):Rd:=(iB r.name.1).1
def k9:Nat->Bool->Rd->List bp->Rd×List bp
 |0,_,r,L=>(r,L)
 |_+1,false,r,L=>(r,L)
 |n+1,true,r,L=>if(pr r).is (⟨#[44]⟩:UX)=true then k9 n true (pr r).inc (L++[⟨r.name.2,(iB r.name.1).2⟩])else(pr r,L++[⟨r.name.2,(iB r.name.1).2⟩])
def l5(r:Rd):Rd:=(r.ao (⟨#[102,110]⟩:UX)).name.1.ao (⟨#[40]⟩:UX)
def tj(r:Rd):Rd×List bp:=k9 ((l5 r).rem+2) (more (l5 r)) (l5 r) []
def lI(r:Rd):Rd:=(tj r).1.ao (⟨#[41]⟩:UX)
def lT(r:Rd):Rd×Int:=if(lI r).is (⟨#[123]⟩:UX)=true then(lI r,0)else iB (lI r)
def mA(r:Rd):Rd×aV:=((oi (lT r).1).1,⟨(r.ao (⟨#[102,110]⟩:UX)).name.2,r.bA,(tj r).2,(lT r).2,(oi (lT r).1).2⟩)
def ot:Nat->Rd->List aV->Rd×List aV
 |0,r,L=>(r,L)
 |n+1,r,L=>if r.e=0/\r.kind 0=false then ot n (mA r).1 (L++[(mA r).2])else(r,L)
def nN(s:UX):Rd:=⟨s,(ko s).1,0,[],0,0,0⟩
def oj(s:UX):Rd×List aV:=ot ((nN s).rem+1) (nN s) []
def ua(t:List bk)(L:List aV):Bool:=decide (300<t.length) || decide (6<L.length) || L.any fun f=>decide (3<f.params.length)
def gu(s:UX):aB×Int×Int:=
 if(ko s).2.2≠0 then(⟨[],[]⟩,(ko s).2.1,(ko s).2.2)
 else if(oj s).1.e≠0 then(⟨[],[]⟩,(oj s).1.at_,(oj s).1.e)
 else if ua (oj s).1.nodes (oj s).2=true then(⟨[],[]⟩,0,4)
 else(⟨(oj s).1.nodes,(oj s).2⟩,0,0)
-- what is kept
def Rd.St.ut(s:Rd.St r r')(h:r.Inv)(he:r.e=0)(hi:r.i+1<=r'.i):r'.rem+1<=r.rem:=by have h1:=s.l;have h2:=s.lt;have h3:=h.pos;unfold Rd.rem;rw[if_pos he,h1];split<;>omega
def Rd.St.mh(h:r.Inv)(he:r.e=0)(hi:r'.e≠0):r'.rem+1<=r.rem:=by have h2:=h.lt;have h3:=h.pos;unfold Rd.rem;rw[if_pos he,if_neg hi];omega
def Rd.gQ{e:Int}(he:e≠0):(r.aA e).e≠0:=by
 unfold Rd.aA;split
 ·exact he
 ·assumption
def Rd.n8(h:r.Inv)(he:r.e=0)(t:UX):(r.ao t).rem+1<=r.rem/\(r.ao t).dK+1<=r.dK:=by
 unfold Rd.ao;split
 ·rename_i hs;have hk:=Rd.aT hs;exact⟨Rd.cW h hk,by rw[(Rd.bq h hk.2).2];omega⟩
 ·have X5:=Rd.gQ (r:=r) (e:=20) jC;refine⟨Rd.St.mh h he X5,?_⟩;unfold Rd.dK;rw[dI,gT,wR,if_pos he,if_neg X5];omega
def Rd.sD(h:r.Inv)(he:r.e=0):r.name.1.rem+1<=r.rem/\r.name.1.dK+1<=r.dK:=by
 unfold Rd.name;split
 ·rename_i hs;have hk:=Rd.dH hs jC;exact⟨Rd.cW h hk,by show r.inc.dK+1<=_;rw[(Rd.bq h hk.2).2];omega⟩
 ·have X5:=Rd.gQ (r:=r) (e:=20) jC;refine⟨Rd.St.mh h he X5,?_⟩;show(r.aA 20).dK+1<=_;unfold Rd.dK;rw[dI,gT,wR,if_pos he,if_neg X5];omega
def Rd.gS(h:r.Inv)(ht:r.is t=true):(r.down.ao t).rem+1<=r.rem/\(r.down.ao t).dK+1<=r.dK:=by
 obtain⟨he,hk⟩:=Rd.aT ht;obtain⟨h1,h2,h3,h4,h5,h6⟩:=Rd.bH h he;by_cases e:r.down.e=0
 ·obtain⟨a,b⟩:=Rd.n8 h1 e t;have:r.down.rem<=r.rem:=by
   unfold Rd.rem;rw[if_pos he,if_pos e,h3,h4];exact Nat.le_refl _
  omega
 ·have hs:=Rd.aH h1 t;have e2:(r.down.ao t).e≠0:=hs.err e;refine⟨Rd.St.mh h he e2,?_⟩;have:r.down.dK+1<=r.dK:=by
   have hn:r.down.nodes=r.nodes:=by unfold Rd.down;split<;>simp[dI]
   unfold Rd.dK;rw[hn,h4,h3,if_pos he,if_neg e];omega
  have:=hs.dK;omega
def kH(h:r.Inv):Rd.St r (cU r).1:=(sI _).2.2.1 0 r h
theorem AW:∀(n:Nat) (b:Bool) (r:Rd) (L:UU),r.Inv->Rd.St r (mf n b r L).1
 |0,_,r,L,h=>by unfold mf;exact .refl h
 |n+1,false,r,L,h=>by unfold mf;exact .refl h
 |n+1,true,r,L,h=>by
  have s1:=kH h;have h1:=s1.inv h;unfold mf;split
  ·rename_i hs;have s2:=(Rd.bq h1 (Rd.aT hs).2).1;exact(s1.trans s2).trans (AW n _ _ _ (s2.inv h1))
  ·exact s1
def zm(h:r.Inv):Rd.St r (pK r):=(Rd.dm h).trans (Rd.aH ((Rd.dm h).inv h) _)
def B6(h:r.Inv):Rd.St r (oI r).1:=(zm h).trans (AW _ _ _ _ ((zm h).inv h))
def LH(h:r.Inv):Rd.St r ((oI r).1.ao (⟨#[41]⟩:UX)):=(B6 h).trans (Rd.aH ((B6 h).inv h) _)
def Rd.ki(h:r.calls=true):r.kind 3=true:=by unfold Rd.calls at h;simp only[Bool.and_eq_true]at h;exact h.1.1
def Dr(h:r.Inv)(hc:r.calls=true):Rd.St r (mU r).1/\(mU r).1.dK+2<=r.dK/\(mU r).1.rem+1<=r.rem:=by
 have hk:=Rd.dH (Rd.ki hc) jC;have hn:r.name.1=r.inc:=by unfold Rd.name;rw[if_pos (Rd.ki hc)]
 obtain⟨s1,e1⟩:=Rd.bq h hk.2;have h1:=s1.inv h;have s2:Rd.St r.inc ((oI r).1.ao (⟨#[41]⟩:UX)):=by
  have a1:Rd.St r.inc (pK r):=by unfold pK;rw[hn];exact Rd.aH h1 _
  have a2:Rd.St r.inc (oI r).1:=a1.trans (AW _ _ _ _ (a1.inv h1));exact a2.trans (Rd.aH (a2.inv h1) _)
 have hp:=s2.dK;have s3:=Rd.cR (s1.trans s2) jB 21 r.bA 0 r.name.2 (oI r).2;refine⟨s3,?_,?_⟩
 ·show(((oI r).1.ao (⟨#[41]⟩:UX)).node _).dK+2<=_;rw[Rd.mM];omega
 ·refine s3.ut h hk.1 ?_;have:=s2.i;exact this
def Aa(h:r.Inv):Rd.St r (kZ r).1:=by
 unfold kZ;split
 ·rename_i hs;obtain⟨s1,e1⟩:=Rd.bq h (Rd.aT hs).2;exact Rd.cR s1 jB _ _ _ _ _
 split
 ·rename_i hs;obtain⟨s1,e1⟩:=Rd.bq h (Rd.aT hs).2;have h1:=s1.inv h;have s2:=Rd.aH h1 (⟨#[40]⟩:UX);have s3:=kH (s2.inv h1);have s23:=s2.trans s3;have s4:=s23.trans (Rd.aH (s23.inv h1) (⟨#[41]⟩:UX));exact Rd.cR (s1.trans s4) (by have:=s4.dK;omega) _ _ _ _ _
 split
 ·rename_i hc;exact(Dr h hc).1
 ·exact kH h
def Ca(h:r.Inv)(hs:r.is (⟨#[91]⟩:UX)=true):Rd.St r.down (pe r).1/\Rd.St r ((pe r).1.ao (⟨#[93]⟩:UX)).up:=by have he:=(Rd.aT hs).1;have h1:=(Rd.bH h he).1;have s1:=Rd.aH h1 (⟨#[91]⟩:UX);have s2:=s1.trans (kH (s1.inv h1));exact⟨s2,Rd.fw h he (s2.trans (Rd.aH (s2.inv h1) _))⟩
def yN(h:r.Inv)(hs:r.is (⟨#[91]⟩:UX)=true):Rd.St r (((pe r).1.ao (⟨#[93]⟩:UX)).up.ao (⟨#[61]⟩:UX))/\Rd.St r (uB r).1:=by have s1:=(Ca h hs).2;have s2:=s1.trans (Rd.aH (s1.inv h) (⟨#[61]⟩:UX));exact⟨s2,s2.trans (kH (s2.inv h))⟩
def Ox(h:r.Inv)(he:r.e=0)(ln:Int):Rd.St r (pd r ln).1/\(pd r ln).1.rem+1<=r.rem:=by
 unfold pd;have s0:=Rd.dm h;have h0:=s0.inv h;obtain⟨n1,n2⟩:=Rd.sD h he
 -- a name, and what is behind it
 have fin:∀(q:Rd) k L,Rd.St r.name.1 q->Rd.St r (q.put k ln 0 r.name.2 L).1/\(q.put k ln 0 r.name.2 L).1.rem+1<=r.rem:=fun q k L s=>by refine⟨Rd.cR (s0.trans s) (by have:=s.dK;omega) _ _ _ _ _,?_⟩;have:=s.rem;show q.rem+1<=_;omega
 split
 ·rename_i hc;obtain⟨s1,p1,r1⟩:=Dr h hc;have s2:=Rd.aH (s1.inv h) (⟨#[59]⟩:UX);refine⟨Rd.cR (s1.trans s2) (by have:=s2.dK;omega) _ _ _ _ _,?_⟩;have:=s2.rem;show((mU r).1.ao (⟨#[59]⟩:UX)).rem+1<=_;omega
 split
 ·rename_i hs;have s1:=(yN h0 hs).2;exact fin _ _ _ (s1.trans (Rd.aH (s1.inv h0) _))
 ·have s1:=Rd.aH h0 (⟨#[61]⟩:UX);have s2:=s1.trans (Aa (s1.inv h0));exact fin _ _ _ (s2.trans (Rd.aH (s2.inv h0) _))
def Rd.gO{w:UX}(h:r.word=w)(h0:w≠⟨#[]⟩):r.kind 4=true:=by
 unfold Rd.word at h;split at h
 ·assumption
 ·exact absurd h.symm h0
theorem tV:∀n,(∀r:Rd,r.Inv->Rd.St r (fP n r).1)/\(∀(r:Rd) L,r.Inv->Rd.St r (mn n r L).1)/\(∀r:Rd,r.Inv->r.e=0->0<n->Rd.St r (mF n r).1/\(mF n r).1.rem+1<=r.rem)
 |0=>⟨fun r h=>by unfold fP;exact .refl h,fun r L h=>by unfold mn;exact .refl h,fun r h he hn=>by omega⟩
 |n+1=>by
  obtain⟨ib,is,it⟩:=tV n;refine⟨fun r h=>?_,fun r L h=>?_,fun r h he _=>?_⟩
  ·unfold fP;split
   ·rename_i hs;have he:=(Rd.aT hs).1;have h1:=(Rd.bH h he).1;have s1:=Rd.aH h1 (⟨#[123]⟩:UX);have s2:=is _ [] (s1.inv h1);have s12:=s1.trans s2;have s3:=Rd.aH (s12.inv h1) (⟨#[125]⟩:UX);have hp:=(Rd.gS h hs).2;refine Rd.cR (Rd.fw h he (s12.trans s3)) ?_ _ _ _ _ _;have:=s2.dK;have:=s3.dK;show((mn n (r.down.ao (⟨#[123]⟩:UX)) []).1.ao (⟨#[125]⟩:UX)).dK+1<=_;omega
   ·exact Rd.fJ h 20 jC
  ·unfold mn;split
   ·rename_i hc;cases n with
    |zero=>unfold mn mF;exact .refl h
    |succ n=> have s1:=(it r h hc.1 jB).1;exact s1.trans (is _ _ (s1.inv h))
   ·exact .refl h
  ·-- a word, and what is behind it
   have fin:∀(w:UX) (q:Rd) k ln nm L,w≠⟨#[]⟩->r.word=w->(r.inc.Inv->Rd.St r.inc q)->Rd.St r (q.put k ln 0 nm L).1/\(q.put k ln 0 nm L).1.rem+1<=r.rem:=fun w q k ln nm L h0 hw s=>by have hk:=Rd.dH (Rd.gO hw h0) jC;obtain⟨s1,e1⟩:=Rd.bq h hk.2;have s2:=s (s1.inv h);refine⟨Rd.cR (s1.trans s2) (by have:=s2.dK;omega) _ _ _ _ _,?_⟩;have:=s2.rem;have:=Rd.cW h hk;show q.rem+1<=_;omega
   unfold mF;split
   ·rename_i hw;refine fin _ _ _ _ _ _ jC hw fun h1=>?_
    have s1:=Rd.dm h1;have s2:=s1.trans (Rd.aH (s1.inv h1) (⟨#[61]⟩:UX));have s3:=s2.trans (Aa (s2.inv h1));exact s3.trans (Rd.aH (s3.inv h1) _)
   split
   ·rename_i hw;refine fin _ _ _ _ _ _ jC hw fun h1=>?_
    have s1:=kH h1;exact s1.trans (Rd.aH (s1.inv h1) _)
   split
   ·rename_i hw;refine fin _ _ _ _ _ _ jC hw fun h1=>?_
    have s1:=kH h1;exact s1.trans (ib _ (s1.inv h1))
   split
   ·rename_i hw;split
    ·rename_i hs;refine fin _ _ _ _ _ _ jC hw fun h1=>?_
     have s1:=kH h1;have s2:=s1.trans (ib _ (s1.inv h1));have h2:=s2.inv h1;have s3:=(Rd.bq h2 (Rd.aT hs).2).1;exact(s2.trans s3).trans (ib _ (s3.inv h2))
    ·refine fin _ _ _ _ _ _ jC hw fun h1=>?_
     have s1:=kH h1;exact s1.trans (ib _ (s1.inv h1))
   split
   ·rename_i hw;split
    ·exact fin _ _ _ _ _ _ jC hw fun h1=>Rd.aH h1 _
    ·refine fin _ _ _ _ _ _ jC hw fun h1=>?_
     have s1:=kH h1;exact s1.trans (Rd.aH (s1.inv h1) _)
   ·exact Ox h he _
def Bi(h:r.Inv):Rd.St r (oi r).1:=(tV _).1 r h
def LC(h:tZ r.word≠0):r.e=0/\r.tok.kind≠0:=by refine Rd.dH (k:=4) (Rd.gO (r:=r) rfl fun e=>?_) jC;rw[e]at h;exact h jC
def En(h:r.Inv):Rd.St r (iB r).1:=by
 unfold iB;split
 ·exact Rd.fJ h 20 jC
 ·rename_i ht;exact(Rd.bq h (LC ht).2).1
def Ig(h:r.Inv):Rd.St r (pr r):=(Rd.dm h).trans (En ((Rd.dm h).inv h))
theorem Hx:∀(n:Nat) (b:Bool) (r:Rd) (L:List bp),r.Inv->Rd.St r (k9 n b r L).1
 |0,_,r,L,h=>by unfold k9;exact .refl h
 |n+1,false,r,L,h=>by unfold k9;exact .refl h
 |n+1,true,r,L,h=>by
  have s1:=Ig h;have h1:=s1.inv h;unfold k9;split
  ·rename_i hs;have s2:=(Rd.bq h1 (Rd.aT hs).2).1;exact(s1.trans s2).trans (Hx n _ _ _ (s2.inv h1))
  ·exact s1
def qK(h:r.Inv):Rd.St r (r.ao (⟨#[102,110]⟩:UX))/\Rd.St r (r.ao (⟨#[102,110]⟩:UX)).name.1/\Rd.St r (l5 r)/\Rd.St (r.ao (⟨#[102,110]⟩:UX)) (l5 r):=by have s1:=Rd.aH h (⟨#[102,110]⟩:UX);have h1:=s1.inv h;have s2:=Rd.dm h1;have s3:=s2.trans (Rd.aH (s2.inv h1) (⟨#[40]⟩:UX));exact⟨s1,s1.trans s2,s1.trans s3,s3⟩
def DO(h:r.Inv):Rd.St (r.ao (⟨#[102,110]⟩:UX)) (tj r).1:=(qK h).2.2.2.trans (Hx _ _ _ _ ((qK h).2.2.1.inv h))
def yF(h:r.Inv):Rd.St (r.ao (⟨#[102,110]⟩:UX)) (lI r):=(DO h).trans (Rd.aH ((DO h).inv ((qK h).1.inv h)) _)
def As(h:r.Inv):Rd.St (r.ao (⟨#[102,110]⟩:UX)) (lT r).1:=by
 unfold lT;split
 ·exact yF h
 ·exact(yF h).trans (En ((yF h).inv ((qK h).1.inv h)))
def FU(h:r.Inv):Rd.St r (mA r).1/\(r.e=0->(mA r).1.rem+1<=r.rem):=by have h1:=(qK h).1.inv h;have s:=(As h).trans (Bi ((As h).inv h1));refine⟨(qK h).1.trans s,fun he=>?_⟩;have:=(Rd.n8 h he (⟨#[102,110]⟩:UX)).1;have:(oi (lT r).1).1.rem<=_:=s.rem;show(oi (lT r).1).1.rem+1<=_;omega
def GL{e:Nat}(he:e<=s.size)(hj:a+j<e):dY (s.extract a e) (j:Nat)=dY s ((a+j:Nat):Int):=by unfold dY;have h1:(s.extract a e).data=s.data.extract a e:=jE;rw[h1];simp only[Int.toNat_natCast];have hs:e<=s.data.size:=he;rw[Array.getElem?_extract];rw[jP]
def Ru(ha:a<s.size)(h:(gP s a).2.2=0):(gP s a).1.kind≠0/\((gP s a).1.kind=1->rZ (gP s a).1.text):=by
 unfold gP at h ⊢;split at h<;>rename_i h1
 ·rw[if_pos h1];split at h<;>rename_i h2
  ·rw[if_pos h2];refine⟨fun e=>(by cases e),fun _=>?_⟩;have hb:=(uw (p:=km) (s:=s) (i:=a) jB).2;have hp:=xq ha h1;have Vb:(s.extract a (gJ km s a)).size=gJ km s a-a:=by rw[ByteArray.size_extract];omega
   refine⟨by show 0<(s.extract a (gJ km s a)).size;omega,h2,fun j hj=>?_⟩;have hj:j<(s.extract a (gJ km s a)).size:=hj;show km (dY (s.extract a (gJ km s a)) j)=true;rw[GL hb jB];exact CL (n:=s.size+1) (i:=a) jB (by show _<gJ km s a;omega)
  ·cases h
 ·rw[if_neg h1];split at h<;>rename_i h2
  ·rw[if_pos h2];split at h<;>rename_i h3
   ·rw[if_pos h3];exact⟨fun e=>(by cases e),fun e=>(by cases e)⟩
   ·rw[if_neg h3];split at h<;>rename_i h4
    ·cases h
    ·rw[if_neg h4];exact⟨fun e=>(by cases e),fun e=>(by cases e)⟩
  ·rw[if_neg h2];split at h<;>rename_i h3
   ·rw[if_pos h3];exact⟨fun e=>(by cases e),fun e=>(by cases e)⟩
   ·rw[if_neg h3];split at h<;>rename_i h4
    ·cases h
    ·rw[if_neg h4];exact⟨fun e=>(by cases e),fun e=>(by cases e)⟩
def DE(t:cd):Prop:=t.kind≠0/\(t.kind=1->rZ t.text)
theorem KD(s:UX):∀(n i:Nat) (out:List cd),s.size<n+i->i<=s.size->(kP s n i out).2.2=0->out.length<=i->(∀t∈out,DE t)->∃ts,(kP s n i out).1=ts++[⟨0,⟨#[]⟩,s.size⟩]/\ts.length<=s.size/\∀t∈ts,DE t
 |0,i,out,h1,h2,_,_,_=>by omega
 |n+1,i,out,h1,h2,he,hl,ho=>by
  unfold kP at he ⊢;split at he<;>rename_i hi
  ·rw[if_pos hi];split at he<;>rename_i h3
   ·rw[if_pos h3];obtain⟨e,h4,h5,h6⟩:=At hi h3;rw[h4,Int.toNat_natCast]at he ⊢;have:=wc (s:=s) (i:=e) h6;refine KD s n _ _ jB this.2 he (by rw[List.length_append];simp;omega) fun t ht=>?_
    rcases List.mem_append.1 ht with ht|ht
    ·exact ho t ht
    ·rw[List.mem_singleton.1 ht];exact Ru hi h3
   ·exact(h3 he).elim
  ·rw[if_neg hi];exact⟨out,rfl,jB,ho⟩
def Ka(he:(ko s).2.2=0):s.size<=600/\∃ts,(ko s).1=ts++[⟨0,⟨#[]⟩,s.size⟩]/\ts.length<=s.size/\∀t∈ts,DE t:=by
 unfold ko at he ⊢;split at he<;>rename_i h
 ·cases he
 ·rw[if_neg h];have h0:=wc (s:=s) (i:=0) (Nat.zero_le _);exact⟨jB,KD s (s.size+1) _ _ jB h0.2 he jE fun t ht=>by simp at ht⟩
def SU[Inhabited α]{l m:List α}(h:k<l.length):nth (l++m) k=nth l k:=by simp only[nth,List.getD_eq_getElem?_getD,List.getElem?_append_left h]
def cV[Inhabited α]{l:List α}(h:k<l.length):nth l k∈l:=by rw[ee h];exact List.getElem_mem h
def Ht(he:(ko s).2.2=0):(nN s).Inv:=by
 obtain⟨h0,ts,h1,h2,h3⟩:=Ka he;have hl:(nN s).l=ts++[⟨0,⟨#[]⟩,s.size⟩]:=h1;have hn:(nN s).l.length=ts.length+1:=by rw[hl];simp
 have Vc:nth (ts++[⟨0,⟨#[]⟩,s.size⟩]:List cd) ts.length=⟨0,⟨#[]⟩,s.size⟩:=by simp[nth]
 refine⟨by show s.size<=1000;omega,Int.le_refl _,by show(0:Int)<_;omega,jB,fun k hk Vs=>?_,fun k hk Vs=>?_,Int.le_refl _,by show(0:Int)<=17;decide,fun _=>by show(0:Int)<=16;decide,?_⟩
 ·rw[hl]at Vs ⊢;by_cases e:k<ts.length
  ·rw[SU e]at Vs ⊢;exact(h3 _ (cV e)).2 Vs
  ·have:k=ts.length:=jB;subst this;rw[Vc]at Vs;cases Vs
 ·by_cases e:k<ts.length
  ·omega
  ·have:k=ts.length:=jB;subst this;rw[hl,Vc]at Vs;exact(Vs rfl).elim
 ·show((0:Nat):Int)+3*((nN s).l.length-0)+1<=8000;omega
end Go.Gd
namespace Go.Proofs.YtjpcgmjaipfgdaaGreatDoor
open Go Go.Gd Tryz
@[go_sem] def qg2:cQ prog 3=some 1/\dv prog 3=some false/\dS prog 3=some [.int .i64 0]/\gY prog 3=false/\ta prog 3=false/\xF prog 3=false/\CN prog 3=some .i64/\jW prog 3=8/\dv prog 4=some false/\gY prog 4=false/\ta prog 4=false/\xF prog 4=true/\cQ prog 9=some 1/\dv prog 9=some false/\dS prog 9=some [.string ⟨#[]⟩]/\ru prog 9=true/\jW prog 9=16/\cQ prog 22=some 1/\dv prog 22=some false/\dS prog 22=some [.slice none 0 0]/\iE prog 22=some 3/\iy prog 22=some 1/\gY prog 22=true/\jW prog 22=24:=by and_intros<;>kernel_rfl
@[go_sem] def qgu:cQ prog 27=some 1/\dv prog 27=some false/\iE prog 27=some 116/\iy prog 27=some 5/\gY prog 27=true/\cQ prog 28=some 1/\dv prog 28=some false/\iE prog 28=some 181/\iy prog 28=some 5/\gY prog 28=true/\cQ prog 30=some 2/\dv prog 30=some true/\dS prog 30=some [.slice none 0 0,.slice none 0 0]/\bX prog 30 0=some 0/\bX prog 30 1=some 1/\iP prog 30=some [(0,1),(1,1)]/\cQ prog 32=some 6/\dv prog 32=some true/\dS prog 32=some [.slice none 0 0,.slice none 0 0,.slice none 0 0,.slice none 0 0,.slice none 0 0,.slice none 0 0]/\bX prog 32 0=some 0/\bX prog 32 1=some 2/\bX prog 32 2=some 3/\bX prog 32 3=some 4/\bX prog 32 4=some 5:=by and_intros<;>kernel_rfl
@[go_sem] def qgn:iP prog 32=some [(0,2),(2,1),(3,1),(4,1),(5,1)]/\cQ prog 33=some 1/\dv prog 33=some false/\cQ prog 41=some 1/\dv prog 41=some false/\iE prog 41=some 137/\iy prog 41=some 3/\gY prog 41=true/\cQ prog 42=some 1/\dv prog 42=some false/\iE prog 42=some 22/\iy prog 42=some 1/\gY prog 42=true/\cQ prog 43=some 1/\dv prog 43=some false/\iE prog 43=some 9/\iy prog 43=some 1/\gY prog 43=true/\ru prog 43=false/\cQ prog 45=some 7/\dv prog 45=some true/\dS prog 45=some [.slice none 0 0,.slice none 0 0,.int .i64 0,.slice none 0 0,.int .i64 0,.int .i64 0,.int .i64 0]/\bX prog 45 0=some 0/\bX prog 45 1=some 1:=by and_intros<;>kernel_rfl
@[go_sem] def j8L:bX prog 45 2=some 2/\bX prog 45 3=some 3/\bX prog 45 4=some 4/\bX prog 45 5=some 5/\vm prog 45 6=some (3,6)/\iP prog 45=some [(0,1),(1,1),(2,1),(3,1),(4,1),(5,1),(6,1)]/\cQ prog 50=some 1/\dv prog 50=some false/\iE prog 50=some 56/\iy prog 50=some 5/\gY prog 50=true/\cQ prog 52=some 4/\dv prog 52=some true/\dS prog 52=some [.string ⟨#[]⟩,.slice none 0 0,.slice none 0 0,.slice none 0 0]/\bX prog 52 0=some 0/\bX prog 52 1=some 1/\bX prog 52 2=some 2/\bX prog 52 3=some 3/\cQ prog 54=some 3/\dv prog 54=some true/\dS prog 54=some [.int .i64 0,.int .i64 0,.string ⟨#[]⟩]/\bX prog 54 0=some 0/\bX prog 54 1=some 1/\vm prog 54 1=some (3,1):=by and_intros<;>kernel_rfl
@[go_sem] def j8V:bX prog 54 2=some 2/\iP prog 54=some [(0,1),(1,1),(2,1)]/\jW prog 54=32/\cQ prog 56=some 5/\dv prog 56=some true/\dS prog 56=some [.int .i64 0,.string ⟨#[]⟩,.int .i64 0,.int .i64 0,.string ⟨#[]⟩]/\bX prog 56 0=some 0/\bX prog 56 1=some 1/\bX prog 56 2=some 2/\jW prog 56=56/\cQ prog 65=some 1/\dv prog 65=some false/\iE prog 65=some 78/\iy prog 65=some 3/\gY prog 65=true/\cQ prog 67=some 5/\dv prog 67=some true/\dS prog 67=some [.slice none 0 0,.slice none 0 0,.int .i64 0,.int .i64 0,.int .i64 0]/\bX prog 67 0=some 0/\bX prog 67 1=some 1/\bX prog 67 2=some 2/\bX prog 67 3=some 3/\bX prog 67 4=some 4/\iP prog 67=some [(0,1),(1,1),(2,1),(3,1),(4,1)]:=by and_intros<;>kernel_rfl
@[go_sem] def j84:bX prog 74 0=some 0/\bX prog 74 1=some 4/\cQ prog 76=some 1/\dv prog 76=some false/\iE prog 76=some 80/\iy prog 76=some 2/\gY prog 76=true/\cQ prog 78=some 3/\dv prog 78=some true/\dS prog 78=some [.string ⟨#[]⟩,.int .i64 0,.slice none 0 0]/\bX prog 78 0=some 0/\bX prog 78 1=some 1/\bX prog 78 2=some 2/\iP prog 78=some [(0,1),(1,1),(2,1)]/\jW prog 78=48/\cQ prog 80=some 2/\dv prog 80=some true/\dS prog 80=some [.string ⟨#[]⟩,.string ⟨#[]⟩]/\bX prog 80 0=some 0/\bX prog 80 1=some 1/\iP prog 80=some [(0,1),(1,1)]/\zn prog 80=some [.str,.str]/\jW prog 80=32/\cQ prog 116=some 5:=by and_intros<;>kernel_rfl
@[go_sem] def j96:dv prog 116=some true/\dS prog 116=some [.int .i64 0,.int .i64 0,.int .i64 0,.string ⟨#[]⟩,.slice none 0 0]/\bX prog 116 0=some 0/\bX prog 116 1=some 1/\bX prog 116 2=some 2/\bX prog 116 3=some 3/\bX prog 116 4=some 4/\vm prog 116 4=some (22,4)/\iP prog 116=some [(0,1),(1,1),(2,1),(3,1),(4,1)]/\jW prog 116=64/\cQ prog 119=some 1/\dv prog 119=some false/\cQ prog 135=some 1/\dv prog 135=some false/\iE prog 135=some 54/\iy prog 135=some 3/\gY prog 135=true/\ru prog 135=false/\cQ prog 137=some 3/\dv prog 137=some true/\dS prog 137=some [.int .i64 0,.int .i64 0,.slice none 0 0]/\bX prog 137 0=some 0/\bX prog 137 1=some 1/\bX prog 137 2=some 2:=by and_intros<;>kernel_rfl
@[go_sem] def qdn:iP prog 137=some [(0,1),(1,1),(2,1)]/\jW prog 137=40/\dS prog 150=some [.slice none 0 0]/\bX prog 150 0=some 0/\iP prog 150=some [(0,1)]/\cQ prog 172=some 1/\dv prog 172=some false/\iE prog 172=some 248/\iy prog 172=some 3/\dS prog 177=some [.string ⟨#[]⟩,.slice none 0 0,.int .i64 0,.slice none 0 0,.int .i64 0,.int .i64 0,.int .i64 0]/\bX prog 177 0=some 0/\bX prog 177 1=some 1/\bX prog 177 2=some 2/\bX prog 177 3=some 3/\bX prog 177 4=some 4/\bX prog 177 5=some 5/\bX prog 177 6=some 6/\iP prog 177=some [(0,1),(1,1),(2,1),(3,1),(4,1),(5,1),(6,1)]/\cQ prog 178=some 1/\dv prog 178=some false/\dS prog 178=some [.nilFunc]/\cQ prog 179=some 1/\dv prog 179=some false/\iE prog 179=some 254:=by and_intros<;>kernel_rfl
@[go_sem] def qcY:iy prog 179=some 2/\gY prog 179=true/\cQ prog 181=some 5/\dv prog 181=some true/\dS prog 181=some [.string ⟨#[]⟩,.int .i64 0,.slice none 0 0,.int .i64 0,.int .i64 0]/\bX prog 181 0=some 0/\bX prog 181 2=some 2/\bX prog 181 3=some 3/\bX prog 181 4=some 4/\iP prog 181=some [(0,1),(1,1),(2,1),(3,1),(4,1)]/\jW prog 181=64/\cQ prog 184=some 1/\dv prog 184=some false/\dS prog 184=some [.slice none 0 0]/\iE prog 184=some 258/\iy prog 184=some 3/\gY prog 184=true/\dS prog 186=some [.slice none 0 0,.slice none 0 0,.slice none 0 0,.slice none 0 0,.slice none 0 0,.slice none 0 0,.int .i64 0,.slice none 0 0,.int .i64 0,.int .i64 0,.int .i64 0]/\bX prog 186 0=some 0/\bX prog 186 1=some 6/\bX prog 186 2=some 7/\bX prog 186 3=some 8/\bX prog 186 4=some 9/\bX prog 186 5=some 10:=by and_intros<;>kernel_rfl
@[go_sem] def qdr:iP prog 186=some [(0,6),(6,1),(7,1),(8,1),(9,1),(10,1)]/\cQ prog 197=some 1/\dv prog 197=some false/\iE prog 197=some 219/\iy prog 197=some 4/\gY prog 197=true/\cQ prog 199=some 2/\dv prog 199=some true/\dS prog 199=some [.slice none 0 0,.slice none 0 0]/\bX prog 199 0=some 0/\bX prog 199 1=some 1/\iP prog 199=some [(0,1),(1,1)]/\cQ prog 201=some 1/\dv prog 201=some false/\cQ prog 203=some 1/\dv prog 203=some false/\iE prog 203=some 213/\iy prog 203=some 1/\gY prog 203=true/\dS prog 205=some [.slice none 0 0,.slice none 0 0,.slice none 0 0,.slice none 0 0,.slice none 0 0,.slice none 0 0,.slice none 0 0,.slice none 0 0,.slice none 0 0,.pointer none,.slice none 0 0,.int .i64 0,.int .i64 0,.int .i64 0,.int .i64 0]/\bX prog 205 0=some 0/\bX prog 205 1=some 6/\bX prog 205 2=some 8/\bX prog 205 3=some 9:=by and_intros<;>kernel_rfl
@[go_sem] def j66:bX prog 205 4=some 10/\bX prog 205 5=some 11/\bX prog 205 6=some 12/\bX prog 205 7=some 13/\bX prog 205 8=some 14/\iP prog 205=some [(0,6),(6,2),(8,1),(9,1),(10,1),(11,1),(12,1),(13,1),(14,1)]/\cQ prog 213=some 1/\dv prog 213=some false/\dS prog 213=some [.pointer none]/\jW prog 213=8/\bX prog 215 0=some 0/\dS prog 217=some [.slice none 0 0,.int .i64 0,.int .i64 0,.int .i64 0,.slice none 0 0]/\bX prog 217 0=some 0/\bX prog 217 1=some 1/\bX prog 217 2=some 2/\bX prog 217 3=some 3/\bX prog 217 4=some 4/\iP prog 217=some [(0,1),(1,1),(2,1),(3,1),(4,1)]/\cQ prog 219=some 4/\dv prog 219=some true/\dS prog 219=some [.int .i64 0,.int .i64 0,.int .i64 0,.string ⟨#[]⟩]/\bX prog 219 0=some 0/\bX prog 219 1=some 1/\bX prog 219 2=some 2:=by and_intros<;>kernel_rfl
@[go_sem] def j7k:bX prog 219 3=some 3/\iP prog 219=some [(0,1),(1,1),(2,1),(3,1)]/\jW prog 219=40/\cQ prog 229=some 1/\dv prog 229=some false/\dS prog 231=some [.slice none 0 0,.map none]/\bX prog 231 0=some 0/\bX prog 231 1=some 1/\iP prog 231=some [(0,1),(1,1)]/\cQ prog 248=some 3/\dv prog 248=some true/\dS prog 248=some [.int .i64 0,.string ⟨#[]⟩,.int .i64 0]/\bX prog 248 0=some 0/\bX prog 248 1=some 1/\bX prog 248 2=some 2/\iP prog 248=some [(0,1),(1,1),(2,1)]/\jW prog 248=32/\cQ prog 254=some 2/\dv prog 254=some true/\dS prog 254=some [.string ⟨#[]⟩,.int .i64 0]/\bX prog 254 0=some 0/\bX prog 254 1=some 1/\iP prog 254=some [(0,1),(1,1)]/\jW prog 254=24:=by and_intros<;>kernel_rfl
@[go_sem] def qdY:cQ prog 258=some 3/\dv prog 258=some true/\dS prog 258=some [.string ⟨#[]⟩,.int .i64 0,.int .i64 0]/\bX prog 258 0=some 0/\bX prog 258 1=some 1/\bX prog 258 2=some 2/\iP prog 258=some [(0,1),(1,1),(2,1)]/\jW prog 258=32/\cQ prog 267=some 7/\dS prog 267=some [.slice none 0 0,.slice none 0 0,.slice none 0 0,.slice none 0 0,.slice none 0 0,.slice none 0 0,.slice none 0 0]/\bX prog 267 0=some 0/\bX prog 267 1=some 6/\iP prog 267=some [(0,6),(6,1)]/\dS prog 269=some [.slice none 0 0,.slice none 0 0]/\bX prog 269 0=some 0/\bX prog 269 1=some 1/\iP prog 269=some [(0,1),(1,1)]/\AA prog 281=false/\dS prog 283=some [.slice none 0 0,.slice none 0 0,.slice none 0 0,.slice none 0 0,.slice none 0 0,.slice none 0 0,.pointer none,.slice none 0 0]/\bX prog 283 0=some 0/\bX prog 283 1=some 6/\bX prog 283 2=some 7/\iP prog 283=some [(0,6),(6,1),(7,1)]/\aW prog 13=true:=by and_intros<;>kernel_rfl
@[go_sem] def qfj:aW prog 25=true/\aW prog 26=true/\aW prog 27=true/\aW prog 30=true/\aW prog 31=true/\aW prog 32=true/\aW prog 33=true/\aW prog 34=true/\aW prog 52=true/\aW prog 53=true/\aW prog 55=true/\aW prog 56=true/\aW prog 58=true/\aW prog 63=true/\aW prog 70=true/\aW prog 72=true/\aW prog 73=true/\aW prog 74=true/\aW prog 76=true/\aW prog 77=true/\aW prog 78=true/\aW prog 79=true/\aW prog 80=true/\aW prog 81=true:=by and_intros<;>kernel_rfl
@[go_sem] def qfH:aW prog 82=true/\aW prog 83=true/\aW prog 101=true/\aW prog 102=true/\aW prog 103=true/\aW prog 104=true/\aW prog 105=true/\aW prog 110=true/\aW prog 111=true/\aW prog 112=true/\aW prog 113=true/\aW prog 114=true/\aW prog 116=true/\aW prog 117=true/\aW prog 118=true/\aW prog 119=true/\aW prog 120=true/\aW prog 124=true/\aW prog 127=true/\aW prog 128=true/\aW prog 129=true/\aW prog 130=true/\aW prog 131=true/\aW prog 132=true:=by and_intros<;>kernel_rfl
@[go_sem] def qaX:aW prog 133=true/\aW prog 134=true/\aW prog 135=true/\aW prog 142=true/\aW prog 143=true/\aW prog 144=true/\aW prog 145=true/\aW prog 146=true/\aW prog 147=true/\aW prog 148=true/\aW prog 149=true/\aW prog 150=true/\aW prog 151=true/\aW prog 152=true/\aW prog 159=true/\aW prog 160=true/\aW prog 161=true/\aW prog 162=true/\aW prog 163=true/\aW prog 164=true/\aW prog 165=true/\aW prog 166=true/\aW prog 167=true/\aW prog 168=true:=by and_intros<;>kernel_rfl
@[go_sem] def qbl:aW prog 169=true/\aW prog 171=true/\aW prog 172=true/\aW prog 173=true/\aW prog 174=true/\aW prog 175=true/\aW prog 177=true/\aW prog 178=true/\aW prog 184=true/\aW prog 185=true/\aW prog 186=true/\aW prog 187=true/\aW prog 188=true/\aW prog 189=true/\aW prog 190=true/\aW prog 191=true/\aW prog 192=true/\aW prog 193=true/\aW prog 194=true/\aW prog 195=true/\aW prog 196=true/\aW prog 197=true/\aW prog 200=true/\aW prog 201=true:=by and_intros<;>kernel_rfl
@[go_sem] def qbJ:aW prog 202=true/\aW prog 203=true/\aW prog 204=true/\aW prog 205=true/\aW prog 206=true/\aW prog 207=true/\aW prog 208=true/\aW prog 209=true/\aW prog 210=true/\aW prog 211=true/\aW prog 212=true/\aW prog 213=true/\aW prog 214=true/\aW prog 215=true/\aW prog 216=true/\aW prog 217=true/\aW prog 218=true/\aW prog 219=true/\aW prog 220=true/\aW prog 221=true/\aW prog 222=true/\aW prog 224=true/\aW prog 225=true/\aW prog 231=true:=by and_intros<;>kernel_rfl
@[go_sem] def qb7:aW prog 232=true/\aW prog 233=true/\aW prog 234=true/\aW prog 235=true/\aW prog 236=true/\aW prog 237=true/\aW prog 238=true/\aW prog 240=true/\aW prog 241=true/\aW prog 242=true/\aW prog 243=true/\aW prog 244=true/\aW prog 245=true/\aW prog 246=true/\aW prog 247=true/\aW prog 254=true/\aW prog 255=true/\aW prog 256=true/\aW prog 257=true/\aW prog 258=true/\aW prog 259=true/\aW prog 260=true/\aW prog 261=true/\aW prog 262=true:=by and_intros<;>kernel_rfl
@[go_sem] def qcv:aW prog 269=true/\aW prog 270=true/\aW prog 271=true/\aW prog 272=true/\aW prog 273=true/\aW prog 276=true/\aW prog 277=true/\aW prog 280=true/\aW prog 309=true/\aW prog 310=true/\aW prog 311=true:=by and_intros<;>kernel_rfl
def mixed:prog.follows .mixedOrders=true:=jG
def iF:pA prog 229=some (false,3):=jG
@[go_sem] def qdh:yV prog 229=true:=jG
def qN:pA prog 237=some (true,9):=jG
def lq:pA prog 241=some (false,9):=jG
def sd:pA prog 354=some (true,3):=jG
end Go.Proofs.YtjpcgmjaipfgdaaGreatDoor