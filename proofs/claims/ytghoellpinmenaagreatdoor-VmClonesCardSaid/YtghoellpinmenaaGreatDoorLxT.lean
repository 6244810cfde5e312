/- Lemmas. No conditions. -/
import Derived.Test.YtghoellpinmenaaGreatDoorGdY
import Derived.ProofKit
import Derived.Deep.Slices
import Derived.Carry
import Derived.Laws.MakeOwn
import Derived.OpenShut
import Derived.MapKept
import Derived.Test.YtghoellpinmenaaGreatDoorProg
import Derived.KernelRfl
set_option linter.all false
namespace Go.Gd
open Go Go.ChangeShapes Go.WideShapes Go.ChangeAt Go.RowKit Go.Deep
@[reducible] def n0(w:World):NW:={ toWorld:=w,O:=fun _=>False,nm:=fun _ _=>none }
def ot(P:PS)(t:PM)(S:PH->Prop):Prop:=
 ∀(T:Type) (enc:PM×Value->T) (w:World) (fuel:Nat) (cs:PQ) (x:DataW T×List MemPlace),
  DataW.trod enc P w 0 (fun _=>true) true fuel t cs=some x->∃us,S us/\bR (n0 w) us cs
section
variable {P:PS}{t:PM}
def ot.mono{S S':PH->Prop}(h:ot P t S)(hs:∀us,S us->S' us):ot P t S':=fun T enc w fuel cs x hx=>by obtain⟨us,h1,h2⟩:=h T enc w fuel cs x hx;exact⟨us,hs us h1,h2⟩
def wj{w:NW}{a:AV}{v:Value}(h:ar w a v):bR w [a] [v]:=⟨rfl,fun i b u hb hu=>by
 cases i with
 |zero=>simp at hb hu;subst hb hu;exact h
 |succ i=>simp at hb⟩
def AH{w:NW}{a:AV}{v:Value}{us:PH}{vs:PQ}(h:ar w a v)(hs:bR w us vs):bR w (a::us) (v::vs):=⟨by simp[hs.1],fun i b u hb hu=>by
 cases i with
 |zero=>simp at hb hu;subst hb hu;exact h
 |succ i=>exact hs.2 i b u (by simpa using hb) (by simpa using hu)⟩
def Hi{k:IntKind}(ht:P.underlying t=some (.int k)):ot P t (fun us=>∃n:Int,(Lit.int k n).wf=true/\us=[.raw (.int k n)]):=fun T enc w fuel cs x hx=>by obtain⟨n,rfl,_,Ym⟩:=DataW.trod_int ht hx;exact⟨_,⟨n,Ym,rfl⟩,wj (.raw _)⟩
def OH(P:PS):List Field->List (PH->Prop)->Prop
 |[],[]=>True
 |f::l,S::Ss=>ot P f.type S/\OH P l Ss
 |_,_=>False
def K3{e:PM}{α:Type}[Inhabited α]{ok:α->Prop}{encA:α->PH}{sz:Nat}(ht:P.underlying t=some (.slice e))(hc:P.cellsOf e=sz)(P5:0<sz)(he:ot P e (fun us=>∃a,ok a/\us=encA a))(hl:∀a,(encA a).length=sz) :
  ot P t (fun us=>∃l:List α,((∀a∈l,ok a)/\l.length<=9223372036854775807)/\us=[aX encA sz l]):=fun T enc w fuel cs x hx=>by
 rcases open_slice ht hx with⟨rfl,_⟩|⟨a,len,cap,m,n,D,Pl,rfl,_,Wa,Vv,hm,_,hr⟩
 ·exact⟨_,⟨[],⟨jE,jE⟩,rfl⟩,wj (.gb _ _ _ _ jE)⟩
 ·simp only[if_true]at hm;obtain rfl:cap=m:=hm.symm;have QF:∀i,i<len->∃g:α,ok g/\∃cs',w.cells? 0 (a.add (i*sz)) sz=some cs'/\bR (n0 w) (encA g) cs':=fun i hi=>by
   obtain⟨cs',h1,h2⟩:=hr i jB;rw[hc]at h1;obtain⟨us,⟨g,hok,rfl⟩,P'⟩:=he T enc w n cs' _ h2;exact⟨g,hok,cs',h1,P'⟩
  obtain⟨g,hg⟩:∃g:Nat->α,∀i,i<len->ok (g i)/\∃cs',w.cells? 0 (a.add (i*sz)) sz=some cs'/\bR (n0 w) (encA (g i)) cs':=by
   classical
   exact⟨fun i=>if h:i<len then(QF i h).choose else default,fun i hi=>by simp only[dif_pos hi];exact(QF i hi).choose_spec⟩
  have Rs:((List.range len).map g).length=len:=jE;refine⟨_,⟨(List.range len).map g,⟨fun y hy=>?_,by rw[Rs];have:cap<=9223372036854775807:=Vv;omega⟩,rfl⟩,wj ?_⟩
  ·obtain⟨i,hi,rfl⟩:=List.mem_map.1 hy;exact(hg i (by simpa using hi)).1
  ·have P7:(((List.range len).map g).map encA).length=len:=jE;have hn:∀i,i<len->(((List.range len).map g).map encA).getD i []=encA (g i):=fun i hi=>by simp[List.getD_eq_getElem?_getD,hi]
   by_cases h0:len=0
   ·subst h0;exact .gb _ _ _ _ jE
   ·have I':∀i j,i<len->j<sz->∃v,w.cell? (a.add (i*sz+j))=some v/\∀u,(encA (g i))[j]?=some u->ar (n0 w) u v:=fun i j hi hj=>by
     obtain⟨_,cs',h1,h2⟩:=hg i hi;obtain⟨_,J',Qx⟩:=World.cells?_some h1;have hv:cs'[j]?=some cs'[j]:=List.getElem?_eq_getElem jB;refine⟨cs'[j],?_,fun u hu=>h2.2 j u _ hu hv⟩;rw[<-vP,Qx j hj,hv]
    have:=ar.sl (w:=n0 w) (d:=encA default) false sz (((List.range len).map g).map encA) a cap (fun k=>(w.cell? (a.add k)).getD undef) jB jB jE (fun cs Q4=>by
     obtain⟨y,_,rfl⟩:=List.mem_map.1 Q4;exact hl y) (by
     obtain⟨_,cs',h1,_⟩:=hg 0 jB;have:=World.cells?_block h1 P5;rwa [oO]at this) (fun h=>h) (fun i j hi hj=>by
     obtain⟨v,hv,_⟩:=I' i j jB hj;rw[hv];rfl) (fun i j u hi hu=>by
     rw[hn i jB]at hu;have hj:j<sz:=by rw[<-hl (g i)];exact(List.getElem?_eq_some_iff.1 hu).1
     obtain⟨v,hv,P'⟩:=I' i j jB hj;rw[hv];exact P' u hu)
    rw[P7]at this;exact this
-- arguments
variable {T:Type}{enc:PM×Value->T}{w:World}{v:Value}{d:DataW T}{ps:List MemPlace}{base:Nat}
def OE{S:AV->Prop}(hd:ot P t (fun us=>∃a,S a/\us=[a]))(hv:v.cells.toList=[v])(h:DataW.Trod enc P w 0 (fun _=>true) true t v d ps):∃a,S a/\ar (n0 w) a v:=by obtain⟨fuel,hf⟩:=h;rw[hv]at hf;obtain⟨us,⟨a,hs,rfl⟩,hr⟩:=hd T enc w fuel _ _ hf;exact⟨a,hs,hr.2 0 a v rfl rfl⟩
end
section
variable {P:PS}{T:Type}{enc:PM×Value->T}
theorem GR(hl:laidOutB P=true){W W':World}(hb:Below W.heap.size W W'):∀(ts:List PM) (vs:PQ) (ds:List (DataW T)) (ps:List MemPlace),(∀t∈ts,P.readableRec t=true/\t<P.types.size)->
  DataW.TrodAll enc P W 0 (fun _=>true) true ts vs ds ps->(∀x∈ps,x.block<W.heap.size)->DataW.TrodAll enc P W' 0 (fun b=>decide (b<W.heap.size)) true ts vs ds ps
 |[],[],[],ps,_,h,_=>h
 |t::ts,v::vs,d::ds,ps,hr,h,PW=>by obtain⟨p,q,h1,h2,rfl⟩:=h;exact⟨p,q,Below.trod hl (hr t jE).1 (hr t jE).2 h1 hb fun x hx=>PW x (by simp[hx]),GR hl hb ts vs ds q (fun t ht=>hr t (by simp[ht])) h2 fun x hx=>PW x (by simp[hx]),rfl⟩
 |[],_::_,_,_,_,h,_=>h.elim
 |[],[],_::_,_,_,h,_=>h.elim
 |_::_,[],_,_,_,h,_=>h.elim
 |_::_,_::_,[],_,_,h,_=>h.elim
def Pj{fn:Func}{s:ChangeSpec}{apart fresh handsOn:Bool}{W W':World}{args:PO}{ds:List (DataW T)}{before:List MemPlace}{tb:PM}(hW:DataW.Whole enc P fn.params.toList s.vars apart W args.toList ds [] before)
  (hx:Below W.heap.size W W') (hl:laidOutB P=true) (hr:∀t∈fn.params.toList,P.readableRec t=true/\t<P.types.size) (Yn:fn.resultTypes=#[tb]) (hb:P.underlying tb=some .bool) (hv:s.vars=[])
  (e1:(s.fn T (ds++[])).results=[.lit (.bool true)]) (e2:(s.fn T (ds++[])).args=ds) (e3:(s.fn T (ds++[])).vars=[]):s.post enc P fn apart fresh handsOn false W args (.bool true) W':=by
 have Wb:=hW;obtain⟨p,q,hA,hV,rfl,Yo,Vw⟩:=hW;rw[hv]at hV;have hq:q=[]:=hV;subst hq;refine⟨ds,[],_,[],p,[],Wb,?_,?_,?_,hx.frame _,fun h=>by cases h⟩
 ·rw[Yn,e1];exact trodAll_mk1 (shut_bool hb true)
 ·rw[e2];exact GR hl hx _ _ _ _ hr hA fun x Qd=>by simpa using Wb.lt x (by simpa using Qd)
 ·rw[hv,e3];exact rfl
def Jj(W:World)(hg:kI (n0 W)):aH (n0 W) (entry []):={
 ca:=hg
 rows:=fun i r h=>(by cases h)
 dr:=fun i m z h=>(by cases h)
 inj:=fun i m j n b t s t' s' h _=>(by cases h)
 own:=fun i m b t s h=>(by cases h)
 fin:=fun b h=>h.elim }
def JH{f:FuncId}{avs:PH}{args:PO}{W:World}(hg:kI (n0 W))(h:dO P f avs (.raw (.bool true)))(ha:bR (n0 W) avs args.toList):Calls P f args W fun e W'=>e=.returned (.bool true)/\Below W.heap.size W W':=by refine(h (n0 W) args (Jj W hg) ⟨by rw[ha.1];simp,fun i a v h1 h2=>ha.2 i a v h1 (by rw[Array.getElem?_toList];exact h2)⟩).mono ?_;rintro e w' ⟨v,r,H',w2,rfl,rfl,⟨rfl,_⟩,_,g2,g3⟩;have:=cY g2;subst this;exact⟨rfl,⟨g3.os,g3.tape,g3.output,g3.size,fun k hk=>(g3.free k hk (fun h=>h)).1⟩⟩
end
section
variable {P:PS}{f:FuncId}{args cs:PH}{H:Hp}{K:PE}{q:Prop}
def cl{l l0:PG}{r0:AV}(hc:ai P f (args++cs) l fun r l'=>r=r0/\l'=l0)(k:q)(h1:fits l H:=by exact db)(h0:bo P f=true:=by exact db)(h2:aS (fun i=>(ids l).contains i) (args++cs)=true:=by exact db)(h3:qU (fun i=>(ids l).contains i) l:=by exact db)
 (h4:fresh (ids l) H l0:=by exact db) (h5:(ids l0).Nodup:=by exact db) (e:K r0 ⟨H.B,fp H.l l0⟩=q:=by exact eu):fh P (.fJ f cs) args H K:=NL h0 (vu hc h1 h2 h3 h4 h5 (e ▸ k))
def cq{R:AV->Prop}{r0:AV}(hc:dO P f args r0)(k:q)(h0:bo P f=true:=by exact db)(h2:aS dq args=true:=by exact db)(e:R r0=q:=by exact eu) :
  ∃r,(fh P (.raw (.func (.func f) #[] #[])) args H fun r' H'=>r'=r/\H'=H)/\R r:=⟨r0,nB h0 (xe hc h2 ⟨rfl,rfl⟩),e ▸ k⟩
end
def Sub(a' a:AV):Prop:=∀(w:NW) v,ar w a' v->ar w a v
def qB:PH->PH->Prop
 |[],[]=>True
 |a::l,b::m=>Sub a b/\qB l m
 |_,_=>False
def Sub.refl(a:AV):Sub a a:=fun _ _ h=>h
def Sub.nil(sz:Nat)(d:PH):Sub (.raw (.slice none 0 0)) (.sl false sz [] d):=fun w v h=>by have:=cY h;subst this;exact .gb _ _ _ _ jE
def Sub.lit(sz:Nat)(css:PF)(d d':PH):Sub (.sl true sz css d) (.sl false sz css d'):=fun w v h=>by
 cases h with
 |gb _ _ A c _=>exact .gb _ _ _ _ jE
 |sl _ _ _ a c vs hn hc hx P5 hb hH I' h=>exact .sl false sz css a c vs hn hc jE P5 hb hH I' h
theorem qB.get:∀{l m:PH},qB l m->l.length=m.length/\∀(i:Nat) a b,l[i]?=some a->m[i]?=some b->Sub a b
 |[],[],_=>⟨rfl,fun i a b h=>by simp at h⟩
 |x::l,y::m,h=>by
  have ih:=qB.get h.2;refine⟨by simp[ih.1],fun i a b ha hb=>?_⟩;cases i with
  |zero=>simp at ha hb;subst ha hb;exact h.1
  |succ i=>exact ih.2 i a b (by simpa using ha) (by simpa using hb)
 |[],_::_,h=>h.elim
 |_::_,[],h=>h.elim
end Go.Gd
namespace Go.Gd
open Go
variable{zs:PQ}{n sz:Nat}
def Lj{w:NW}{z:PO}(hz:z.toList=zs)(hl:zs.length=sz)(h0:0<sz)(k:Nat)(a:AV)(v:Value)(ha:(List.replicate n (zs.map AV.raw)).flatten[k]?=some a)(hv:(madeCells z (n*sz))[k]?=some v):ar w a v:=by
 have Ut:z.size=sz:=by rw[<-hl,<-hz];simp
 have hk:k<n*sz:=by have:=(Array.getElem?_eq_some_iff.1 hv).1;rwa [size_madeCells]at this
 obtain⟨i,j,hi,hj,rfl⟩:=uV hk;have Q4:∀cs∈List.replicate n (zs.map AV.raw),cs.length=sz:=fun cs Q4=>by rw[(List.mem_replicate.1 Q4).2];simpa using hl
 have hg:=pM Q4 (i:=i) (j:=j) (by simpa using hi) hj;rw[hg]at ha;have:(List.replicate n (zs.map AV.raw)).getD i []=zs.map AV.raw:=by simp[List.getD_eq_getElem?_getD,hi]
 rw[this]at ha;simp only[List.getElem?_map,Option.map_eq_some_iff]at ha;obtain⟨x,hx,rfl⟩:=ha;have e:(i*sz+j) % sz=j:=by rw[Nat.add_comm,Nat.add_mul_mod_self_right];exact Nat.mod_eq_of_lt hj
 have:v=x:=by
  have R8:(madeCells z (n*sz))[i*sz+j]?=some (z[(i*sz+j) % z.size]!):=by simp[madeCells,hk]
  rw[R8]at hv;have hv:=Option.some.inj hv;rw[<-hv,Ut,e];have XE:j<z.size:=jB;rw[getElem!_pos z j XE];have Qd:z.toList[j]?=some x:=by rw[hz];exact hx
  rw[Array.getElem?_toList]at Qd;exact Option.some.inj ((Array.getElem?_eq_getElem XE).symm.trans Qd)
 subst this;exact .raw _
variable{K:PE}{q:Prop}{t:PM}
def KH{P:PS}{ev:PN}{H:Hp}{ty:PM}(i:Nat){et:PM}{l c:Operand}(k:q)(hl:ev l=.raw (.int .i64 (n:Int)):=by rfl)(hc:ev c=.raw (.int .i64 (n:Int)):=by rfl)(ht:ie P t=some et:=by(simp only[go_sem];rfl))(hs:cR P et=some sz:=by(simp only[go_sem];rfl))(hz:dY P et=some zs:=by(simp only[go_sem];rfl))(SD:zs.length=sz:=by rfl)(h0:0<sz:=by decide)(hr:room (iN P et) n:=by(simp only[go_sem];omega))(hi:H.get i=none:=by rfl)
  (e:K (.rs i n sz n) (H.put i (.aE et sz (List.replicate n (zs.map .raw))))=q:=by exact eu):iV P (.makeSlice t l c) ty ev H K:=fun w ρ dst pos after guard hw hρ=>by
 have h1:=hρ l (by simp[Op.operands]);have h2:=hρ c (by simp[Op.operands]);rw[hl]at h1;rw[hc]at h2;have e1:=cY h1;have e2:=cY h2;have hu:P.underlying t=some (.slice et):=AL ht;unfold cR at hs;cases hf:P.info? et with
 |none=>rw[hf]at hs;cases hs
 |some inf=>
  rw[hf]at hs;have P5:inf.size=sz:=by simpa using hs
  have Q7:=hz;unfold dY at Q7;rw[hf]at Q7;simp only[Option.bind_some,Option.map_eq_some_iff]at Q7;obtain⟨z,Yp,WI⟩:=Q7;have U3:iN P et=inf.bytes:=by unfold iN;rw[hf];rfl
  obtain⟨r1,r2⟩:=hr;rw[U3]at r1;have D':=run_make (P:=P) w.toWorld t et inf z hu hf Yp .i64 .i64 (n:Int) (n:Int) jB jB (by have h:((n*inf.bytes:Nat):Int)<=140737488355328:=jB;rw[Int.natCast_mul,Int.mul_comm]at h;omega) jB
  simp only[Int.toNat_natCast]at D';rw[P5]at D';have Q4:∀cs∈List.replicate n (zs.map AV.raw),cs.length=sz:=fun cs Q4=>by rw[(List.mem_replicate.1 Q4).2];simpa using SD
  have QT:=j7 Q4;simp only[List.length_replicate]at QT;obtain⟨q1,q2⟩:=uw (row:=.aE et sz (List.replicate n (zs.map AV.raw))) hw (hw.none hi _) (fun r' hr=>by rw[hi]at hr;cases hr) ⟨h0,Q4⟩ (madeCells z.cells (n*sz)) ⟨rfl,by show(List.replicate n (zs.map AV.raw)).flatten.length<=_;rw[QT,size_madeCells];exact Nat.le_refl _⟩ (fun k a v ha hv=>Lj WI SD h0 k a v ha hv);refine⟨_,_,.rs i n sz n,e ▸ k,q1,q2,.inl ⟨.slice (some ⟨w.heap.size,0,none⟩) n n,?_,?_⟩⟩
  ·simp only[execOp,e1,e2];simp[D'];rfl
  ·have Qi:(((w.to (w.alloc (.cells (madeCells z.cells (n*sz)) et))).fN w.heap.size).name i n (.at w.heap.size (n*sz) sz)).nm i n=some (.at w.heap.size (n*sz) sz):=NW.bU _ _ _ _;have:=ar.rs (w:=((w.to (w.alloc (.cells (madeCells z.cells (n*sz)) et))).fN w.heap.size).name i n (.at w.heap.size (n*sz) sz)) i n sz n w.heap.size (n*sz) n Qi rfl jl h0;have e3:(Row.aE et sz (List.replicate n (zs.map AV.raw))).fK=n:=by show(List.replicate n (zs.map AV.raw)).length=n;simp
   have e4:(madeCells z.cells (n*sz)).size=n*sz:=size_madeCells _ _;rw[e3,e4];exact this
open Go.ChangeShapes Go.WideShapes Go.ChangeAt Go.RowKit
def Je{P:PS}{e:PM}{k:IntKind}(ht:P.underlying t=some (.array 2 e))(he:P.underlying e=some (.int k))(h1:P.cellsOf e=1)(h2:P.cellsOf t=2) :
  ot P t (fun us=>∃a b:Int,((Lit.int k a).wf=true/\(Lit.int k b).wf=true)/\us=[.raw (.int k a),.raw (.int k b)]):=fun T enc w fuel cs x hx=>by
 obtain⟨xs,m,rfl,_,hl,hn,Rg⟩:=DataW.trod_array ht hx;rw[h2]at hl;match cs,hl with
 |[c0,c1],_=>
  match xs,hn with
  |[x0,x1],_=> have e0:=Rg 0 jB;have e1:=Rg 1 jB;rw[h1]at e0 e1;obtain⟨a,ha,_,wa⟩:=DataW.trod_int he (show DataW.trod enc P w 0 (fun _=>true) true m e [c0]=some x0 from e0);obtain⟨b,hb,_,wb⟩:=DataW.trod_int he (show DataW.trod enc P w 0 (fun _=>true) true m e [c1]=some x1 from e1);simp only[List.cons.injEq,and_true]at ha hb;subst ha hb;exact⟨_,⟨a,b,⟨wa,wb⟩,rfl⟩,AH (.raw _) (wj (.raw _))⟩
def Kg{P:PS}{T:Type}{enc:PM×Value->T}{w:World}{v:Value}{d:DataW T}{ps:List MemPlace}{base:Nat}{S:PH->Prop}{e:PM}(ht:P.underlying t=some (.array n e))(hd:ot P t S)(hv:Value.okWide P w .any base t v)(h:DataW.Trod enc P w 0 (fun _=>true) true t v d ps):∃us,S us/\ar (n0 w) (.agg us) v:=by unfold Value.okWide at hv;rw[ht]at hv;obtain⟨cs,rfl,_,_⟩:=hv;obtain⟨fuel,hf⟩:=h;obtain⟨us,hs,hr⟩:=hd T enc w fuel _ _ hf;exact⟨us,hs,.agg us cs (by rw[hr.1];rfl) fun i a u ha hu=>hr.2 i a u ha (by show cs.toList[i]?=_;rw[Array.getElem?_toList];exact hu)⟩
def bP(a k:Nat):Nat:=1000+(8*k+a)
def n8(a k:Nat):1000<=bP a k:=by unfold bP;omega
def re{a b k j:Nat}(ha:a<8)(hb:b<8)(h:bP a k=bP b j):a=b/\k=j:=by unfold bP at h;omega
@[go_sem] def j3h(a k n:Nat)(h:n<1000):(bP a k=n)=False:=by have:=n8 a k;simp;omega
@[go_sem] def j31(a k n:Nat)(h:n<1000):(n=bP a k)=False:=by have:=n8 a k;simp;omega
@[go_sem] def L5(a b k j:Nat)(ha:a<8)(hb:b<8)(h:a≠b):(bP a k=bP b j)=False:=by simp;intro e;exact h (re ha hb e).1
def fT(a:Nat)(f:PT):Nat->Nat->List PU->PG
 |_,0,l=>l
 |k,n+1,l=>(bP a k,f k)::fT a f (k+1) n l
def cz(a n:Nat)(f:PT)(l:PG):PG:=fT a f 0 n l
theorem z7(a:Nat)(ha:a<8)(f:PT)(l:PG):∀(n k j:Nat),ak (fT a f k n l) (bP a j)=if k<=j/\j<k+n then some (f j)else ak l (bP a j)
 |0,k,j=>by unfold fT;rw[jN]
 |n+1,k,j=>by
  show(if bP a j=bP a k then some (f k)else ak (fT a f (k+1) n l) (bP a j))=_;by_cases e:j=k
  ·subst e;rw[if_pos rfl,jP]
  ·rw[if_neg (fun h=>e (re ha ha h).2),z7 a ha f l n (k+1) j];by_cases h:k+1<=j/\j<k+1+n
   ·rw[if_pos h,jP]
   ·rw[if_neg h,jN]
theorem wS(a:Nat)(f:PT)(l:PG)(i:Nat)(hi:∀k,i≠bP a k):∀(n k:Nat),ak (fT a f k n l) i=ak l i
 |0,k=>rfl
 |n+1,k=>by show(if i=bP a k then some (f k)else ak (fT a f (k+1) n l) i)=_;rw[if_neg (hi k)];exact wS a f l i hi n (k+1)
@[go_sem] def qE(a n:Nat)(f:PT)(l:PG)(i:Nat)(h:i<1000):ak (cz a n f l) i=ak l i:=wS a f l i (fun k e=>by have:=n8 a k;omega) n 0
@[go_sem] def oq(a n:Nat)(f:PT)(l:PG)(b k:Nat)(ha:a<8)(hb:b<8)(h:a≠b):ak (cz a n f l) (bP b k)=ak l (bP b k):=wS a f l _ (fun j e=>h (re hb ha e).1.symm) n 0
@[go_sem] def te(a n:Nat)(f:PT)(l:PG)(k:Nat)(ha:a<8)(h:k<n):ak (cz a n f l) (bP a k)=some (f k):=by unfold cz;rw[z7 a ha,jP]
@[go_sem] def JC(a n:Nat)(f:PT)(l:PG)(k:Nat)(ha:a<8)(h:n<=k):ak (cz a n f l) (bP a k)=ak l (bP a k):=by unfold cz;rw[z7 a ha,jN]
theorem Ba(a:Nat)(f:PT)(l:PG)(i:Nat)(r:Row)(hi:∀k,i≠bP a k):∀(n k:Nat),bf (fT a f k n l) i r=fT a f k n (bf l i r)
 |0,k=>rfl
 |n+1,k=>by unfold fT;show(if i=bP a k then _ else _)=_;rw[if_neg (hi k),Ba a f l i r hi n (k+1)]
theorem El(a:Nat)(ha:a<8)(f:PT)(l:PG)(j:Nat)(r:Row):∀(n k:Nat),bf (fT a f k n l) (bP a j) r=if k<=j/\j<k+n then fT a (fun q=>if q=j then r else f q) k n l else fT a f k n (bf l (bP a j) r)
 |0,k=>by unfold fT;rw[jN]
 |n+1,k=>by
  have ih:=El a ha f l j r n (k+1);show(if bP a j=bP a k then _ else _)=_;by_cases e:j=k
  ·subst e;rw[if_pos rfl,jP];show _::_=(bP a j,if j=j then r else f j)::fT a _ (j+1) n l;rw[if_pos rfl];have:∀(n k:Nat),j<k->fT a f k n l=fT a (fun q=>if q=j then r else f q) k n l:=by
    intro n;induction n with
    |zero=>intro k _;rfl
    |succ n ih=>intro k hk;unfold fT;rw[ih (k+1) jB,jN]
   rw[this n (j+1) jB]
  ·rw[if_neg (fun h=>e (re ha ha h).2),ih];by_cases h:k+1<=j/\j<k+1+n
   ·rw[if_pos h,jP];show _=(bP a k,if k=j then r else f k)::_;rw[if_neg (fun h=>e h.symm)]
   ·rw[if_neg h,jN];rfl
@[go_sem] def jvh(a n:Nat)(f:PT)(l:PG)(i:Nat)(r:Row)(h:i<1000):bf (cz a n f l) i r=cz a n f (bf l i r):=Ba a f l i r (fun k e=>by have:=n8 a k;omega) n 0
@[go_sem] def jw1(a n:Nat)(f:PT)(l:PG)(b k:Nat)(r:Row)(ha:a<8)(hb:b<8)(h:a≠b):bf (cz a n f l) (bP b k) r=cz a n f (bf l (bP b k) r):=Ba a f l _ r (fun j e=>h (re hb ha e).1.symm) n 0
@[go_sem] def jvi(a n:Nat)(f:PT)(l:PG)(k:Nat)(r:Row)(ha:a<8)(h:n<=k):bf (cz a n f l) (bP a k) r=cz a n f (bf l (bP a k) r):=by unfold cz;rw[El a ha,jN]
theorem C0(a:Nat){f g:PT}(l:PG):∀(n k:Nat),(∀j,k<=j->j<k+n->f j=g j)->fT a f k n l=fT a g k n l
 |0,k,_=>rfl
 |n+1,k,h=>by unfold fT;rw[h k jB jB,C0 a l n (k+1) fun j h1 h2=>h j jB jB]
variable{l l':PG}
def Of{a m:Nat}{f g:PT}(hn:n=m)(h:∀j,j<n->f j=g j)(hl:l=l'):cz a n f l=cz a m g l':=by subst hn hl;exact C0 a l n 0 fun j _ h2=>h j jB
def uC(a n:Nat)(ha:a<8)(f:PT)(l:PG)(i:Nat):(∃k,k<n/\i=bP a k/\ak (cz a n f l) i=some (f k))\/((∀k,k<n->i≠bP a k)/\ak (cz a n f l) i=ak l i):=by
 by_cases h:∃k,i=bP a k
 ·obtain⟨k,rfl⟩:=h;by_cases hk:k<n
  ·exact .inl ⟨k,hk,rfl,te a n f l k ha hk⟩
  ·exact .inr ⟨fun j hj e=>hk ((re ha ha e).2 ▸ hj),JC a n f l k ha jB⟩
 ·exact .inr ⟨fun k _ e=>h ⟨k,e⟩,wS a f l i (fun k e=>h ⟨k,e⟩) n 0⟩
def gU{α:Type}(n:Nat)(f:Nat->α):List α:=(List.range n).map f
@[go_sem] def L7{α:Type}(n:Nat)(f:Nat->α):(gU n f).length=n:=by simp[gU]
variable{f:Nat->PH}
def LN{l:PF}(hl:l.length=n)(h:∀k,k<n->l.getD k []=f k):l=gU n f:=by apply List.ext_getElem (by rw[hl,L7]);intro i h1 h2;have:=h i jB;rw[List.getD_eq_getElem?_getD,List.getElem?_eq_getElem h1]at this;simpa[gU]using this
@[go_sem] def j2K(n:Nat)(f:Nat->PH)(c:PH):gU n f++[c]=gU (n+1) (fun q=>if q=n then c else f q):=by
 refine LN (by simp[gU]) fun j hj=>?_
 rw[List.getD_eq_getElem?_getD];by_cases e:j=n
 ·subst e;rw[if_pos rfl];simp[gU]
 ·rw[if_neg e,List.getElem?_append_left (by simp[gU];omega)];simp[gU,show j<n from jB]
def CV{α:Type}{m:Nat}{f g:Nat->α}(hn:n=m)(h:∀j,j<n->f j=g j):gU n f=gU m g:=by subst hn;unfold gU;exact List.map_congr_left fun j hj=>h j (by simpa using hj)
def uZ{q:PR}(h:∀k,k<n->aS q (f k)=true):QL q (gU n f):=fun c hc=>by obtain⟨k,hk,rfl⟩:=List.mem_map.1 hc;exact h k (by simpa using hk)
variable{B:PK}
def Ab{r:AV}(l':PG)(h:∀i,ak l i=ak l' i):gL r ⟨B,l⟩ r ⟨B,l'⟩:=fun w v h1 h2=>by
 have hg:∀i,(Hp.mk B l').get i=(Hp.mk B l).get i:=fun i=>(h i).symm
 exact⟨w,rfl,{ rows:=fun i r hi=>h1.rows i r ((hg i) ▸ hi),dr:=fun i m z hz=>by rw[hg];exact h1.dr i m z hz,inj:=h1.inj,own:=h1.own,fin:=h1.fin,ca:=h1.ca },h2,{ ExtQ.refl _ w with base:=rfl }⟩
def Pu{w:NW}(h:∀i,ak l i=ak l' i)(h1:aH w ⟨B,l⟩):aH w ⟨B,l'⟩:=by
 have hg:∀i,(Hp.mk B l').get i=(Hp.mk B l).get i:=fun i=>(h i).symm
 exact{ rows:=fun i r hi=>h1.rows i r ((hg i) ▸ hi),dr:=fun i m z hz=>by rw[hg];exact h1.dr i m z hz,inj:=h1.inj,own:=h1.own,fin:=h1.fin,ca:=h1.ca }
structure Lays(E:List (Nat×Row)->List (Nat×Row))(tl:List (Nat×Row)):Prop where
 get:∀i,ak (E tl) i=(ak (E []) i).or (ak tl i)
 apart:∀i r,ak tl i=some r->ak (E []) i=none
def Ew{P:PS}{f:FuncId}{args:PH}{tl:PG}{E E':List PU->PG}{r0:AV}(hc:ai P f args (E []) fun r l'=>r=r0/\l'=E' [])(h1:Lays E tl)(h2:Lays E' tl)(h3:(ids (E' [])).Nodup)
  (ha:aS (fun i=>(ids (E [])).contains i) args=true) (hr:∀i r,ak (E []) i=some r->aS (fun i=>(ids (E [])).contains i) r.cells=true) (hk:K r0 ⟨B,E' tl⟩) (h4:∀i,ak (E []) i≠none->ak (E' []) i≠none):cX P f args ⟨B,E tl⟩ K:=fun w vs hw hv=>by
 refine(Ax (H:=⟨B,E tl⟩) (K:=fun r H'=>r=r0/\∃l',H'=⟨B,l'⟩/\∀i,ak l' i=ak (E' tl) i) hc (fun i r hi=>?_) ha hr (fun r l' ⟨e1,e2⟩=>⟨fun i s hs=>?_,by rw[e2];exact h3,e1,_,rfl,fun i=>?_⟩) hw hv).mono ?_
 ·show ak (E tl) i=some r;rw[h1.get,hi];rfl
 ·cases e:ak (E []) i with
  |some x=>exact .inl (vM e)
  |none=>
   right
   show ak (E tl) i=none;rw[h1.get,e,Option.none_or];cases e':ak tl i with
   |none=>rfl
   |some y=>rw[e2]at hs;have:=h2.apart i y e';rw[this]at hs;cases hs
 ·rw[e2,wC _ _ _ (fun _ _ _=>trivial) h3,h2.get,h1.get];cases e:ak (E' []) i with
  |some x=>rfl
  |none=>
   have:ak (E []) i=none:=Classical.byContradiction fun h=>h4 i h e
   rw[this];rfl
 ·rintro e W ⟨v,r,H',w',rfl,rfl,⟨rfl,l',rfl,hl⟩,g1,g2,g3⟩;exact⟨v,_,⟨B,E' tl⟩,w',rfl,rfl,hk,Pu hl g1,g2,{ g3 with base:=rfl }⟩
def ld{P:PS}(i:Nat){H:Hp}(k:q)(hi:H.get i=none:=by first|rfl|exact db)(hz:dY P t=some zs:=by(simp only[go_sem];rfl))(e:K (.pt i 0 0 0) (H.put i (.var t (zs.map .raw)))=q:=by exact eu):nb P H t K:=wP i hz hi (e ▸ k)
def dL(i:Nat){x:AV}{H:Hp}(k:q)(hi:H.get i=none:=by first|rfl|exact db)(ho:cM x.cells=true:=by simp only[go_sem])(e:K (.pt i 0 0 0) (H.put i (.var t x.cells))=q:=by exact eu):p6 H t x K:=x9 i ho hi (e ▸ k)
section
variable {α:Type}[DecidableEq α]
def oG(n:α):List α->PH->Option AV
 |k::ks,v::vs=>if n=k then some v else oG n ks vs
 |_,_=>none
def mo(n:α)(x:AV):List α->PH->PH
 |k::ks,v::vs=>if n=k then x::vs else v::mo n x ks vs
 |_,_=>[x]
def mC(n:α):List α->List α
 |k::ks=>if n=k then k::ks else k::mC n ks
 |[]=>[n]
theorem FZ(n:α)(x:AV):∀(ks:List α) (vs:PH),ks.length=vs.length->(mC n ks).length=(mo n x ks vs).length
 |[],[],_=>rfl
 |[],_::_,h=>by simp at h
 |_::_,[],h=>by simp at h
 |k::ks,v::vs,h=>by
  have h:ks.length=vs.length:=by simpa using h
  unfold mC mo;split
  ·simp[h]
  ·simp[FZ n x ks vs h]
structure jf(P:Program)(kt:TypeId)(enc:α->Value):Prop where
 Ja:∃d,P.underlying kt=some d/\∀a b,Instr.sameNow d (enc a) (enc b)=some (decide (a=b))
 wQ:∀(w:World) a e,(Instr.checkKey e 10000 kt (enc a)).run P w=.ok () w
 bits:∀a,Instr.sameBits 10000 (enc a) (enc a)=true
variable{P:PS}{kt:PM}
def Oi(h:P.underlying kt=some (.int .i64)):jf P kt (Value.int .i64):=⟨⟨_,h,fun a b=>by simp[Instr.sameNow];rfl⟩,fun w a e=>MapKept.run_checkKey h (by simp[MapKept.IsKey]) e 9999,fun a=>by unfold Instr.sameBits;simp⟩
def Oq(h:P.underlying kt=some .string):jf P kt Value.string:=⟨⟨_,h,fun a b=>by
 have:(a == b)=decide (a=b):=by rw[Bool.eq_iff_iff,MapKept.bytes_beq];simp
 simp only[Instr.sameNow,this]⟩,fun w a e=>MapKept.run_checkKey h (by simp[MapKept.IsKey]) e 9999,fun a=>by unfold Instr.sameBits;exact(MapKept.bytes_beq a a).2 rfl⟩
def ng(n:α):List α->PQ->Nat->Option (Nat×Value)
 |k::ks,v::vs,i=>if n=k then some (i,v)else ng n ks vs (i+1)
 |_,_,_=>none
theorem DE{d:TypeDesc}{enc:α->Value}(h:∀a b,Instr.sameNow d (enc a) (enc b)=some (decide (a=b)))(n:α):∀(ks:List α) (vs:PQ) (b i:Nat),Instr.findNow d (enc n) (ig b (ks.map enc) vs) i=some (ng n ks vs i)
 |[],vs,b,i=>by simp[ig,ng,Instr.findNow]
 |k::ks,[],b,i=>by simp[ig,ng,Instr.findNow]
 |k::ks,v::vs,b,i=>by
  simp only[List.map_cons,ig,ng,Instr.findNow,h];by_cases e:n=k
  ·simp[e]
  ·simp[e,DE h n ks vs (b+1) (i+1)]
theorem yS{n:α}:∀{ks:List α} {vs:PQ} {i j:Nat} {v:Value},ng n ks vs i=some (j,v)->∃k,j=i+k/\vs[k]?=some v/\ks[k]?=some n/\k<ks.length/\
  (∀zl:PH,zl.length=ks.length->oG n ks zl=zl[k]?/\(∀x,mo n x ks zl=zl.set k x))/\mC n ks=ks
 |[],_,_,_,_,h=>by simp[ng]at h
 |_::_,[],_,_,_,h=>by simp[ng]at h
 |k::ks,v'::vs,i,j,v,h=>by
  unfold ng at h;split at h
  ·rename_i e;cases h;refine⟨0,rfl,rfl,by simp[e],jE,fun zl hl=>?_,by simp[mC,e]⟩;cases zl with
   |nil=>simp at hl
   |cons a zl=>exact⟨by simp[oG,e],fun x=>by simp[mo,e]⟩
  ·rename_i e;obtain⟨q,h1,h2,h3,h5,h4,h6⟩:=yS h;refine⟨q+1,jB,by simpa using h2,by simpa using h3,by simpa using h5,fun zl hl=>?_,by unfold mC;rw[if_neg e,h6]⟩;cases zl with
   |nil=>simp at hl
   |cons a zl=> obtain⟨g1,g2⟩:=h4 zl (by simpa using hl);exact⟨by unfold oG;rw[if_neg e,g1];rfl,fun x=>by unfold mo;rw[if_neg e,g2];rfl⟩
theorem Ao{n:α}:∀{ks:List α} {vs:PQ} {i:Nat},ks.length=vs.length->ng n ks vs i=none->(∀zl:PH,zl.length=ks.length->oG n ks zl=none/\∀x,mo n x ks zl=zl++[x])/\mC n ks=ks++[n]
 |[],_,_,_,_=>⟨fun zl hl=>by
   have:zl=[]:=by simpa using hl
   subst this;exact⟨rfl,fun x=>rfl⟩,rfl⟩
 |_::_,[],_,h,_=>by simp at h
 |k::ks,v'::vs,i,hl,h=>by
  unfold ng at h;split at h
  ·cases h
  ·rename_i e;obtain⟨g1,g2⟩:=Ao (by simpa using hl) h;refine⟨fun zl QZ=>?_,by unfold mC;rw[if_neg e,g2];rfl⟩;cases zl with
   |nil=>simp at QZ
   |cons a zl=> obtain⟨q1,q2⟩:=g1 zl (by simpa using QZ);exact⟨by unfold oG;rw[if_neg e,q1],fun x=>by unfold mo;rw[if_neg e,q2];rfl⟩
theorem DZ:∀(b:Nat) (ks vs:PQ) (k v:Value),ks.length=vs.length->ig b (ks++[k]) (vs++[v])=ig b ks vs++[⟨k,v,b+ks.length⟩]
 |b,[],[],k,v,_=>by simp[ig]
 |b,[],_::_,k,v,h=>by simp at h
 |b,_::_,[],k,v,h=>by simp at h
 |b,k'::ks,v'::vs,k,v,h=>by have:=DZ (b+1) ks vs k v (by simpa using h);simp only[List.cons_append,ig,this,List.length_cons];rw[show b+1+ks.length=b+(ks.length+1) from jB]
theorem F6:∀(b:Nat) (ks vs:PQ) (j:Nat) (k v:Value),ks[j]?=some k->vs[j]?=some v->(ig b ks vs)[j]?=some ⟨k,v,b+j⟩
 |b,[],_,j,k,v,h,_=>by simp at h
 |b,_::_,[],j,k,v,_,h=>by simp at h
 |b,k'::ks,v'::vs,0,k,v,h1,h2=>by simp at h1 h2;subst h1 h2;rfl
 |b,k'::ks,v'::vs,j+1,k,v,h1,h2=>by have:=F6 (b+1) ks vs j k v (by simpa using h1) (by simpa using h2);simp only[ig,List.getElem?_cons_succ,this];rw[show b+1+j=b+(j+1) from jB]
theorem CG:∀(b:Nat) (ks vs:PQ) (j:Nat) (k v:Value),ks[j]?=some k->j<vs.length->ig b ks (vs.set j v)=(ig b ks vs).modify j fun e=>{ e with key:=k,val:=v }
 |b,[],_,j,k,v,h,_=>by simp at h
 |b,_::_,[],j,k,v,_,h=>by simp at h
 |b,k'::ks,v'::vs,0,k,v,h1,_=>by simp at h1;subst h1;simp[ig]
 |b,k'::ks,v'::vs,j+1,k,v,h1,h2=>by have:=CG (b+1) ks vs j k v (by simpa using h1) (by simpa using h2);simp[ig,this]
def Da{enc:α->Value}(K:jf P kt enc)(w:World)(n:α)(ks:List α)(vs:PQ)(b:Nat):(Instr.findKey kt (enc n) (ig b (ks.map enc) vs)).run P w=.ok (ng n ks vs 0) w:=by obtain⟨d,h1,h2⟩:=K.Ja;simp[Instr.findKey,run_underlying h1,DE h2,Result.andThen]
end
section
variable {P:PS}{H:Hp}{α:Type}[DecidableEq α]
variable{i:Nat}{vs:PH}
def DU{w:NW}(hw:aH w H){ks:PQ}{b t s:Nat}(hi:H.get i=some (.mp ks vs))(hn:w.nm i 0=some (.at b t s)) :
  s=0/\ks.length=vs.length/\∃cur:PO,w.heap[b]?=some (.map (ig 0 ks cur.toList).toArray ks.length)/\cur.size=vs.length/\∀(k:Nat) a v,vs[k]?=some a->cur[k]?=some v->ar w a v:=by
 obtain⟨hok,z,hz,Qj⟩:=hw.rows _ _ hi;have:z=.at b t s:=by have hz:w.nm i 0=some z:=hz;rw[hn]at hz;cases hz;rfl
 subst this;obtain⟨h1,cur,hh,Qu,hr⟩:=Qj;exact⟨h1,hok,cur,hh,Qu,hr⟩
variable{ty t:PM}{K:PE}{q:Prop}
def tv(i:Nat){ev:PN}(k:q)(hi:H.get i=none:=by first|rfl|exact db)(e:K (.mr i) (H.put i (.mp [] []))=q:=by exact eu):iV P (.makeMap t none) ty ev H K:=fun w ρ dst pos after guard hw hρ=>by
 obtain⟨q1,q2⟩:=uw (row:=.mp [] []) hw (hw.none hi _) (fun r' hr=>by rw[hi]at hr;cases hr) rfl #[] rfl (fun k a v ha hv=>by have ha:([]:PH)[k]?=some a:=ha;simp at ha)
 refine⟨_,_,.mr i,e ▸ k,q1,q2,.inl ⟨.map (some w.heap.size),?_,.mr _ _ _ _ (NW.bU _ _ _ _)⟩⟩;simp[execOp,Instr.makeMap,newObj,Result.andThen];rfl
variable{et:PM}{om ox:Operand}{op:Op}{enc:α->Value}
def Gs{ev:PN}{kt:PM}{ok:Operand}{ks:List α}{n:α}{x:AV}(Ry:op=.insert t om ok ox\/op=.mapUpdate t om ok ox)(hK:jf P kt enc)(ht:P.underlying t=some (.map kt et))
  (hm:ev om=.mr i) (hk:ev ok=.raw (enc n)) (hx:ev ox=x) (hi:H.get i=some (.mp (ks.map enc) vs)) (k:q) (e:K .any (H.put i (.mp ((mC n ks).map enc) (mo n x ks vs)))=q):iV P op ty ev H K:=fun w ρ dst pos after guard hw hρ=>by
 have ho:om∈op.operands.toList/\ok∈op.operands.toList/\ox∈op.operands.toList:=by rcases Ry with rfl|rfl<;>simp[Op.operands]
 have h1:=hρ om ho.1;have h2:=hρ ok ho.2.1;have h3:=hρ ox ho.2.2;rw[hm]at h1;rw[hk]at h2;rw[hx]at h3;have e2:=cY h2;cases e1:ρ om with
 |map r=>
  rw[e1]at h1;cases h1 with
  |mr _ b u s hn=>
  obtain⟨rfl,hl,cur,hh,P5,hr⟩:=DU hw hi hn;have hl:ks.length=vs.length:=by simpa using hl
  have P7:ks.length=cur.toList.length:=by simp;omega
  have hb:b<w.heap.size:=hw.lt hn;have run:∀(vs':PQ) (ks':List α),ks'.length=vs'.length->(mo n x ks vs).length=vs'.length->mC n ks=ks'->
    (Instr.mapUpdate t (ρ om) (ρ ok) (ρ ox)).run P w.toWorld=.ok () { w.toWorld with heap:=w.heap.setIfInBounds b (.map (ig 0 (ks'.map enc) vs').toArray ks'.length) }->
    (∀(k:Nat) a v,(mo n x ks vs)[k]?=some a->vs'[k]?=some v->ar w a v)->∃(w':NW) (H':Hp) (r:AV),K r H'/\aH w' H'/\Ext w H w' H'/\((∃v,(execOp ρ ⟨dst,op,ty,pos,after,guard⟩).run P w.toWorld=.ok (.value v) w'.toWorld/\ar w' r v)\/((execOp ρ ⟨dst,op,ty,pos,after,guard⟩).run P w.toWorld=.ok .skip w'.toWorld/\r=.any)):=fun vs' ks' Rc Qe S1 D' P'=>by
   obtain⟨g1,g2⟩:=Eg (W:={ w.toWorld with heap:=w.heap.setIfInBounds b (.map (ig 0 (ks'.map enc) vs').toArray ks'.length) }) (row:=.mp (ks.map enc) vs) (row':=.mp ((mC n ks).map enc) (mo n x ks vs)) hw hi hn rfl jl (by show((mC n ks).map enc).length=_;rw[List.length_map];exact FZ n x ks vs hl) rfl rfl rfl jE (fun c hc=>by
    show(w.heap.setIfInBounds b _)[c]?=_;rw[Array.getElem?_setIfInBounds,if_neg (fun h=>hc h.symm)]) vs'.toArray (by
    show(w.heap.setIfInBounds b _)[b]?=_;rw[Array.getElem?_setIfInBounds,if_pos rfl,if_pos hb,S1];simp[Row.obj]) (by show vs'.toArray.size=_;simp;omega) (fun k a v ha hv=>P' k a v ha (by simpa using hv))
   refine⟨_,_,.any,e ▸ k,g1,g2,.inr ⟨?_,rfl⟩⟩;rcases Ry with rfl|rfl
   ·simp only[execOp,D'];simp[D',Result.andThen];rfl
   ·simp only[execOp,D'];simp[D',Result.andThen];rfl
  have QM:=Da hK w.toWorld n ks cur.toList 0;cases hf:ng n ks cur.toList 0 with
  |none=>
   obtain⟨f1,f2⟩:=Ao P7 hf;obtain⟨f3,f4⟩:=f1 vs jB;refine run (cur.toList++[ρ ox]) (ks++[n]) jF (by rw[f4];simp;omega) f2 ?_ ?_
   ·rw[e1,e2];have es:=DZ 0 (ks.map enc) cur.toList (enc n) (ρ ox) (by simpa using P7);rw[Nat.zero_add,List.length_map]at es;rw[List.map_append,List.map_singleton,es];simp[Instr.mapUpdate,run_underlying ht,MapKept.run_getObj_map hh,hK.wQ,QM,hf,MapKept.run_setObj_map _ hh,Result.andThen]
   ·intro k a v ha hv;rw[f4]at ha;rcases Nat.lt_or_ge k vs.length with h|h
    ·rw[List.getElem?_append_left h]at ha;rw[List.getElem?_append_left jF]at hv;exact hr k a v ha (by simpa using hv)
    ·rw[List.getElem?_append_right h]at ha;rw[List.getElem?_append_right jF]at hv;have PX:k-vs.length=0:=by
      have:=(List.getElem?_eq_some_iff.1 ha).1;simp at this;omega
     rw[PX]at ha;rw[show k-cur.toList.length=0 by simp;omega]at hv;simp at ha hv;subst ha hv;exact h3
  |some jv=>
   obtain⟨j,v0⟩:=jv;obtain⟨k0,rfl,f2,f3,f5,f4,f6⟩:=yS hf;rw[Nat.zero_add]at hf;obtain⟨f7,f8⟩:=f4 vs jB;refine run (cur.toList.set k0 (ρ ox)) ks jF (by rw[f8];simp;omega) f6 ?_ ?_
   ·rw[e1,e2];have SL:(ks.map enc)[k0]?=some (enc n):=by simp[f3]
    have es:=CG 0 (ks.map enc) cur.toList k0 (enc n) (ρ ox) SL jB;have eg:=F6 0 (ks.map enc) cur.toList k0 (enc n) v0 SL f2;rw[es];have hmod:∀g,(ig 0 (ks.map enc) cur.toList).toArray.modify k0 g=((ig 0 (ks.map enc) cur.toList).modify k0 g).toArray:=fun g=>jE
    simp[Instr.mapUpdate,run_underlying ht,MapKept.run_getObj_map hh,hK.wQ,QM,hf,MapKept.run_setObj_map _ hh,Result.andThen,eg,Instr.keyThatStays,hK.bits]
   ·intro k a v ha hv;rw[f8,List.getElem?_set]at ha;rw[List.getElem?_set]at hv;by_cases P8:k0=k
    ·rw[if_pos P8]at ha hv;split at ha
     ·split at hv
      ·cases ha;cases hv;exact h3
      ·cases hv
     ·cases ha
    ·rw[if_neg P8]at ha hv;exact hr k a v ha (by simpa using hv)
 |_=>rw[e1]at h1;cases h1
def ns(n:α)(ks:List α)(vs:PH)(z:AV)(ok:Bool):AV:=if ok=true then(match oG n ks vs with|some v=>.ba [v,.raw (.bool true)]|none=>.ba [z,.raw (.bool false)])else(oG n ks vs).getD z
def CY{ev:PN}{kt:PM}{c:Bool}{ks:List α}{n:α}{z:Value}(hK:jf P kt enc)(ht:P.underlying t=some (.map kt et))(hz:(P.info? et).bind (·.zero)=some z)
  (hm:ev om=.mr i) (hk:ev ox=.raw (enc n)) (hi:H.get i=some (.mp (ks.map enc) vs)) (k:q) (e:K (ns n ks vs (.raw z) c) H=q):iV P (.lookup t om ox c) ty ev H K:=fun w ρ dst pos after guard hw hρ=>by
 have h1:=hρ om (by simp[Op.operands]);have h2:=hρ ox (by simp[Op.operands]);rw[hm]at h1;rw[hk]at h2;have e2:=cY h2;cases e1:ρ om with
 |map r=>
  rw[e1]at h1;cases h1 with
  |mr _ b u s hn=>
  obtain⟨rfl,hl,cur,hh,P5,hr⟩:=DU hw hi hn;have hl:ks.length=vs.length:=by simpa using hl
  have P7:ks.length=cur.toList.length:=by simp;omega
  have QM:=Da hK w.toWorld n ks cur.toList 0;have Wv:(zeroValue et).run P w.toWorld=.ok z w.toWorld:=by
   cases U7:P.info? et with
   |none=>rw[U7]at hz;cases hz
   |some ti=>rw[U7]at hz;simp only[Option.bind_some]at hz;simp[zeroValue,typeInfo,U7,hz]
  cases hf:ng n ks cur.toList 0 with
  |none=>
   obtain⟨f1,f2⟩:=Ao P7 hf;obtain⟨f3,_⟩:=f1 vs jB;refine⟨w,H,_,e ▸ k,hw,Ext.refl w H,.inl ⟨if c=true then .tuple #[z,.bool false]else z,?_,?_⟩⟩
   ·simp only[execOp,e1,e2];cases c<;>simp[Instr.lookup,run_underlying ht,MapKept.run_getObj_map hh,hK.wQ,QM,hf,Wv,Result.andThen]
   ·unfold ns;rw[f3];cases c
    ·exact .raw _
    ·exact .ba _ _ rfl fun i a v ha hv=>by
      match i with
      |0=>simp at ha hv;subst ha hv;exact .raw _
      |1=>simp at ha hv;subst ha hv;exact .raw _
      |i+2=>simp at ha
  |some jv=>
   obtain⟨j,v0⟩:=jv;obtain⟨k0,rfl,f2,f3,f5,f4,f6⟩:=yS hf;obtain⟨f7,_⟩:=f4 vs jB;have PX:k0<vs.length:=jB;have XF:ar w vs[k0] v0:=hr k0 _ v0 (List.getElem?_eq_getElem PX) (by simpa using f2);refine⟨w,H,_,e ▸ k,hw,Ext.refl w H,.inl ⟨if c=true then .tuple #[v0,.bool true]else v0,?_,?_⟩⟩
   ·simp only[execOp,e1,e2];cases c<;>simp[Instr.lookup,run_underlying ht,MapKept.run_getObj_map hh,hK.wQ,QM,hf,Result.andThen]
   ·unfold ns;rw[f7,List.getElem?_eq_getElem PX];cases c
    ·exact XF
    ·exact .ba _ _ rfl fun i a v ha hv=>by
      match i with
      |0=>simp at ha hv;subst ha hv;exact XF
      |1=>simp at ha hv;subst ha hv;exact .raw _
      |i+2=>simp at ha
 |_=>rw[e1]at h1;cases h1
def pA(P:PS)(t:PM):Option (Bool×PM):=match P.underlying t with
 |some (.map k e)=>match P.underlying k with
  |some .string=>some (true,e)
  |some (.int .i64)=>some (false,e)
  |_=>none
 |_=>none
def Cg{e:PM}(h:pA P t=some (true,e)):∃k,P.underlying t=some (.map k e)/\jf P k Value.string:=by
 unfold pA at h;split at h
 ·rename_i k e' h1;split at h
  ·rename_i h2;cases h;exact⟨k,h1,Oq h2⟩
  ·cases h
  ·cases h
 ·cases h
def Ei{e:PM}(h:pA P t=some (false,e)):∃k,P.underlying t=some (.map k e)/\jf P k (Value.int .i64):=by
 unfold pA at h;split at h
 ·rename_i k e' h1;split at h
  ·cases h
  ·rename_i h2;cases h;exact⟨k,h1,Oi h2⟩
  ·cases h
 ·cases h
def km{ev:PN}{ok:Operand}{n:Int}(ks:PJ)(UI:pA P t=some (false,et))(k:q)(Ry:op=.insert t om ok ox\/op=.mapUpdate t om ok ox:=by first|exact Or.inl rfl|exact Or.inr rfl)
  (hm:ev om=.mr i:=by rfl) (hk:ev ok=.raw (.int .i64 n):=by rfl) (hi:H.get i=some (.mp (ks.map (Value.int .i64)) vs):=by first|rfl|exact db) (e:K .any (H.put i (.mp ((mC n ks).map (Value.int .i64)) (mo n (ev ox) ks vs)))=q:=by exact eu):iV P op ty ev H K:=by
 obtain⟨kt,h1,h2⟩:=Ei UI;exact Gs Ry h2 h1 hm hk rfl hi k e
def uS{ev:PN}{ok:Operand}{n:PL}(ks:List PL)(UI:pA P t=some (true,et))(k:q)(Ry:op=.insert t om ok ox\/op=.mapUpdate t om ok ox:=by first|exact Or.inl rfl|exact Or.inr rfl)
  (hm:ev om=.mr i:=by rfl) (hk:ev ok=.raw (.string n):=by rfl) (hi:H.get i=some (.mp (ks.map Value.string) vs):=by first|rfl|exact db) (e:K .any (H.put i (.mp ((mC n ks).map Value.string) (mo n (ev ox) ks vs)))=q:=by exact eu):iV P op ty ev H K:=by
 obtain⟨kt,h1,h2⟩:=Cg UI;exact Gs Ry h2 h1 hm hk rfl hi k e
def yl{ev:PN}{c:Bool}{n:Int}(ks:PJ)(z:Value)(r:AV)(UI:pA P t=some (false,et))(hz:(P.info? et).bind (·.zero)=some z)(hr:ns n ks vs (.raw z) c=r)(k:q)
  (hm:ev om=.mr i:=by rfl) (hk:ev ox=.raw (.int .i64 n):=by rfl) (hi:H.get i=some (.mp (ks.map (Value.int .i64)) vs):=by first|rfl|exact db) (e:K r H=q:=by exact eu):iV P (.lookup t om ox c) ty ev H K:=by
 obtain⟨kt,h1,h2⟩:=Ei UI;exact CY h2 h1 hz hm hk hi k (hr ▸ e)
def oC{ev:PN}{c:Bool}{n:PL}(ks:List PL)(z:Value)(r:AV)(UI:pA P t=some (true,et))(hz:(P.info? et).bind (·.zero)=some z)(hr:ns n ks vs (.raw z) c=r)(k:q)
  (hm:ev om=.mr i:=by rfl) (hk:ev ox=.raw (.string n):=by rfl) (hi:H.get i=some (.mp (ks.map Value.string) vs):=by first|rfl|exact db) (e:K r H=q:=by exact eu):iV P (.lookup t om ox c) ty ev H K:=by
 obtain⟨kt,h1,h2⟩:=Cg UI;exact CY h2 h1 hz hm hk hi k (hr ▸ e)
@[go_sem] def jy3{ev:PN}(t:PM)(r:Option Operand):vc P ev H ty K (.makeMap t r)=iV P (.makeMap t r) ty ev H K:=by simp[vc,cW]
@[go_sem] def j1o{ev:PN}(t:PM)(m k x:Operand):vc P ev H ty K (.insert t m k x)=iV P (.insert t m k x) ty ev H K:=by simp[vc,cW]
@[go_sem] def j1p{ev:PN}(t:PM)(m k:Operand)(c:Bool):vc P ev H ty K (.lookup t m k c)=iV P (.lookup t m k c) ty ev H K:=by simp[vc,cW]
end
attribute [go_sem] mo mC
-- what is new, in regions that leave their order open
section
variable {P:PS}{A:AS}{ev:PN}{H:Hp}
@[go_sem] def j4k:(∀{K:PE} (t:PM) (n:Nat) (ps:Array (Nat×Operand)),se P A ev H K (.buildSlice t n ps)=mG P H t n (ps.toList.map fun p=>(p.1,ev p.2)) (AP (fun r H'=>df A H H'/\K r H') .mk))/\(∀{K:PE} (t:PM) (l c:Operand),se P A ev H K (.makeSlice t l c)=iV P (.makeSlice t l c) 0 ev H (AP (fun r H'=>df A H H'/\K r H') .mk))/\(∀{K:PE} (t:PM) (a x:Operand),se P A ev H K (.call ⟨.builtin .append,#[a,x],#[t,t]⟩)=pj P t t (ev a) (ev x) H (AP (fun r H'=>df A H H'/\K r H') .mk)):=by and_intros<;>(intros;rfl)
variable{t:PM}{sz:Nat}{zs:PQ}{f:PE}{q:Prop}
def Jq(i:Nat){e:PM}{b:Bool}{x:AV}{c:Prop}{ys:PF}{d:gq fun r H'=>df A H H'/\f r H'}(k:q)(ht:ie P t=some e:=by(simp only[go_sem];rfl))(hs:cR P e=some sz:=by first|(simp only[go_sem];done)|(simp only[go_sem];rfl))(hz:dY P e=some zs:=by(simp only[go_sem];rfl))(SD:zs.length=sz:=by rfl)(h0:0<sz:=by decide)
  (hx:sN H x=some (c,ys):=by first|rfl|exact db) (hc:c:=by first|trivial|exact db) (hg:nI sz ys:=by first|exact Ep _ _ (fun _=>rfl)|exact db) (hr:room (iN P e) ys.length:=by(simp only[go_sem];omega)) (hi:H.get i=none:=by first|rfl|exact db)
  (e:f (.rs i ys.length sz ys.length) (H.put i (.aE e sz ys))=q:=by exact eu):pj P t t (.sl true sz [] []) x H (AP (fun r H'=>df A H H'/\f r H') d):=by
 refine Er ?_;unfold we;rw[ht];simp only[hs,hz,hx];refine⟨⟨SD,h0,hc,hg⟩,⟨rfl,by simpa using hr,.inl rfl⟩,i,hi,df.put (by simpa using hi),?_⟩;simp only[List.length_nil,Nat.zero_add,List.nil_append];exact e ▸ k
variable{css:PF}
def pO(i:Nat){K:PE}(k:q)(h0:0<sz:=by decide)(hi:H.get i=none:=by first|rfl|exact db)(e:K (.rs i css.length sz css.length) (H.put i (.aE t sz css))=q:=by exact eu):qo t sz css H K:=AR i h0 hi (e ▸ k)
def BM(i:Nat){d:gq fun r H'=>df A H H'/\f r H'}(k:q)(h0:0<sz:=by decide)(hi:H.get i=none:=by first|rfl|exact db)(e:f (.rs i css.length sz css.length) (H.put i (.aE t sz css))=q:=by exact eu) :
  qo t sz css H (AP (fun r H'=>df A H H'/\f r H') d):=AR i h0 hi ⟨df.put hi,e ▸ k⟩
def Nc(i:Nat){et:PM}{n:Nat}{l c:Operand}{d:gq fun r H'=>df A H H'/\f r H'}(k:q)(hl:ev l=.raw (.int .i64 (n:Int)):=by rfl)(hc:ev c=.raw (.int .i64 (n:Int)):=by rfl)(ht:ie P t=some et:=by(simp only[go_sem];rfl))(hs:cR P et=some sz:=by(simp only[go_sem];rfl))(hz:dY P et=some zs:=by(simp only[go_sem];rfl))(SD:zs.length=sz:=by rfl)(h0:0<sz:=by decide)(hr:room (iN P et) n:=by(simp only[go_sem];omega))(hi:H.get i=none:=by first|rfl|exact db)
  (e:f (.rs i n sz n) (H.put i (.aE et sz (List.replicate n (zs.map .raw))))=q:=by exact eu):iV P (.makeSlice t l c) 0 ev H (AP (fun r H'=>df A H H'/\f r H') d):=
 KH (K:=AP (fun r H'=>df A H H'/\f r H') d) (q:=df A H (H.put i (.aE et sz (List.replicate n (zs.map .raw))))/\q) i ⟨df.put hi,k⟩ hl hc ht hs hz SD h0 hr hi (by show(df A H _/\f _ _)=_;rw[e])
variable{l0:PG}
def Oy(h4:fresh [] H l0)(h5:(ids l0).Nodup):df A H ⟨H.B,fp H.l l0⟩:=fun i r _ hi=>by
 left
 show ak (fp H.l l0) i=some r;rw[wC _ _ _ (fun _ _ _=>trivial) h5];cases e:ak l0 i with
 |none=>exact hi
 |some x=>
  rcases yW h4 i x e with h|h
  ·simp at h
  ·rw[hi]at h;cases h
def cN{f:FuncId}{args:PH}{g:PE}{d:gq fun r H'=>df A H H'/\g r H'}{r0:AV}(hc:ai P f args [] fun r l'=>r=r0/\l'=l0)(k:q)(h0:bo P f=true:=by exact db)(h2:aS dq args=true:=by exact db)
 (h4:fresh [] H l0:=by exact db) (h5:(ids l0).Nodup:=by exact db) (e:g r0 ⟨H.B,fp H.l l0⟩=q:=by exact eu):fh P (.raw (.func (.func f) #[] #[])) args H (AP (fun r H'=>df A H H'/\g r H') d):=
 nB h0 (vu (K:=AP (fun r H'=>df A H H'/\g r H') d) hc trivial (by simpa[ids]using h2) trivial h4 h5 ⟨Oy h4 h5,e ▸ k⟩)
end
attribute [go_sem] yy
-- calls under guards, that change things
def FF(D:PK):Option Tmp->Bool
 |some t=>D.contains t
 |none=>false
def Cd(P:PS)(ev:PN)(H:Hp)(K:PE):Op->Prop
 |.call { callee:=.value f,args,.. }=>fh P (ev f) (args.toList.map ev) H K
 |_=>False
def jc(D:PK)(P:PS)(ops:Array Oper)(K:PD):List Oper->PD
 |[],F,H=>K F H
 |o::rest,F,H=>match o.guard with
  |none=>vc P (bV F) H o.type (fun r H'=>jc D P ops K rest (cn F o.dst r) H') o.op
  |some (j,want)=>match lW ops F j want with
   |some b=>if(FF D o.dst && ku o.op)=true then(b=true->gr F o.op=true/\Cd P (bF F) H (fun r H'=>jc D P ops K rest (cn F o.dst r) H') o.op)/\(b=false->jc D P ops K rest (cn F o.dst (.gd false (.raw (.bool false)))) H)
    else if ku o.op || ij o.op then eF P F H b (fun r=>jc D P ops K rest (cn F o.dst r) H) o.op
    else(b=true->vc P (bV F) H o.type (fun r H'=>jc D P ops K rest (cn F o.dst r) H') o.op)/\(b=false->jc D P ops K rest (cn F o.dst .any) H)
   |none=>False
section
variable {P:PS}{ops:Array Oper}
theorem u7{D:PK}{K:PD}:∀(l:List Oper) (F:PH) (H:Hp),jc D P ops K l F H->tS P ops K l F H
 |[],F,H,h=>DP h
 |o::rest,F,H,h=>by
  refine D7 ?_;simp only[jc]at h;split at h
  ·rename_i hg;exact(pD (K:=fun F' H'=>jc D P ops K rest F' H') hg h).mono fun F' H' hk=>u7 rest F' H' hk
  ·rename_i j want hg;split at h
   ·rename_i b hb;split at h
    ·rename_i hd;refine l5.mono (K:=fun F' H'=>jc D P ops K rest F' H') ?_ fun F' H' hk=>u7 rest F' H' hk
     obtain⟨dst,op,ty,pos,after,guard⟩:=o;have hc:ku op=true:=by simp only[Bool.and_eq_true]at hd;exact hd.2
     cases op<;>first|(cases hc;done)|skip
     rename_i c;obtain⟨callee,args,ts⟩:=c;cases callee<;>first|(cases hc;done)|skip
     rename_i f;refine n7 hg hb (fun Qq w tm Q next h1 h2 hn=>?_) (fun Qq=>⟨.gd false (.raw (.bool false)),pn rfl,h.2 Qq⟩);obtain⟨ok,Qn⟩:=h.1 Qq;have R6:=pv ok;have e1:jM F f=bF F f:=R6 f (by simp[Op.operands,Call.operands]);have e2:args.toList.map (jM F)=args.toList.map (bF F):=List.map_congr_left fun x hx=>R6 x (by simp[Op.operands,Call.operands]at hx ⊢;exact .inr hx)
     refine wA (ev:=jM F) e1 e2 Qn h1 (rp h2) fun v r' w' H' hR g1 g2 g3=>?_
     rw[Act.put_eq];exact hn _ w' _ H' hR g1 ((h2.ext g3).put dst g2 []) g3
    split at h
    ·refine l5.mono (K:=fun F' H'=>jc D P ops K rest F' H') ?_ fun F' H' hk=>u7 rest F' H' hk
     obtain⟨dst,op,ty,pos,after,guard⟩:=o;unfold eF at h;split at h
     ·rename_i f args argTypes So;cases So;obtain⟨r,hc,hk⟩:=h;refine n7 hg hb (fun Qq w tm Q next h1 h2 hn=>?_) (fun Qq=>⟨_,pn Qq,hk⟩);obtain⟨ok,Qn⟩:=hc Qq;have R6:=pv ok;have e1:jM F f=bF F f:=R6 f (by simp[Op.operands,Call.operands]);have e2:args.toList.map (jM F)=args.toList.map (bF F):=List.map_congr_left fun x hx=>R6 x (by simp[Op.operands,Call.operands]at hx ⊢;exact .inr hx)
      refine wA (ev:=jM F) e1 e2 Qn h1 (rp h2) fun v r' w' H' hR g1 g2 g3=>?_
      obtain⟨rfl,rfl⟩:=hR;rw[Act.put_eq];exact hn _ w' _ H' hk g1 ((h2.ext g3).put dst (rq Qq g2) []) g3
     ·rename_i f m args argTypes So;cases So;obtain⟨r,hc,hk⟩:=h;refine n7 hg hb (fun Qq w tm Q next h1 h2 hn=>?_) (fun Qq=>⟨_,pn Qq,hk⟩);obtain⟨ok,Qn⟩:=hc Qq;have R6:=pv ok;have e1:jM F f=bF F f:=R6 f (by simp[Op.operands,Call.operands]);have e2:args.toList.map (jM F)=args.toList.map (bF F):=List.map_congr_left fun x hx=>R6 x (by simp[Op.operands,Call.operands]at hx ⊢;exact .inr hx)
      refine yK (ev:=jM F) e1 e2 Qn h1 (rp h2) fun v r' w' H' hR g1 g2 g3=>?_
      obtain⟨rfl,rfl⟩:=hR;rw[Act.put_eq];exact hn _ w' _ H' hk g1 ((h2.ext g3).put dst (rq Qq g2) []) g3
     ·rename_i c x y So;simp only at So;subst So;obtain⟨hs,hk⟩:=h;refine n7 hg hb (fun Qq w tm Q next h1 h2 hn=>?_) (fun Qq=>⟨_,pn Qq,hk⟩);obtain⟨ok,hq⟩:=hs Qq;obtain⟨v,D',hv⟩:=FG (P:=P) (ρ:=(Act.mk tm []).eval) (dst:=dst) (ty:=ty) (pos:=pos) (after:=after) (guard:=guard) (Av h2 c ok) (h2.eval [] x) (h2.eval [] y) hq;simp only[Oper.wp,D',Oper.upon];rw[Act.put_eq];exact hn _ w _ H hk h1 (h2.put dst (rq Qq hv) []) (Ext.refl w H)
     ·split at h
      ·obtain⟨hs,hk⟩:=h;refine n7 hg hb (fun Qq w tm Q next h1 h2 hn=>?_) (fun Qq=>⟨_,pn Qq,hk⟩);obtain⟨ok,hq⟩:=hs Qq;rw[<-tf _ (pv ok)]at hq;obtain⟨v,D',hv⟩:=xQ (ρ:=(Act.mk tm []).eval) ⟨dst,op,ty,pos,after,guard⟩ h1 (rp h2) hq;simp only[Oper.wp,D',Oper.upon];rw[Act.put_eq];rw[tf _ (pv ok)]at hv;exact hn _ w _ H hk h1 (h2.put dst (rq Qq hv) []) (Ext.refl w H)
      ·exact h.elim
    ·refine l5.mono (K:=fun F' H'=>jc D P ops K rest F' H') ?_ fun F' H' hk=>u7 rest F' H' hk
     refine n7 hg hb (fun Qq w tm Q next h1 h2 hn=>?_) (fun Qq=>⟨_,fun w=>.any _,h.2 Qq⟩);exact zR (h.1 Qq) h1 h2 (fun x=>h2.eval [] x) hn
   ·exact h.elim
end
section
variable {D:PK}{P:PS}{ops:Array Oper}{K:PD}
@[go_sem] def j22(F:PH)(H:Hp):jc D P ops K [] F H=K F H:=(rfl)
@[go_sem] def j1r(dst:Option Tmp)(op:Op)(ty:PM)(pos:String)(after:Array Edge)(rest:List Oper)(F:PH)(H:Hp) :
  jc D P ops K (⟨dst,op,ty,pos,after,none⟩::rest) F H=vc P (bV F) H ty (AP (fun r H'=>jc D P ops K rest (cn F dst r) H') .mk) op:=(rfl)
def yN(P:PS)(F:PH)(H:Hp)(K:PE):Op->Prop
 |.call { callee:=.value f,args,.. }=>((lc (bV F f)).1=true/\qY F args.toList)/\fh P (bF F f) (args.toList.map (bF F)) H K
 |_=>False
@[go_sem] def j1l{F:PH}{H:Hp}{K:PE}(f:Operand)(zl:Array Operand)(ts:Array PM):yN P F H K (.call ⟨.value f,zl,ts⟩)=(((lc (bV F f)).1=true/\qY F zl.toList)/\fh P (bF F f) (zl.toList.map (bF F)) H K):=(rfl)
def MT{F:PH}{H:Hp}{K:PE}{op:Op}(h:ku op=true):(gr F op=true/\Cd P (bF F) H K op)=yN P F H K op:=by
 cases op<;>first|(cases h;done)|skip
 rename_i c;obtain⟨callee,args,ts⟩:=c;cases callee<;>first|(cases h;done)|skip
 rename_i f;rw[Pn];rfl
@[go_sem] def jy8(t:Nat)(op:Op)(ty:PM)(pos:String)(after:Array Edge)(j:Nat)(want:Bool)(rest:List Oper)(F:PH)(H:Hp) :
  jc D P ops K (⟨some t,op,ty,pos,after,some (j,want)⟩::rest) F H=tD (lW ops F j want) (fun b=>pQ (D.contains t && ku op)
   (tx b (yN P F H (AP (fun r H'=>jc D P ops K rest (cn F (some t) r) H') .mk) op) (jc D P ops K rest (cn F (some t) (.gd false (.raw (.bool false)))) H) .mk .mk)
   (pQ (ku op || ij op) (eF P F H b (wm (fun r=>jc D P ops K rest (cn F (some t) r) H) .mk) op)
    ((b=true->vc P (bV F) H ty (AP (fun r H'=>jc D P ops K rest (cn F (some t) r) H') .mk) op)/\(b=false->jc D P ops K rest (cn F (some t) .any) H)) .mk .mk) .mk .mk) .mk:=by
 conv=>lhs;unfold jc
 simp only;unfold tD pQ tx FF;cases lW ops F j want with
 |none=>rfl
 |some b=>
  simp only;by_cases hc:(D.contains t && ku op)=true
  ·rw[if_pos hc,if_pos hc];have hv:ku op=true:=by simp only[Bool.and_eq_true]at hc;exact hc.2
   rw[<-MT hv];rfl
  ·rw[if_neg hc,if_neg hc];rfl
end
def sS{P:PS}{id:Nat}{l:List Oper}{Q:Exit->PD}{F:PH}{H:Hp}(D:PK)(h:q)(e:jc D P l.toArray (Q .normal) l F H=q:=by exact eu):dp P (.region id l.toArray false) Q F H:=
 BP (by simpa using u7 l F H (e ▸ h))
def fc{b:Bool}{X Y X' Y' pt pf:Prop}{d:gq X}{d':gq Y}(ht:pt->X')(hf:pf->Y')
 (et:(b=true)=pt:=by first|(simp only[Int.reduceEq,Int.reduceLE,Int.reduceLT,Int.reduceNe,false_and,and_false,true_and,and_true,or_false,false_or,true_or,or_true,Bool.false_eq_true,Bool.true_eq_false,eq_self,reduceCtorEq,Bool.not_true,Bool.not_false,Bool.and_eq_true,Bool.or_eq_true,Bool.and_eq_false_iff,Bool.or_eq_false_iff,decide_eq_true_eq,decide_eq_false_iff_not,Bool.not_eq_true',Bool.not_eq_false',Int.not_lt,Int.not_le];rfl)|rfl) (ef:(b=false)=pf:=by first|(simp only[Int.reduceEq,Int.reduceLE,Int.reduceLT,Int.reduceNe,false_and,and_false,true_and,and_true,or_false,false_or,true_or,or_true,Bool.false_eq_true,Bool.true_eq_false,eq_self,reduceCtorEq,Bool.not_true,Bool.not_false,Bool.and_eq_true,Bool.or_eq_true,Bool.and_eq_false_iff,Bool.or_eq_false_iff,decide_eq_true_eq,decide_eq_false_iff_not,Bool.not_eq_true',Bool.not_eq_false',Int.not_lt,Int.not_le];rfl)|rfl) (eX:X=X':=by exact eu) (eY:Y=Y':=by exact eu):tx b X Y d d':=⟨fun h=>eX ▸ ht (et ▸ h),fun h=>eY ▸ hf (ef ▸ h)⟩
variable {P:PS}{H:Hp}
def Nq{e:PM}{d:Nat}{x:AV}{c:Prop}{css ys:PF}(k:q)(hd:H.get d=some (.aE e sz css):=by(simp(disch:=first|omega|assumption|fail) only[go_sem,rk,↓reduceIte,Int.reduceEq,Int.reduceLE,Int.reduceLT,Int.reduceNe,Int.reduceToNat,Nat.reduceMul,Nat.reduceAdd,Nat.reduceLeDiff,Nat.reduceSub,Nat.reduceEqDiff,Nat.reduceBEq,List.nodup_cons,List.nodup_nil,List.mem_cons,List.not_mem_nil,List.mem_nil_iff];first|rfl|exact⟨rfl,rfl⟩|exact⟨rfl,rfl,rfl⟩))(ht:ie P t=some e:=by first|(simp only[go_sem];done)|(simp only[go_sem];rfl))(Si:cR P e=some sz:=by(simp only[go_sem];done))(Wx:dY P e=some zs:=by first|(simp only[go_sem];done)|(simp only[go_sem];rfl))(SD:zs.length=sz:=by rfl)(h0:0<sz:=by decide)(hn:css.length=n:=by first|rfl|exact List.length_replicate|exact db)(Uw:sN H x=some (c,ys):=by rfl)(hc:c:=by trivial)(hg:nI sz ys:=by exact db)(Tk:ys.length<=n:=by first|assumption|(simp only[List.length_map];omega)|exact db)
  (he:K (.raw (.int .i64 (ys.length:Nat))) (H.put d (.aE e sz (gX css 0 ys)))=q:=by exact eu):qV P .copy [t,t] [.rs d n sz n,x] H K:=by
 subst hn;have hk:=he ▸ k;intro w vs ty cs hw hr;obtain⟨vd,vx,rfl⟩:∃vd vx,vs=[vd,vx]:=by
  have:=hr.1;match vs,this with
  |[vd,vx],_=>exact⟨vd,vx,rfl⟩
 have hu:=AL ht;obtain⟨i,z,hi,QB,SY,Ut,U3⟩:=BJ Si Wx SD;obtain⟨A',cx,news,rfl,QD,Rk⟩:=GZ hw (hr.2 1 _ vx rfl rfl) Uw hc hg;have T6:ar w (.rs d css.length sz css.length) vd:=hr.2 0 _ vd rfl rfl;have QT:ys.flatten.length=ys.length*sz:=j7 fun y hy=>(hg y hy).1
 have RV:news.length=ys.length*sz:=by rw[<-QD.1,QT]
 have R5:cM ys.flatten=true:=by simp only[cM,List.all_eq_true];intro u Vm;obtain⟨y,hy,Wy⟩:=List.mem_flatten.1 Vm;have:=(hg y hy).2;simp only[cM,List.all_eq_true]at this;exact this u Wy
 have hf:(Builtin.firstCells i.size ys.length (.slice A' ys.length cx)).run P w.toWorld=.ok news.toArray w.toWorld:=by
  by_cases h0:ys.length=0
  ·have:news=[]:=by have:=RV;rw[h0,Nat.zero_mul]at this;simpa using this
   subst this;rw[h0];cases A'<;>simp[Builtin.firstCells,loadCells,loadCellsFrom]
  ·obtain⟨ad,rfl,I'⟩:=Rk jB;exact run_firstCells_some (P:=P) w.toWorld i.size ys.length ad ys.length cx news (by rw[QB];exact RV) I'
 rw[QB]at hf;have hok:=(hw.rows d _ hd).1;have Qv:∀cs∈gX css 0 ys,cs.length=sz:=fun cs h=>by
  unfold gX at h;rcases List.mem_append.1 h with h|h
  ·rcases List.mem_append.1 h with h|h
   ·exact hok.2 _ (List.mem_of_mem_take h)
   ·exact(hg cs h).1
  ·exact hok.2 _ (List.mem_of_mem_drop h)
 have Sq:=j7 hok.2;have Qe:=Gp (css:=css) ys (Nat.zero_le _);have Wc:Nat.min ys.length css.length=ys.length:=Nat.min_eq_left Tk;generalize hN:css.length=N at T6;cases T6 with
 |ik _ _ _ A Qi=>
  have Tl:ys=[]:=List.length_eq_zero_iff.1 jB;subst Tl;refine⟨w,_,_,.int .i64 0,?_,hk,?_,.raw _,?_⟩
  ·have Wd:news=[]:=by simpa using RV
   subst Wd;have hN':Nat.min ([]:PF).length 0=0:=rfl;have hf:(Builtin.firstCells sz 0 (.slice A' 0 cx)).run P w.toWorld=.ok #[] w.toWorld:=hf;cases A<;>simp[builtin,Builtin.copy_,run_underlying hu,Builtin.lenOf,sizeOf,typeInfo,hi,QB,hf,storeCells,goInt]
  ·refine{ hw with rows:=fun j r hj=>?_,dr:=fun j q z hz=>?_ }
   ·rw[Hp.aW]at hj;split at hj
    ·rename_i e;subst e;exact hw.rows j r (by rw[hd];exact hj)
    ·exact hw.rows j r hj
   ·rw[Hp.aW];split
    ·rename_i e;subst e;obtain⟨r,g1,g2⟩:=hw.dr j q z hz;rw[hd]at g1;cases g1;exact⟨_,rfl,g2⟩
    ·exact hw.dr j q z hz
  ·exact{ Ext.refl w H with base:=rfl }
 |rs _ _ _ _ b t' cap Qi Ta Qa RT=>
  subst hN;obtain⟨_,z',Q7,Qj⟩:=hw.rows d _ hd;have:z'=.at b t' sz:=by have Q7:w.nm d css.length=some z':=Q7;rw[Qi]at Q7;cases Q7;rfl
  subst this;obtain⟨_,cur,hh,⟨Q4,P7⟩,Ux⟩:=Qj;have P7:css.flatten.length<=t':=P7;have Sp:css.length<=cap:=by rw[Sq,<-Ta]at P7;exact Nat.le_of_mul_le_mul_right P7 h0
  have RM:0+ys.flatten.length<=t':=by rw[QT,Nat.zero_add,<-Ta];exact Nat.mul_le_mul_right _ (Nat.le_trans Tk Sp)
  obtain⟨w',D',g1,g2,g3⟩:=wx (P:=P) (off:=0) (r':=.aE e sz (gX css 0 ys)) hw hd Qi QD R5 RM rfl rfl rfl rfl (by show css.length<=(gX css 0 ys).length;rw[Qe];omega) ⟨h0,Qv⟩ (by show(gX css 0 ys).flatten.length<=t';rw[j7 Qv,Qe,<-Ta];exact Nat.mul_le_mul_right _ (Nat.max_le.2 ⟨Sp,jB⟩)) (fun p u hp=>by
   have hp:(gX css 0 ys).flatten[p]?=some u:=hp;unfold gX at hp;rw[List.flatten_append,List.flatten_append]at hp;show if _ then _ else css.flatten[p]?=some u
   simp only[List.take_zero,List.flatten_nil,List.nil_append,Nat.zero_add]at hp;rcases Nat.lt_or_ge p (0+ys.flatten.length)with h'|h'
   ·rw[if_pos ⟨Nat.zero_le _,h'⟩];rw[List.getElem?_append_left jB]at hp;exact hp
   ·rw[jN];rw[List.getElem?_append_right jB]at hp;have e2:css.flatten=(css.take ys.length).flatten++(css.drop ys.length).flatten:=by rw[<-List.flatten_append,List.take_append_drop]
    have e3:(css.take ys.length).flatten.length=ys.flatten.length:=by rw[j7 fun c hc=>hok.2 c (List.mem_of_mem_take hc),List.length_take,Nat.min_eq_left Tk,QT]
    rw[e2,List.getElem?_append_right jB,e3];exact hp)
  refine⟨w',_,_,.int .i64 ys.length,?_,hk,g1,.raw _,g2⟩;simp[builtin,Builtin.copy_,run_underlying hu,Builtin.lenOf,sizeOf,typeInfo,hi,QB,Wc,hf,D',goInt]
mutual
def AV.bL(f:Nat->Nat):AV->AV
 |.raw v=>.raw v
 |.any=>.any
 |.agg cs=>.agg (eJ f cs)
 |.ba cs=>.ba (eJ f cs)
 |.sl x sz css d=>.sl x sz css d
 |.ip cs=>.ip cs
 |.gd p v=>.gd p (v.bL f)
 |.fJ g cs=>.fJ g (eJ f cs)
 |.pt i m k j=>.pt (f i) m k j
 |.rs i m sz n=>.rs (f i) m sz n
 |.rv i m sz o n=>.rv (f i) m sz o n
 |.mr i=>.mr (f i)
 |.bd g fs=>.bd g (eJ f fs)
 |.iq t v=>.iq t (v.bL f)
 |.mv m v=>.mv m (v.bL f)
def eJ(f:Nat->Nat):PH->PH
 |[]=>[]
 |a::l=>a.bL f::eJ f l
end
theorem oo(f:Nat->Nat):∀(l:PH) (i:Nat),(eJ f l)[i]?=(l[i]?).map (AV.bL f)
 |[],i=>by simp[eJ]
 |a::l,0=>by simp[eJ]
 |a::l,i+1=>by simp only[eJ,List.getElem?_cons_succ];exact oo f l i
theorem lA(f:Nat->Nat):∀l:PH,(eJ f l).length=l.length
 |[]=>rfl
 |a::l=>by simp only[eJ,List.length_cons,lA f l]
theorem Dt(f:Nat->Nat):∀l m:PH,eJ f (l++m)=eJ f l++eJ f m
 |[],m=>rfl
 |a::l,m=>by simp only[List.cons_append,eJ,Dt f l m]
def Row.bL(f:Nat->Nat):Row->Row
 |.var t cs=>.var t (eJ f cs)
 |.aE e sz css=>.aE e sz (css.map (eJ f))
 |.mp ks vs=>.mp ks (eJ f vs)
def Row.iT(f:Nat->Nat)(r:Row):(r.bL f).fK=r.fK:=by cases r<;>simp[Row.bL,Row.fK]
def Row.jb(f:Nat->Nat)(r:Row):(r.bL f).bt=r.bt:=by cases r<;>rfl
def Row.gm(f:Nat->Nat)(r:Row):(r.bL f).cells=eJ f r.cells:=by
 cases r with
 |var t cs=>rfl
 |aE e sz css=>
  show(css.map (eJ f)).flatten=eJ f css.flatten;induction css with
  |nil=>rfl
  |cons c css ih=>simp only[List.map_cons,List.flatten_cons,ih,Dt]
 |mp ks vs=>rfl
def Row.mK(f:Nat->Nat)(r:Row)(cur:PO):(r.bL f).obj cur=r.obj cur:=by cases r<;>rfl
def Row.ni(f:Nat->Nat)(r:Row)(n t:Nat):(r.bL f).fit n t=r.fit n t:=by
 have h:=r.gm f;cases r with
 |var ty cs=> show(n=t/\(Row.var ty (eJ f cs)).cells.length<=t)=_;have h:(Row.var ty (eJ f cs)).cells=eJ f (Row.var ty cs).cells:=h;rw[h,lA];rfl
 |aE e sz css=> show(n=t/\(Row.aE e sz (css.map (eJ f))).cells.length<=t)=_;have h:(Row.aE e sz (css.map (eJ f))).cells=eJ f (Row.aE e sz css).cells:=h;rw[h,lA];rfl
 |mp ks vs=>show(n=(eJ f vs).length)=_;rw[lA];rfl
variable{f:Nat->Nat}{r:Row}
def Row.sJ(h:r.ok):(r.bL f).ok:=by
 cases r with
 |var t cs=>trivial
 |aE e sz css=> refine⟨h.1,fun cs Q4=>?_⟩;obtain⟨c,hc,rfl⟩:=List.mem_map.1 Q4;rw[lA];exact h.2 c hc
 |mp ks vs=>show ks.length=(eJ f vs).length;rw[lA];exact h
def kv(f:Nat->Nat)(l:PG):PG:=l.map fun x=>(f x.1,x.2.bL f)
def xb(f:Nat->Nat)(l:PG):ids (kv f l)=(ids l).map f:=by unfold ids kv;simp[List.map_map,Function.comp_def]
theorem ya{f g:Nat->Nat}(hf:∀i,g (f i)=i):∀(l:PG) (i:Nat),ak (kv f l) (f i)=(ak l i).map (Row.bL f)
 |[],i=>rfl
 |(j,r)::l,i=>by
  show(if f i=f j then some (r.bL f)else ak (kv f l) (f i))=((if i=j then some r else ak l i):Option Row).map _;by_cases h:i=j
  ·subst h;rw[if_pos rfl,if_pos rfl];rfl
  ·rw[if_neg h,if_neg (fun e=>h (by rw[<-hf i,<-hf j,e])),ya hf l i]
variable{j:Nat}
def wc{g:Nat->Nat}(hf:∀i,g (f i)=i){l:PG}(h:ak (kv f l) j=some r):∃i r0,j=f i/\r=r0.bL f/\ak l i=some r0:=by
 induction l with
 |nil=>cases h
 |cons x l ih=>
  obtain⟨k,s⟩:=x;have h:(if j=f k then some (s.bL f)else ak (kv f l) j)=some r:=h;by_cases e:j=f k
  ·rw[if_pos e]at h;cases h;exact⟨k,s,e,rfl,by simp[ak]⟩
  ·rw[if_neg e]at h;obtain⟨i,r0,h1,h2,h3⟩:=ih h;refine⟨i,r0,h1,h2,?_⟩;show(if i=k then some s else ak l i)=_;rw[if_neg (fun e'=>e (by rw[h1,e']))];exact h3
@[reducible] def NW.pull(f:Nat->Nat)(w:NW):NW:={ w with nm:=fun i m=>w.nm (f i) m }
@[reducible] def NW.push(f g:Nat->Nat)(w:NW):NW:={ w with nm:=fun j m=>if f (g j)=j then w.nm (g j) m else none }
def NW.nP{g:Nat->Nat}(hf:∀i,g (f i)=i)(w:NW):(w.push f g).pull f=w:=by
 obtain⟨W,O,nm⟩:=w;show NW.mk W O _=NW.mk W O nm;congr 1
 funext i m
 show(if f (g (f i))=f i then nm (g (f i)) m else none)=nm i m;rw[hf,if_pos rfl]
def FK{a:AV}{v:Value}{w0:NW}(h:ar w0 a v):∀w:NW,w0=w.pull f->ar w (a.bL f) v:=by
 induction h with
 |raw v=>intro w e;simp only[AV.bL];exact .raw v
 |any v=>intro w e;simp only[AV.bL];exact .any v
 |agg cs vs hl _ ih=>
  intro w e;simp only[AV.bL];refine .agg _ vs (by rw[lA];exact hl) fun i a v h1 h2=>?_
  rw[oo]at h1;cases hc:cs[i]? with
  |none=>rw[hc]at h1;cases h1
  |some b=>rw[hc]at h1;cases h1;exact ih i b v hc h2 w e
 |ba cs vs hl _ ih=>
  intro w e;simp only[AV.bL];refine .ba _ vs (by rw[lA];exact hl) fun i a v h1 h2=>?_
  rw[oo]at h1;cases hc:cs[i]? with
  |none=>rw[hc]at h1;cases h1
  |some b=>rw[hc]at h1;cases h1;exact ih i b v hc h2 w e
 |gb x sz A c hx=>intro w e;simp only[AV.bL];exact .gb x sz A c hx
 |sl x sz css a c vs hn hc hx P5 hb hH I' Q2 _=>intro w e;subst e;simp only[AV.bL];exact .sl x sz css a c vs hn hc hx P5 hb hH I' Q2
 |ip cs a vs hb hH I' Q2 _=>intro w e;subst e;simp only[AV.bL];exact .ip cs a vs hb hH I' Q2
 |gd p a v _ hu ih=>intro w e;simp only[AV.bL];exact .gd p _ v (fun hp=>ih hp w e) hu
 |fJ g cs vs hl _ ih=>
  intro w e;simp only[AV.bL];refine .fJ g _ vs (by rw[lA];exact hl) fun i a v h1 h2=>?_
  rw[oo]at h1;cases hc:cs[i]? with
  |none=>rw[hc]at h1;cases h1
  |some b=>rw[hc]at h1;cases h1;exact ih i b v hc h2 w e
 |pt i m k j b t s h=>intro w e;subst e;simp only[AV.bL];exact .pt (f i) m k j b t s h
 |ik i m sz A h=>intro w e;subst e;simp only[AV.bL];exact .ik (f i) m sz A h
 |rs i m sz n b t c h hc hn hs=>intro w e;subst e;simp only[AV.bL];exact .rs (f i) m sz n b t c h hc hn hs
 |kX i m sz o c A=>intro w e;simp only[AV.bL];exact .kX (f i) m sz o c A
 |rv i m sz o n b t c h hn=>intro w e;subst e;simp only[AV.bL];exact .rv (f i) m sz o n b t c h hn
 |mr i b t s h=>intro w e;subst e;simp only[AV.bL];exact .mr (f i) b t s h
 |bd g fs vs hl _ ih=>
  intro w e;simp only[AV.bL];refine .bd g _ vs (by rw[lA];exact hl) fun i a v h1 h2=>?_
  rw[oo]at h1;cases hc:fs[i]? with
  |none=>rw[hc]at h1;cases h1
  |some b=>rw[hc]at h1;cases h1;exact ih i b v hc h2 w e
 |iq t a v _ ih=>intro w e;simp only[AV.bL];exact .iq t _ v (ih w e)
 |mv m a v _ ih=>intro w e;simp only[AV.bL];exact .mv m _ v (ih w e)
mutual
theorem tK{f:Nat->Nat}{w:NW}:∀(a:AV) (v:Value),ar w (a.bL f) v->ar (w.pull f) a v
 |.raw x,v,h=>by simp only[AV.bL]at h;cases h;exact .raw _
 |.any,v,h=>.any v
 |.agg cs,v,h=>by
  simp only[AV.bL]at h;cases h with
  |agg _ vs hl hh=>exact .agg cs vs (by rw[lA]at hl;exact hl) fun i a u h1 h2=>vW cs i a h1 u (hh i _ u (by rw[oo,h1];rfl) h2)
 |.ba cs,v,h=>by
  simp only[AV.bL]at h;cases h with
  |ba _ vs hl hh=>exact .ba cs vs (by rw[lA]at hl;exact hl) fun i a u h1 h2=>vW cs i a h1 u (hh i _ u (by rw[oo,h1];rfl) h2)
 |.sl x sz css d,v,h=>by
  simp only[AV.bL]at h;cases h with
  |gb _ _ A c hx=>exact .gb x sz A c hx
  |sl _ _ _ a c vs hn hc hx P5 hb hH I' Q2=>exact .sl x sz css a c vs hn hc hx P5 hb hH I' Q2
 |.ip cs,v,h=>by
  simp only[AV.bL]at h;cases h with
  |ip _ a vs hb hH I' Q2=>exact .ip cs a vs hb hH I' Q2
 |.gd p x,v,h=>by
  simp only[AV.bL]at h;cases h with
  |gd _ _ _ h1 hu=>exact .gd p x v (fun hp=>tK x v (h1 hp)) hu
 |.fJ g cs,v,h=>by
  simp only[AV.bL]at h;cases h with
  |fJ _ _ vs hl hh=>exact .fJ g cs vs (by rw[lA]at hl;exact hl) fun i a u h1 h2=>vW cs i a h1 u (hh i _ u (by rw[oo,h1];rfl) h2)
 |.pt i m k j,v,h=>by
  simp only[AV.bL]at h;cases h with
  |pt _ _ _ _ b t s hn=>exact .pt i m k j b t s hn
 |.rs i m sz n,v,h=>by
  simp only[AV.bL]at h;cases h with
  |ik _ _ _ A hn=>exact .ik i m sz A hn
  |rs _ _ _ _ b t c hn h1 h2 h3=>exact .rs i m sz n b t c hn h1 h2 h3
 |.rv i m sz o n,v,h=>by
  simp only[AV.bL]at h;cases h with
  |kX _ _ _ _ c A=>exact .kX i m sz o c A
  |rv _ _ _ _ _ b t c hn h1=>exact .rv i m sz o n b t c hn h1
 |.mr i,v,h=>by
  simp only[AV.bL]at h;cases h with
  |mr _ b t s hn=>exact .mr i b t s hn
 |.bd g fs,v,h=>by
  simp only[AV.bL]at h;cases h with
  |bd _ _ vs hl hh=>exact .bd g fs vs (by rw[lA]at hl;exact hl) fun i a u h1 h2=>vW fs i a h1 u (hh i _ u (by rw[oo,h1];rfl) h2)
 |.iq t x,v,h=>by
  simp only[AV.bL]at h;cases h with
  |iq _ _ u h1=>exact .iq t x u (tK x u h1)
 |.mv m x,v,h=>by
  simp only[AV.bL]at h;cases h with
  |mv _ _ u h1=>exact .mv m x u (tK x u h1)
theorem vW{f:Nat->Nat}{w:NW}:∀(l:PH) (i:Nat) (a:AV),l[i]?=some a->∀v,ar w (a.bL f) v->ar (w.pull f) a v
 |[],i,a,h,v,hv=>by simp at h
 |x::l,0,a,h,v,hv=>by
  have e:x=a:=by simpa using h
  rw[<-e]at hv ⊢;exact tK x v hv
 |x::l,i+1,a,h,v,hv=>vW l i a (by simpa using h) v hv
end
def MD{w:NW}{z:Rz}(h:iz (w.pull f) r z):iz w (r.bL f) z:=by
 cases z with
 |nil=> obtain⟨e,sz,rfl⟩:=h;exact⟨e,sz,rfl⟩
 |«at» b t s=>
  obtain⟨h1,cur,h2,h3,h4⟩:=h;refine⟨h1.trans (r.jb f).symm,cur,by rw[Row.mK];exact h2,by rw[Row.ni];exact h3,fun i a v h5 h6=>?_⟩;rw[Row.gm,oo]at h5;cases hc:r.cells[i]? with
  |none=>rw[hc]at h5;cases h5
  |some c=>rw[hc]at h5;cases h5;exact FK (h4 i c v hc h6) w rfl
def JG{w:NW}{z:Rz}(h:iz w (r.bL f) z):iz (w.pull f) r z:=by
 cases z with
 |nil=>
  obtain⟨e,sz,h⟩:=h;cases r with
  |var t cs=>cases h
  |aE e' sz' css=>
   have h:Row.aE e' sz' (css.map (eJ f))=Row.aE e sz []:=h;cases css with
   |nil=>exact⟨e',sz',rfl⟩
   |cons c css=>cases h
  |mp ks vs=>cases h
 |«at» b t s=> obtain⟨h1,cur,h2,h3,h4⟩:=h;rw[Row.mK]at h2;rw[Row.ni]at h3;refine⟨h1.trans (r.jb f),cur,h2,h3,fun i a v h5 h6=>?_⟩;exact tK a v (h4 i (a.bL f) v (by rw[Row.gm,oo,h5];rfl) h6)
theorem ai.bL{P:PS}{fn:FuncId}{args:PH}{l:PG}{R:AV->List PU->Prop}{f g:Nat->Nat}(hf:∀i,g (f i)=i)(hc:ai P fn args l R) :
  ai P fn (eJ f args) (kv f l) fun r l'=>∃r0 l0,r=AV.bL f r0/\l'=kv f l0/\R r0 l0:=fun w vs hw hv=>by
 have inj:∀{i j},f i=f j->i=j:=fun{i j} e=>by rw[<-hf i,<-hf j,e]
 have hW:aH (w.pull f) (entry l):={
  ca:=hw.ca
  rows:=fun i r hi=>by
   have hi:ak l i=some r:=hi;obtain⟨h1,z,h2,h3⟩:=hw.rows (f i) (r.bL f) (by show ak (kv f l) (f i)=_;rw[ya hf,hi];rfl);refine⟨?_,z,by rw[Row.iT]at h2;exact h2,JG h3⟩;cases r with
   |var t cs=>trivial
   |aE e sz css=>exact⟨h1.1,fun cs Q4=>by have:=h1.2 (eJ f cs) (List.mem_map_of_mem Q4);rw[lA]at this;exact this⟩
   |mp ks vs=>have h1:ks.length=(eJ f vs).length:=h1;rw[lA]at h1;exact h1
  dr:=fun i m z h=>by obtain⟨r,h1,h2⟩:=hw.dr (f i) m z h;obtain⟨i',r0,e1,rfl,e3⟩:=wc hf h1;cases inj e1;exact⟨r0,e3,by rw[Row.iT]at h2;exact h2⟩
  inj:=fun i m j n b t s t' s' h1 h2=>inj (hw.inj _ _ _ _ _ _ _ _ _ h1 h2)
  own:=fun i m b t s h=>hw.own _ _ _ _ _ h
  fin:=hw.fin }
 have hV:aY (w.pull f) args vs:=⟨by have:=hv.1;rw[lA]at this;exact this,fun i a v h1 h2=>tK a v (hv.2 i _ v (by rw[oo,h1];rfl) h2)⟩;refine(hc (w.pull f) vs hW hV).mono ?_;rintro e W ⟨v,r,H',w',rfl,rfl,hR,h1,h2,h3⟩;have hp:=NW.nP hf w';refine⟨v,r.bL f,⟨H'.B.map f,kv f H'.l⟩,w'.push f g,rfl,rfl,⟨r,H'.l,rfl,rfl,hR⟩,?_,?_,?_⟩
 ·exact{
   ca:=h1.ca
   rows:=fun j r hj=>by obtain⟨i,r0,rfl,rfl,e3⟩:=wc hf hj;obtain⟨k1,z,k2,k3⟩:=h1.rows i r0 e3;refine⟨Row.sJ k1,z,?_,MD (w:=w'.push f g) (by rw[hp];exact k3)⟩;show(if f (g (f i))=f i then w'.nm (g (f i)) (r0.bL f).fK else none)=some z;rw[hf,if_pos rfl,Row.iT];exact k2
   dr:=fun j m z h=>by
    have h:(if f (g j)=j then w'.nm (g j) m else none)=some z:=h;split at h
    ·rename_i e;obtain⟨r0,k1,k2⟩:=h1.dr _ _ _ h;refine⟨r0.bL f,?_,by rw[Row.iT];exact k2⟩;show ak (kv f H'.l) j=_;rw[<-e,ya hf];have k1:ak H'.l (g j)=some r0:=k1;rw[k1];rfl
    ·cases h
   inj:=fun i m j n b t s t' s' k1 k2=>by
    have k1:(if f (g i)=i then w'.nm (g i) m else none)=some _:=k1;have k2:(if f (g j)=j then w'.nm (g j) n else none)=some _:=k2;split at k1
    ·rename_i e1;split at k2
     ·rename_i e2;have:=h1.inj _ _ _ _ _ _ _ _ _ k1 k2;rw[<-e1,<-e2,this]
     ·cases k2
    ·cases k1
   own:=fun i m b t s k=>by
    have k:(if f (g i)=i then w'.nm (g i) m else none)=some _:=k;split at k
    ·exact h1.own _ _ _ _ _ k
    ·cases k
   fin:=h1.fin }
 ·exact FK (w0:=w') h2 (w'.push f g) hp.symm
 ·exact{
   size:=h3.size
   free:=h3.free
   names:=fun j m z hj hz=>by have hj:(ids (kv f l)).contains j=true:=hj;rw[xb]at hj;obtain⟨i,hi,rfl⟩:=List.mem_map.1 (List.contains_iff_mem.1 hj);have:=h3.names i m z (List.contains_iff_mem.2 hi) hz;show(if f (g (f i))=f i then w'.nm (g (f i)) m else none)=some z;rw[hf,if_pos rfl];exact this
   os:=h3.os,tape:=h3.tape,output:=h3.output
   rest:=fun b hb hO Qb=>by
    obtain⟨k1,k2,k3⟩:=h3.rest b hb hO fun i m t s=>Qb (f i) m t s
    refine⟨k1,k2,fun j m t s h=>?_⟩;have h:(if f (g j)=j then w'.nm (g j) m else none)=some _:=h;split at h
    ·exact k3 _ _ _ _ h
    ·cases h
   base:=by show H'.B.map f=ids (kv f l);rw[xb];have:H'.B=ids l:=h3.base;rw[this] }
section
variable {P:PS}{f:FuncId}{args fs:PH}{H:Hp}{K:PE}{q:Prop}
def bm{l l0:PG}{r0:AV}(hc:ai P f (fs++args) l fun r l'=>r=r0/\l'=l0)(k:q)(h1:fits l H:=by exact db)(h0:bo P f=true:=by exact db)(h2:aS (fun i=>(ids l).contains i) (fs++args)=true:=by exact db)(h3:qU (fun i=>(ids l).contains i) l:=by exact db)
 (h4:fresh (ids l) H l0:=by exact db) (h5:(ids l0).Nodup:=by exact db) (e:K r0 ⟨H.B,fp H.l l0⟩=q:=by exact eu):fh P (.bd f fs) args H K:=.inl ⟨h0,by have:=vu hc h1 h2 h3 h4 h5 (e ▸ k:K r0 ⟨H.B,fp H.l l0⟩);simpa using this⟩
end
section
variable {P:PS}{H:Hp}
def xj(z:Value)(k:Nat):Builtin.zeroCells #[z] k=(List.replicate k z).toArray:=by
 apply Array.ext
 ·simp[Builtin.zeroCells]
 ·intro i h1 h2;simp[Builtin.zeroCells,Nat.mod_one]
def NT(w:NW)(z:Value):∀k,bR w (List.replicate k [AV.raw z]).flatten (List.replicate k z):=fun k=>by
 have:(List.replicate k [AV.raw z]).flatten=(List.replicate k z).map .raw:=by simp[List.flatten_replicate_singleton]
 rw[this];refine⟨jE,fun i a v ha hv=>?_⟩;rw[List.getElem?_map,hv]at ha;simp at ha;subst ha;exact .raw _
def L4{t t' e:PM}{d m n k:Nat}{z0:Value}{css:PF}{K:PE}(hu:P.underlying t=some (.slice e))(Vm:∃d,P.underlying t'=some (.int d))(P5:cR P e=some 1)(hz:dY P e=some [z0])(T5:z0.oneCell'=true)
  (hd:H.get d=some (.aE e 1 css)) (hm:m=css.length) (hn:n=css.length) (Q8:room (iN P e) (css.length+k)) (hk:K (.rs d (css.length+k) 1 (css.length+k)) (H.put d (.aE e 1 (css++List.replicate k [.raw z0])))):pj P t t' (.rs d m 1 n) (.raw (.int .i64 k)) H K:=by
 subst hm hn;intro w va vx ty hw T6 Ww;have:=cY Ww;subst this;obtain⟨dk,UJ⟩:=Vm;obtain⟨i,z,hi,QB,SY,Ut,U3⟩:=BJ P5 hz rfl;obtain⟨RZ,SM⟩:=Q8;rw[U3]at RZ;have TA:z.cells=#[z0]:=by unfold dY at hz;rw[hi]at hz;simp only[Option.bind_some,SY,Option.map_some,Option.some.injEq]at hz;rw[<-Array.toList_inj,hz]
 have Rp:∀need old,need<=grownCap w.toWorld need old e:=fun need old=>by unfold grownCap Question.cut;simp
 have Vx:∀m,(Builtin.zeroCells z.cells m).size=m*1:=fun m=>by rw[TA,xj];simp
 have hok:=(hw.rows d _ hd).1;have Qv:∀cs∈css++List.replicate k [AV.raw z0],cs.length=1:=fun cs h=>by
  rcases List.mem_append.1 h with h|h
  ·exact hok.2 cs h
  ·rw[List.eq_of_mem_replicate h];rfl
 have QD:=NT w z0 k;have Vy:IntKind.i64.wrap (k:Int)=k:=by
  have:IntKind.i64.wrap (k:Int)=(k:Int):=by unfold IntKind.wrap;simp[IntKind.bits,IntKind.signed];omega
  exact this
 have Ra:¬(281474976710656<(k:Int)*i.bytes):=by have:k*i.bytes<=(css.length+k)*i.bytes:=Nat.mul_le_mul_right _ jB;have h2:((k*i.bytes:Nat):Int)<=140737488355328:=jB;rw[Int.natCast_mul]at h2;omega
 have UK:¬((k:Int)<0):=jB;have Qe:(css++List.replicate k [AV.raw z0]).length=css.length+k:=jE;have Sq:=j7 hok.2;generalize U8:css.length=l at*;cases T6 with
 |ik _ _ _ A Qi=>
  obtain⟨_,z',Q7,Qj⟩:=hw.rows d _ hd;have:z'=.nil:=by have Q7:w.nm d css.length=some z':=Q7;rw[U8,Qi]at Q7;cases Q7;rfl
  subst this;obtain⟨e2,sz3,Qj⟩:=Qj;cases Qj;simp only[List.length_nil]at U8;by_cases PX:k=0
  ·subst PX;refine⟨w,_,_,.slice A 0 0,?_,hk,?_,.ik _ _ _ _ Qi,?_⟩
   ·have WJ:IntKind.i64.wrap 0=0:=Vy;cases A<;>simp[Builtin.append_,run_underlying hu,run_underlying UJ,sizeOf,typeInfo,hi,asInt,asIntOf,WJ,storeCells]
   ·refine{ hw with rows:=fun j r hj=>?_,dr:=fun j q z hz=>?_ }
    ·rw[Hp.aW]at hj;split at hj
     ·rename_i e;subst e;exact hw.rows j r (by rw[hd];exact hj)
     ·exact hw.rows j r hj
    ·rw[Hp.aW];split
     ·rename_i e;subst e;obtain⟨r,g1,g2⟩:=hw.dr j q z hz;rw[hd]at g1;cases g1;exact⟨_,rfl,g2⟩
     ·exact hw.dr j q z hz
   ·exact{ Ext.refl w H with base:=rfl }
  ·simp only[List.nil_append,Nat.zero_add]at hk Qv Qe RZ SM;obtain⟨w',e1,g1,g2,g3⟩:=sf (i:=d) (e:=e) (cap:=grownCap w.toWorld k 0 e) (css:=List.replicate k [AV.raw z0]) (rest:=Builtin.zeroCells z.cells (grownCap w.toWorld k 0 e-k)) hw jC Qv QD (by rw[Qe];exact Rp _ _) (by rw[Qe];exact Vx _) (hw.later hd (by show([]:PF).length<_;rw[Qe];simp;omega)) (fun r hr=>by rw[hd]at hr;cases hr;exact Nat.zero_le _);rw[Qe]at g3;refine⟨w',_,_,_,?_,by simpa using hk,g1,by simpa using g3,g2⟩;rw[e1];have QK:¬(k=0):=PX;have RY:¬(9223372036854775807<(k:Int)):=jB;have RA:¬(281474976710656<Builtin.nextslicecap k 0*i.bytes):=by rw[nextslicecap_zero jB];omega
   cases A<;>simp[Builtin.append_,run_underlying hu,run_underlying UJ,sizeOf,typeInfo,zeroValue,hi,SY,QB,asInt,asIntOf,Vy,Ra,RA,QK,RY,UK,Question.forced,newRow,grownCap,Builtin.firstCells,loadCells,loadCellsFrom,TA,xj]
 |rs _ _ _ _ b t' cap Qi Ta Qa RT=>
  obtain⟨_,z',Q7,Qj⟩:=hw.rows d _ hd;have:z'=.at b t' 1:=by have Q7:w.nm d css.length=some z':=Q7;rw[U8,Qi]at Q7;cases Q7;rfl
  subst this;obtain⟨_,cur,hh,⟨Q4,P7⟩,Ux⟩:=Qj;have hh:w.heap[b]?=some (.cells cur e (0,0)):=hh;have P7:css.flatten.length<=t':=P7;have R5:cM (List.replicate k [AV.raw z0]).flatten=true:=by
   have:(List.replicate k [AV.raw z0]).flatten=(List.replicate k z0).map .raw:=by simp[List.flatten_replicate_singleton]
   rw[this];simp[cM,AV.one,T5]
  have RE:(List.replicate k [AV.raw z0]).flatten.length=k:=jE;by_cases Qu:l+k<=cap
  ·obtain⟨w',D',g1,g2,g3⟩:=wx (P:=P) (off:=l) (r':=.aE e 1 (css++List.replicate k [.raw z0])) hw hd (by show w.nm d css.length=_;rw[U8];exact Qi) QD R5 (by rw[RE];omega) rfl rfl rfl rfl (by show css.length<=(css++_).length;simp) ⟨jC,Qv⟩ (by show(css++List.replicate k [AV.raw z0]).flatten.length<=t';rw[j7 Qv,Qe];omega) (fun p u hp=>by
     have hp:(css++List.replicate k [AV.raw z0]).flatten[p]?=some u:=hp;rw[List.flatten_append]at hp;show if _ then _ else css.flatten[p]?=some u
     rcases Nat.lt_or_ge p l with h|h
     ·rw[jN];rw[List.getElem?_append_left jB]at hp;exact hp
     ·rw[List.getElem?_append_right jB]at hp;have PW:=(List.getElem?_eq_some_iff.1 hp).1;rw[if_pos ⟨h,jB⟩];rw[<-hp];congr 1;omega)
   refine⟨w',_,_,.slice (some ⟨b,0,none⟩) (l+k) cap,?_,hk,g1,?_,g2⟩
   ·have TL:(⟨b,0,none⟩:Addr).add l=⟨b,l,none⟩:=by rw[kK];simp
    by_cases PX:k=0
    ·subst PX;have WJ:IntKind.i64.wrap 0=0:=Vy;have Vz:(storeCells ⟨b,l,none⟩ []).run P w.toWorld=.ok () w'.toWorld:=D';have Tk:l<=cap:=jB;simp[Builtin.append_,run_underlying hu,run_underlying UJ,sizeOf,typeInfo,hi,QB,asInt,asIntOf,WJ,Tk,TL,Vz]
    ·simp[Builtin.append_,run_underlying hu,run_underlying UJ,sizeOf,typeInfo,zeroValue,hi,SY,QB,asInt,asIntOf,Vy,Ra,UK,Qu,PX,TL,TA,xj,D']
   ·have g3:w'.nm d (css++List.replicate k [AV.raw z0]).length=some (.at b t' 1):=g3;rw[Qe]at g3;exact .rs d _ 1 _ b t' cap g3 Ta Qu jC
  ·have hold:bR w css.flatten (cur.toList.take l):=by
    refine⟨by simp only[List.length_take,Array.length_toList];omega,fun j a v T7 hv=>?_⟩;rw[List.getElem?_take]at hv;split at hv
    ·exact Ux j a v T7 (by simpa using hv)
    ·cases hv
   have Qm:=hold.append QD;rw[<-List.flatten_append]at Qm;obtain⟨w',e1,g1,g2,g3⟩:=sf (i:=d) (e:=e) (cap:=grownCap w.toWorld (l+k) cap e) (css:=css++List.replicate k [AV.raw z0]) (rest:=Builtin.zeroCells z.cells (grownCap w.toWorld (l+k) cap e-(l+k))) hw jC Qv Qm (by rw[Qe];exact Rp _ _) (by rw[Qe];exact Vx _) (hw.later hd (by show css.length<_;rw[Qe];omega)) (fun r hr=>by rw[hd]at hr;cases hr;show css.length<=_;rw[Qe];omega);rw[Qe]at g3;refine⟨w',_,_,_,?_,hk,g1,g3,g2⟩;rw[e1];have UL:(Builtin.firstCells 1 l (.slice (some ⟨b,0,none⟩) l cap)).run P w.drew=.ok (cur.toList.take l).toArray w.drew:=by
    refine run_firstCells_some (P:=P) w.drew 1 l ⟨b,0,none⟩ l cap _ (by simp only[List.length_take,Array.length_toList];omega) (fun j v h=>?_);rw[List.getElem?_take]at h;split at h
    ·rw[kK,tj (w:=w.drew) b _ cur e (0,0) hh,Nat.zero_add];simpa using h
    ·cases h
   have QK:¬(l+k<=cap):=Qu;have RY:¬(9223372036854775807<(l:Int)+(k:Int)):=jB;have hfits:=growslice_fits (bytes:=i.bytes) (old:=cap) (show cap<l+k from jB) RZ;have RA:¬(281474976710656<Builtin.nextslicecap (l+k) cap*i.bytes):=jB;have PX:¬(k=0):=jB;simp[Builtin.append_,run_underlying hu,run_underlying UJ,sizeOf,typeInfo,zeroValue,hi,SY,QB,asInt,asIntOf,Vy,Ra,RA,QK,RY,UK,PX,Question.forced,UL,newRow,grownCap,TA,xj];congr 2
   apply Array.ext';simp
end
abbrev sE:PL:=⟨#[]⟩
def vI(n:Int):aj:=⟨1,n,sE⟩
def vB(b:Bool):aj:=⟨2,if b=true then 1 else 0,sE⟩
def vT(s:PL):aj:=⟨3,0,s⟩
def vZ(t:Int):aj:=⟨t,0,sE⟩
def v0:aj:=⟨0,0,sE⟩
def oR(v:aj):Bool:=
 if v.ty=1 then decide (v.s=sE)
 else if v.ty=2 then decide (v.s=sE) && (decide (v.n=0) || decide (v.n=1))
 else if v.ty=3 then decide (v.n=0) && decide ((v.s.size:Int)<=40)
 else if v.ty=4 then decide (v.s=sE) && decide (0<=v.n)
 else false
def qH(sign:PL)(a b:Int):aj×Int:=
 if sign=(⟨#[43]⟩:PL)then(vI (IntKind.i64.wrap (a+b)),0)
 else if sign=(⟨#[45]⟩:PL)then(vI (IntKind.i64.wrap (a-b)),0)
 else if sign=(⟨#[42]⟩:PL)then(vI (IntKind.i64.wrap (a*b)),0)
 else if sign=(⟨#[47]⟩:PL)then(if b=0 then(v0,1)else(vI (IntKind.i64.wrap (a.tdiv b)),0))
 else if sign=(⟨#[37]⟩:PL)then(if b=0 then(v0,1)else(vI (a.tmod b),0))
 else if sign=(⟨#[60]⟩:PL)then(vB (decide (a<b)),0)
 else if sign=(⟨#[60,61]⟩:PL)then(vB (decide (a<=b)),0)
 else(v0,0)
def mz(sign:PL)(a b:aj):aj×Int:=
 if a.ty≠b.ty\/a.ty<1\/4<a.ty then(v0,0)
 else if sign=(⟨#[61,61]⟩:PL)then(vB (decide (a.n=b.n) && decide (a.s=b.s)),0)
 else if sign=(⟨#[33,61]⟩:PL)then(vB (!(decide (a.n=b.n) && decide (a.s=b.s))),0)
 else if a.ty=1 then qH sign a.n b.n
 else if a.ty=2 then(if sign=(⟨#[124,124]⟩:PL)then(vB (decide (a.n=1) || decide (b.n=1)),0)else if sign=(⟨#[38,38]⟩:PL)then(vB (decide (a.n=1) && decide (b.n=1)),0)else(v0,0))
 else if a.ty=3 then(if sign=(⟨#[43]⟩:PL)then(if(a.s.size:Int)+b.s.size>40 then(v0,6)else(vT (a.s++b.s),0))else(v0,0))
 else(v0,0)
def jV(sign:PL)(a:aj):aj:=
 if sign=(⟨#[45]⟩:PL)/\a.ty=1 then vI (IntKind.i64.wrap (-a.n))
 else if sign=(⟨#[33]⟩:PL)/\a.ty=2 then vB (!decide (a.n=1))
 else v0
def jg(n:Int):Bool:=decide (48<=n) && decide (n<=57)
def vm(n:Int):Bool:=(decide (97<=n) && decide (n<=122)) || (decide (65<=n) && decide (n<=90))
def vG(s:PL):Bool:=decide ((s.size:Int)<19) || (decide ((s.size:Int)=19) && (Op.bytesLess s.toList (⟨#[57,50,50,51,51,55,50,48,51,54,56,53,52,55,55,53,56,48,55]⟩:PL).toList || decide (s=(⟨#[57,50,50,51,51,55,50,48,51,54,56,53,52,55,55,53,56,48,55]⟩:PL))))
def ow(s:PL):Nat->Int
 |0=>1
 |k+1=>if dX s k=10 then ow s k+1 else ow s k
theorem Fu(s:PL):∀k,1<=ow s k/\ow s k<=k+1
 |0=>by simp[ow]
 |k+1=>by have:=Fu s k;unfold ow;split<;>omega
def fI:List PL:=[(⟨#[102,110]⟩:PL),(⟨#[108,101,116]⟩:PL),(⟨#[105,102]⟩:PL),(⟨#[101,108,115,101]⟩:PL),(⟨#[119,104,105,108,101]⟩:PL),(⟨#[114,101,116,117,114,110]⟩:PL),(⟨#[112,114,105,110,116]⟩:PL),(⟨#[105,110,112,117,116]⟩:PL),(⟨#[110,101,119]⟩:PL),(⟨#[108,101,110]⟩:PL),(⟨#[116,114,117,101]⟩:PL),(⟨#[102,97,108,115,101]⟩:PL),(⟨#[105,110,116]⟩:PL),(⟨#[98,111,111,108]⟩:PL),(⟨#[116,101,120,116]⟩:PL),(⟨#[108,105,115,116]⟩:PL)]
def KW:fI.length=16:=rfl
def uL(s:PL):Bool:=fI.any fun t=>decide (t=s)
-- the first one
theorem yi{α:Type}[Inhabited α]{p:α->Bool}:∀{l:List α} {k:Nat},(∀j,j<k->p (nth l j)=false)->k<l.length->p (nth l k)=true->l.find? p=some (nth l k)
 |[],k,_,h,_=>by simp at h
 |x::l,0,_,_,hp=>by have:p x=true:=hp;rw[List.find?_cons,this];rfl
 |x::l,k+1,h,hk,hp=>by have h0:p x=false:=h 0 jB;rw[List.find?_cons,h0];exact yi (fun j hj=>h (j+1) jB) (by simpa using hk) hp
variable{α:Type}
def Bp[Inhabited α]{p:α->Bool}{l:List α}(h:∀j,j<l.length->p (nth l j)=false):l.find? p=none:=by rw[List.find?_eq_none];intro x hx;obtain⟨j,hj,rfl⟩:=List.getElem_of_mem hx;have:=h j hj;rw[dT hj]at this;simp[this]
variable{k:Nat}
def At{n:Nat}(h:k<n):nth (List.range n) k=k:=by simp[nth,h]
-- bytes of which p holds
def oH(p:Int->Bool)(s:PL):Nat->Nat->Nat
 |0,i=>i
 |n+1,i=>if i<s.size/\p (dX s i)=true then oH p s n (i+1)else i
def gY(p:Int->Bool)(s:PL)(i:Nat):Nat:=oH p s (s.size+1) i
theorem Ez{p:Int->Bool}{s:PL}{k:Nat}(SN:¬(k<s.size/\p (dX s k)=true)):∀{n i:Nat},i<=k->k<n+i->(∀j,i<=j->j<k->j<s.size/\p (dX s j)=true)->oH p s n i=k
 |0,i,h1,h2,_=>by omega
 |n+1,i,h1,h2,h3=>by
  unfold oH;by_cases e:i=k
  ·subst e;rw[if_neg SN]
  ·rw[if_pos (h3 i jl jB)];exact Ez SN jB jB fun j hj=>h3 j jB
variable{p:Int->Bool}{s:PL}{i:Nat}
def xZ(SN:¬(k<s.size/\p (dX s k)=true))(h1:i<=k)(hk:k<=s.size)(h3:∀j,i<=j->j<k->p (dX s j)=true):gY p s i=k:=
 Ez SN h1 jB fun j hj Vs=>⟨jB,h3 j hj Vs⟩
theorem yj{p:Int->Bool}{s:PL}:∀{n i:Nat},i<=oH p s n i/\(i<=s.size->oH p s n i<=s.size)
 |0,i=>⟨Nat.le_refl _,id⟩
 |n+1,i=>by
  unfold oH;split
  ·have:=yj (p:=p) (s:=s) (n:=n) (i:=i+1);exact⟨jB,fun _=>this.2 jB⟩
  ·exact⟨Nat.le_refl _,id⟩
def uW(h:i<=s.size):i<=gY p s i/\gY p s i<=s.size:=⟨yj.1,yj.2 h⟩
def vN(h:i<s.size)(hp:p (dX s i)=true):i<gY p s i:=by unfold gY;unfold oH;rw[if_pos ⟨h,hp⟩];have:=(yj (p:=p) (s:=s) (n:=s.size) (i:=i+1)).1;omega
theorem Dm{p:Int->Bool}{s:PL}:∀{n i j:Nat},i<=j->j<oH p s n i->p (dX s j)=true
 |0,i,j,h1,h2=>by unfold oH at h2;omega
 |n+1,i,j,h1,h2=>by
  unfold oH at h2;split at h2
  ·rename_i h;by_cases e:j=i
   ·subst e;exact h.2
   ·exact Dm jB h2
  ·omega
-- jK between tokens
def xR(c:Int):Bool:=decide (c=32) || decide (c=9) || decide (c=13) || decide (c=10)
def xv(s:PL)(i:Nat):Bool:=decide (dX s i=47) && decide (i+1<s.size) && decide (dX s (i+1:Nat)=47)
def qX(c:Int):Bool:=decide (c≠10)
def lJ(s:PL)(i:Nat):Option Nat:=if i<s.size then(if xR (dX s i)=true then some (i+1)else if xv s i=true then some (gY qX s i)else none)else none
def mB(s:PL):Nat->Nat->Nat
 |0,i=>i
 |n+1,i=>match lJ s i with
  |some j=>mB s n j
  |none=>i
def yk(h:lJ s i=some j):i<j/\j<=s.size:=by
 unfold lJ at h;split at h
 ·rename_i hi;split at h
  ·cases h;omega
  ·split at h
   ·rename_i hc;cases h;have QW:qX (dX s i)=true:=by
     simp only[xv,Bool.and_eq_true,decide_eq_true_eq]at hc;simp[qX,hc.1.1]
    exact⟨vN hi QW,(uW jB).2⟩
   ·cases h
 ·cases h
theorem FA(s:PL):∀(n m i:Nat),s.size<n+i->s.size<m+i->mB s n i=mB s m i
 |0,0,i,_,_=>rfl
 |0,m+1,i,h,_=>by
  unfold mB;have:lJ s i=none:=by unfold lJ;rw[jN]
  rw[this]
 |n+1,0,i,_,h=>by
  unfold mB;have:lJ s i=none:=by unfold lJ;rw[jN]
  rw[this]
 |n+1,m+1,i,h1,h2=>by
  unfold mB;cases e:lJ s i with
  |none=>rfl
  |some j=> have:=yk e;exact FA s n m j jB jB
def nn(s:PL)(i:Nat):Nat:=mB s (s.size+1) i
def Ci(h:lJ s i=some j):nn s i=nn s j:=by have:=yk h;show mB s (s.size+1) i=mB s (s.size+1) j;rw[mB,h];exact FA s _ _ j jB jB
def Fa(h:lJ s i=none):nn s i=i:=by show mB s (s.size+1) i=i;rw[mB,h]
theorem yJ{s:PL}:∀{n i:Nat},i<=mB s n i/\(i<=s.size->mB s n i<=s.size)
 |0,i=>⟨Nat.le_refl _,id⟩
 |n+1,i=>by
  unfold mB;cases e:lJ s i with
  |none=>exact⟨Nat.le_refl _,id⟩
  |some j=> have h1:=yk e;have h2:=yJ (s:=s) (n:=n) (i:=j);exact⟨by simp only;omega,fun _=>h2.2 h1.2⟩
def uX(h:i<=s.size):i<=nn s i/\nn s i<=s.size:=⟨yJ.1,yJ.2 h⟩
-- tokens
def si(c:Int):Bool:=decide (32<=c) && decide (c<=126) && decide (c≠34)
def ny(s:PL)(a:Nat):PL×Int×Int:=
 let i:=gY si s (a+1)
 if i<s.size/\dX s i=34 then(if(i:Int)-a-1>12 then(⟨#[]⟩,a,4)else(s.extract (a+1) i,(i:Int)+1,0))else(⟨#[]⟩,a,11)
def iF:List PL:=[(⟨#[124,124]⟩:PL),(⟨#[38,38]⟩:PL),(⟨#[60,61]⟩:PL),(⟨#[61,61]⟩:PL),(⟨#[33,61]⟩:PL)]
def gS:PL:=(⟨#[40,41,123,125,91,93,44,59,61,60,43,45,42,47,37,33]⟩:PL)
def pz(s t:PL):Bool:=decide (2<=(s.size:Int)) && decide (s.extract 0 2=t)
def mI(s:PL):PL:=match iF.find? (pz s)with
 |some t=>t
 |none=>match (List.range 16).find? fun k:Nat=>decide (dX s 0=dX gS (k:Nat))with
  |some k=>gS.extract k (k+1)
  |none=>⟨#[]⟩
def oc(c:Int):Bool:=vm c || jg c || decide (c=95)
def N5{b:PL}(h:b.size=0):b=⟨#[]⟩:=by obtain⟨d⟩:=b;have:d=#[]:=Array.size_eq_zero_iff.1 h;rw[this]
def uE:bY:=⟨0,⟨#[]⟩,0⟩
def gF(s:PL)(a:Nat):bY×Int×Int:=
 if jg (dX s a)=true then
  (if vG (s.extract a (gY jg s a))=true then(⟨1,s.extract a (gY jg s a),a⟩,(gY jg s a:Nat),0)else(uE,a,12))
 else if vm (dX s a)=true then
  (if uL (s.extract a (gY oc s a))=true then(⟨4,s.extract a (gY oc s a),a⟩,(gY oc s a:Nat),0)
  else if((s.extract a (gY oc s a)).size:Int)>8 then(uE,a,13)else(⟨3,s.extract a (gY oc s a),a⟩,(gY oc s a:Nat),0))
 else if dX s a=34 then(⟨2,(ny s a).1,a⟩,(ny s a).2.1,(ny s a).2.2)
 else if mI (s.extract a s.size)=⟨#[]⟩then(uE,a,10)
 else(⟨5,mI (s.extract a s.size),a⟩,a+(mI (s.extract a s.size)).size,0)
def OG(s:PL):(mI s).size<=2:=by
 unfold mI;cases h:iF.find? (pz s)with
 |some t=> have hm:=List.mem_of_find?_eq_some h;have:∀t∈iF,t.size<=2:=jC;exact this t hm
 |none=>
  cases h2:(List.range 16).find? fun k:Nat=>decide (dX s 0=dX gS (k:Nat))with
  |some k=> simp only;rw[ByteArray.size_extract];omega
  |none=>decide
variable{t:PL}
def Ms(h:iF.find? (pz s)=some t):t.size=2/\2<=s.size:=by have hm:=List.mem_of_find?_eq_some h;have hp:=List.find?_some h;have:∀t∈iF,t.size=2:=jC;simp only[pz,Bool.and_eq_true,decide_eq_true_eq]at hp;exact⟨this t hm,jB⟩
def Mi(hs:0<s.size):(mI s).size<=s.size:=by
 unfold mI;cases h:iF.find? (pz s)with
 |some t=>have:=Ms h;simp only;omega
 |none=>
  cases h2:(List.range 16).find? fun k:Nat=>decide (dX s 0=dX gS (k:Nat))with
  |some k=> simp only;rw[ByteArray.size_extract];omega
  |none=>exact Nat.zero_le _
variable{a:Nat}
def xz(ha:a<s.size)(h:(gF s a).2.2=0):∃e:Nat,(gF s a).2.1=e/\a<e/\e<=s.size:=by
 unfold gF at h ⊢;split at h<;>rename_i h1
 ·rw[if_pos h1]at*;split at h<;>rename_i h2
  ·rw[if_pos h2];exact⟨_,rfl,vN ha h1,(uW jB).2⟩
  ·cases h
 ·rw[if_neg h1]at*;split at h<;>rename_i h2
  ·rw[if_pos h2];have hw:oc (dX s a)=true:=by simp[oc,h2]
   split at h<;>rename_i h3
   ·rw[if_pos h3];exact⟨_,rfl,vN ha hw,(uW jB).2⟩
   ·rw[if_neg h3];split at h<;>rename_i h4
    ·cases h
    ·rw[if_neg h4];exact⟨_,rfl,vN ha hw,(uW jB).2⟩
  ·rw[if_neg h2];split at h<;>rename_i h3
   ·rw[if_pos h3];have hb:=uW (p:=si) (s:=s) (i:=a+1) jB;simp only[ny]at h ⊢;split at h<;>rename_i h4
    ·rw[if_pos h4];split at h<;>rename_i h5
     ·cases h
     ·rw[if_neg h5];exact⟨gY si s (a+1)+1,jE,jB,jB⟩
    ·cases h
   ·rw[if_neg h3];split at h<;>rename_i h4
    ·cases h
    ·rw[if_neg h4];have P5:(s.extract a s.size).size=s.size-a:=by rw[ByteArray.size_extract];omega
     have Qa:=Mi (s:=s.extract a s.size) jB;have Q5:0<(mI (s.extract a s.size)).size:=by
      rcases Nat.eq_zero_or_pos (mI (s.extract a s.size)).size with e|e
      ·exact(h4 (N5 e)).elim
      ·exact e
     exact⟨a+(mI (s.extract a s.size)).size,jE,jB,jB⟩
def k8(s:PL):Nat->Nat->List bY->List bY×Int×Int
 |0,_,out=>(out,0,0)
 |n+1,i,out=>if i<s.size then
   (if(gF s i).2.2=0 then k8 s n (nn s (gF s i).2.1.toNat) (out++[(gF s i).1])else([],((i:Nat):Int),(gF s i).2.2))
  else(out++[⟨0,⟨#[]⟩,s.size⟩],0,0)
theorem CZ(s:PL):∀(n m i:Nat) (out:List bY),s.size<n+i->s.size<m+i->i<=s.size->k8 s n i out=k8 s m i out
 |0,_,i,_,h,_,h3=>by omega
 |_,0,i,_,_,h,h3=>jB
 |n+1,m+1,i,out,h1,h2,h3=>by
  unfold k8;split
  ·rename_i hi;split
   ·rename_i he;obtain⟨e,h4,h5,h6⟩:=xz hi he;rw[h4,Int.toNat_natCast];have:=uX (s:=s) (i:=e) h6;exact CZ s n m _ _ jB jB this.2
   ·rfl
  ·rfl
def uB(s:PL)(i:Nat)(out:List bY):List bY×Int×Int:=k8 s (s.size+1) i out
variable{out:List bY}
def KR(hi:i<s.size)(he:(gF s i).2.2=0):uB s i out=uB s (nn s (gF s i).2.1.toNat) (out++[(gF s i).1]):=by show k8 s (s.size+1) i out=k8 s (s.size+1) _ _;rw[k8,if_pos hi,if_pos he];obtain⟨e,h4,h5,h6⟩:=xz hi he;rw[h4,Int.toNat_natCast];have:=uX (s:=s) (i:=e) h6;exact CZ s _ _ _ _ jB jB this.2
def Il(hi:i<s.size)(he:(gF s i).2.2≠0):uB s i out=([],((i:Nat):Int),(gF s i).2.2):=by show k8 s (s.size+1) i out=_;rw[k8,if_pos hi,if_neg he]
def K6(hi:¬i<s.size):uB s i out=(out++[⟨0,⟨#[]⟩,s.size⟩],0,0):=by show k8 s (s.size+1) i out=_;rw[k8,if_neg hi]
def j5(s:PL):List bY×Int×Int:=if(s.size:Int)>600 then([],0,4)else uB s (nn s 0) []
structure Rd where
 src:ByteArray
 l:List bY
 i:Int
 nodes:List bg
 deep:Int
 e:Int
 at_:Int
 deriving Inhabited
namespace Rd
def tok(r:Rd):bY:=nth r.l r.i.toNat
def aC(r:Rd)(e:Int):Rd:=if r.e=0 then{ r with e:=e,at_:=r.tok.at_ }else r
def is(r:Rd)(t:PL):Bool:=decide (r.e=0) && (decide (r.tok.kind=5) || decide (r.tok.kind=4)) && decide (r.tok.text=t)
def kind(r:Rd)(k:Int):Bool:=decide (r.e=0) && decide (r.tok.kind=k)
def inc(r:Rd):Rd:={ r with i:=r.i+1 }
def ap(r:Rd)(t:PL):Rd:=if r.is t=true then r.inc else r.aC 20
def name(r:Rd):Rd×PL:=if r.kind 3=true then(r.inc,r.tok.text)else(r.aC 20,⟨#[]⟩)
def cu(r:Rd):Int:=ow r.src (min r.src.size r.tok.at_.toNat)
def node(r:Rd)(n:bg):Rd:={ r with nodes:=r.nodes++[n] }
def put(r:Rd)(k ln n:Int)(nm:PL)(L:PJ):Rd×Int:=(r.node ⟨k,ln,n,nm,L⟩,r.nodes.length)
def down(r:Rd):Rd:={ (if 16<=r.deep then r.aC 21 else r)with deep:=r.deep+1 }
def up(r:Rd):Rd:={ r with deep:=r.deep-1 }
end Rd
def mb(level:Int):List PL:=
 if level=0 then[(⟨#[124,124]⟩:PL)]else if level=1 then[(⟨#[38,38]⟩:PL)]else if level=2 then[(⟨#[60]⟩:PL),(⟨#[60,61]⟩:PL),(⟨#[61,61]⟩:PL),(⟨#[33,61]⟩:PL)]else if level=3 then[(⟨#[43]⟩:PL),(⟨#[45]⟩:PL)]else[(⟨#[42]⟩:PL),(⟨#[47]⟩:PL),(⟨#[37]⟩:PL)]
namespace Rd
section
variable (r:Rd)(e:Int)
@[go_sem] def Gn:(r.aC e).src=r.src:=by unfold aC;split<;>rfl
@[go_sem] def gk:(r.aC e).l=r.l:=by unfold aC;split<;>rfl
@[go_sem] def tP:(r.aC e).i=r.i:=by unfold aC;split<;>rfl
@[go_sem] def dh:(r.aC e).nodes=r.nodes:=by unfold aC;split<;>rfl
@[go_sem] def Mr:(r.aC e).deep=r.deep:=by unfold aC;split<;>rfl
end
section
variable (r:Rd)
@[go_sem] def j3T:(r.inc.src=r.src)/\(r.inc.l=r.l)/\(r.inc.i=r.i+1)/\(r.inc.nodes=r.nodes)/\(r.inc.deep=r.deep)/\(r.inc.e=r.e)/\(r.inc.at_=r.at_)/\(r.up.src=r.src)/\(r.up.l=r.l)/\(r.up.i=r.i)/\(r.up.nodes=r.nodes)/\(r.up.deep=r.deep-1)/\(r.up.e=r.e)/\(r.up.at_=r.at_):=by and_intros<;>(intros;rfl)
end
def next(r:Rd)(level:Int):PL:=match (mb level).find? (fun s=>r.is s)with
 |some s=>s
 |none=>⟨#[]⟩
def mU(r:Rd):bY:=nth r.l (r.i+1).toNat
def calls(r:Rd):Bool:=r.kind 3 && decide (r.mU.kind=5) && decide (r.mU.text=(⟨#[40]⟩:PL))
def word(r:Rd):PL:=if r.kind 4=true then r.tok.text else⟨#[]⟩
end Rd
def u9(s:PL):Nat->Int
 |0=>0
 |k+1=>u9 s k*10+(dX s k-48)
def oY(s:PL):Int:=u9 s s.size
mutual
def py:Nat->Rd->Rd×Int
 |0,r=>(r,0)
 |n+1,r=>
  if r.e≠0 then(r,0)
  else if r.tok.kind=1 then r.inc.put 1 r.cu (oY r.tok.text) ⟨#[]⟩ []
  else if r.tok.kind=2 then r.inc.put 3 r.cu 0 r.tok.text []
  else if r.tok.kind=3 then
   (if r.inc.is (⟨#[91]⟩:PL)=true then
    (((dw n 0 (r.inc.down.ap (⟨#[91]⟩:PL))).1.ap (⟨#[93]⟩:PL)).up).put 5 r.cu 0 r.tok.text [(dw n 0 (r.inc.down.ap (⟨#[91]⟩:PL))).2]
   else r.inc.put 4 r.cu 0 r.tok.text [])
  else if r.is (⟨#[116,114,117,101]⟩:PL)=true then r.inc.put 2 r.cu 1 ⟨#[]⟩ []
  else if r.is (⟨#[102,97,108,115,101]⟩:PL)=true then r.inc.put 2 r.cu 0 ⟨#[]⟩ []
  else if r.is (⟨#[108,101,110]⟩:PL)=true then
   (if r.inc.is (⟨#[40]⟩:PL)=true then
    (((dw n 0 (r.inc.down.ap (⟨#[40]⟩:PL))).1.ap (⟨#[41]⟩:PL)).up).put 6 r.cu 0 ⟨#[]⟩ [(dw n 0 (r.inc.down.ap (⟨#[40]⟩:PL))).2]
   else(r.inc.aC 20,0))
  else if r.is (⟨#[40]⟩:PL)=true then
   (((dw n 0 (r.down.ap (⟨#[40]⟩:PL))).1.ap (⟨#[41]⟩:PL)).up,(dw n 0 (r.down.ap (⟨#[40]⟩:PL))).2)
  else(r.aC 20,0)
def gO:Nat->Rd->Rd×Int
 |0,r=>(r,0)
 |n+1,r=>
  if r.is (⟨#[45]⟩:PL)=true then((gO n r.down.inc).1.up).put 7 r.cu 0 ⟨#[]⟩ [(gO n r.down.inc).2]
  else if r.is (⟨#[33]⟩:PL)=true then((gO n r.down.inc).1.up).put 8 r.cu 0 ⟨#[]⟩ [(gO n r.down.inc).2]
  else py n r
def dw:Nat->Nat->Rd->Rd×Int
 |0,_,r=>(r,0)
 |n+1,lv,r=>if lv=5 then gO n r else nQ n lv r.cu (dw n (lv+1) r)
def nQ:Nat->Nat->Int->Rd×Int->Rd×Int
 |0,_,_,p=>p
 |n+1,lv,ln,p=>
  if p.1.next lv=⟨#[]⟩then p
  else if lv=2 then((dw n (lv+1) p.1.inc).1).put 9 ln 0 (p.1.next lv) [p.2,(dw n (lv+1) p.1.inc).2]
  else nQ n lv ln (((dw n (lv+1) p.1.inc).1).put 9 ln 0 (p.1.next lv) [p.2,(dw n (lv+1) p.1.inc).2])
end
-- what is kept
def Rd.rem(r:Rd):Nat:=if r.e=0 then(r.l.length-r.i).toNat else 0
def Rd.dn(r:Rd):Int:=r.nodes.length+3*(r.l.length-r.i)+if r.e=0 then 1 else 0
def qq(s:PL):Prop:=0<s.size/\vG s=true/\∀j,j<s.size->jg (dX s j)=true
structure Rd.Inv(r:Rd):Prop where
 src:r.src.size<=1000
 pos:0<=r.i
 lt:r.i<r.l.length
 len:r.l.length<=2000
 num:∀k,k<r.l.length->(nth r.l k).kind=1->qq (nth r.l k).text
 tk:∀k,k<r.l.length->(nth r.l k).kind≠0->k+1<r.l.length
 od:0<=r.deep
 o3:r.deep<=17
 Oa:r.e=0->r.deep<=16
 dn:r.dn<=8000
structure Rd.St(r r':Rd):Prop where
 src:r'.src=r.src
 l:r'.l=r.l
 deep:r'.deep=r.deep
 i:r.i<=r'.i
 lt:r'.i<r.l.length
 dn:r'.dn<=r.dn
 err:r.e≠0->r'.e≠0
variable{r r':Rd}
def Rd.St.inv(s:Rd.St r r')(h:r.Inv):r'.Inv:=by
 obtain⟨s1,s2,s3,s4,s5,s6,s7⟩:=s;obtain⟨h1,h2,h3,h4,hn,h5,h6,h7,h8,h9⟩:=h;exact⟨by rw[s1];exact h1,jB,by rw[s2];exact s5,by rw[s2];exact h4,by rw[s2];exact hn,by rw[s2];exact h5,jB,jB,fun h=>by rw[s3];exact h8 (Classical.byContradiction fun e=>s7 e h),jB⟩
def Rd.St.refl(h:r.Inv):Rd.St r r:=⟨rfl,rfl,rfl,Int.le_refl _,h.lt,Int.le_refl _,id⟩
theorem Rd.St.trans{a b c:Rd}(h:Rd.St a b)(k:Rd.St b c):Rd.St a c:=
 ⟨k.src.trans h.src,k.l.trans h.l,k.deep.trans h.deep,Int.le_trans h.i k.i,by have:=k.lt;rw[h.l]at this;exact this,Int.le_trans k.dn h.dn,fun e=>k.err (h.err e)⟩
theorem Rd.St.rem{r r':Rd}(s:Rd.St r r'):r'.rem<=r.rem:=by
 unfold Rd.rem;have h1:=s.i;have h2:=s.l;by_cases e:r.e=0
 ·rw[if_pos e,h2];split<;>omega
 ·rw[if_neg e,if_neg (s.err e)];exact Nat.le_refl _
def Rd.behind(h:r.Inv)(hk:r.tok.kind≠0):r.i+1<r.l.length:=by have:=h.tk r.i.toNat (by have:=h.lt;have:=h.pos;omega) hk;have:=h.pos;omega
def Rd.aR(h:r.is t=true):r.e=0/\r.tok.kind≠0:=by simp only[Rd.is,Bool.and_eq_true,Bool.or_eq_true,decide_eq_true_eq]at h;exact⟨h.1.1,by rcases h.1.2 with h|h<;>omega⟩
def Rd.di{k:Int}(h:r.kind k=true)(h0:k≠0):r.e=0/\r.tok.kind≠0:=by simp only[Rd.kind,Bool.and_eq_true,decide_eq_true_eq]at h;exact⟨h.1,jB⟩
def Rd.fA(h:r.Inv)(e:Int)(he:e≠0):Rd.St r (r.aC e):=by
 refine⟨Gn _ _,gk _ _,Mr _ _,by rw[tP];exact Int.le_refl _,by rw[tP];exact h.lt,?_,fun h1=>by unfold aC;rw[if_neg h1];exact h1⟩;unfold Rd.dn;rw[dh,gk,tP];by_cases e0:r.e=0
 ·have:(r.aC e).e=e:=by unfold aC;rw[if_pos e0]
  rw[this,if_pos e0,if_neg he];omega
 ·have:(r.aC e).e=r.e:=by unfold aC;rw[if_neg e0]
  rw[this];omega
def Rd.bk(h:r.Inv)(hk:r.tok.kind≠0):Rd.St r r.inc/\r.inc.dn=r.dn-3:=by
 have:=Rd.behind h hk;have e:r.inc.dn=r.dn-3:=by simp only[Rd.dn,Rd.inc];omega
 exact⟨⟨rfl,rfl,rfl,by simp only[Rd.inc];omega,by simp only[Rd.inc];omega,jB,id⟩,e⟩
def Rd.aI(h:r.Inv)(t:PL):Rd.St r (r.ap t):=by
 unfold Rd.ap;split
 ·rename_i hs;exact(Rd.bk h (Rd.aR hs).2).1
 ·exact Rd.fA h 20 jC
def Rd.cS(h:r.Inv):Rd.St r r.name.1:=by
 unfold Rd.name;split
 ·rename_i hs;exact(Rd.bk h (Rd.di hs jC).2).1
 ·exact Rd.fA h 20 jC
def Rd.ll(r:Rd)(n:bg):(r.node n).dn=r.dn+1:=by simp only[Rd.dn,Rd.node,List.length_append,List.length_cons,List.length_nil];omega
def Rd.cF(s:Rd.St r r')(hp:r'.dn+1<=r.dn)(k ln n:Int)(nm:PL)(L:PJ):Rd.St r (r'.put k ln n nm L).1:=
 ⟨s.src,s.l,s.deep,s.i,s.lt,by show(r'.node _).dn<=_;rw[Rd.ll];exact hp,s.err⟩
def Rd.tq:r.down.e=(if 16<=r.deep then r.aC 21 else r).e:=rfl
def Rd.bC(h:r.Inv)(he:r.e=0):r.down.Inv/\r.down.dn<=r.dn/\r.down.i=r.i/\r.down.l=r.l/\r.down.src=r.src/\r.down.deep=r.deep+1:=by
 have hd:=h.Oa he;have hi:r.down.i=r.i:=by unfold Rd.down;split<;>simp[tP]
 have hl:r.down.l=r.l:=by unfold Rd.down;split<;>simp[gk]
 have hs:r.down.src=r.src:=by unfold Rd.down;split<;>simp[Gn]
 have hn:r.down.nodes=r.nodes:=by unfold Rd.down;split<;>simp[dh]
 have Yq:r.down.deep=r.deep+1:=rfl;have We:r.down.e=0->r.deep<16:=fun e=>by
  rw[Rd.tq]at e;split at e
  ·unfold aC at e;rw[if_pos he]at e;cases e
  ·omega
 have hp:r.down.dn<=r.dn:=by unfold Rd.dn;rw[hn,hl,hi,if_pos he];split<;>omega
 refine⟨⟨by rw[hs];exact h.src,by rw[hi];exact h.pos,by rw[hi,hl];exact h.lt,by rw[hl];exact h.len,by rw[hl];exact h.num,by rw[hl];exact h.tk,by have:=h.od;omega,jB,fun e=>by have:=We e;omega,by have:=h.dn;omega⟩,hp,hi,hl,hs,Yq⟩
def Rd.fk(h:r.Inv)(he:r.e=0)(s:Rd.St r.down r'):Rd.St r r'.up:=by obtain⟨_,h1,h2,h3,h4,h5⟩:=Rd.bC h he;exact⟨s.src.trans h4,s.l.trans h3,by show r'.deep-1=_;rw[s.deep,h5];omega,by show r.i<=r'.i;rw[<-h2];exact s.i,by show r'.i<_;rw[<-h3];exact s.lt,by show r'.dn<=_;have:=s.dn;omega,fun e=>(e he).elim⟩
def Rd.kP{lv:Int}(h:r.next lv≠⟨#[]⟩):r.is (r.next lv)=true:=by
 unfold Rd.next at h ⊢;cases e:(mb lv).find? (fun s=>r.is s)with
 |none=>rw[e]at h;exact(h rfl).elim
 |some s=>exact List.find?_some e
def Rd.cI(h:r.Inv)(hk:r.e=0/\r.tok.kind≠0):r.inc.rem+1<=r.rem:=by have:=Rd.behind h hk.2;unfold Rd.rem;rw[if_pos hk.1,if_pos (show r.inc.e=0 from hk.1)];have:r.inc.i=r.i+1:=rfl;have:r.inc.l=r.l:=rfl;simp only[*];omega
theorem rY:∀n,(∀r:Rd,r.Inv->Rd.St r (py n r).1)/\(∀r:Rd,r.Inv->Rd.St r (gO n r).1)/\(∀lv (r:Rd),r.Inv->Rd.St r (dw n lv r).1)/\(∀lv ln (p:Rd×Int),p.1.Inv->Rd.St p.1 (nQ n lv ln p).1)
 |0=>⟨fun r h=>by unfold py;exact .refl h,fun r h=>by unfold gO;exact .refl h,fun lv r h=>by unfold dw;exact .refl h,fun lv ln p h=>by unfold nQ;exact .refl h⟩
 |n+1=>by
  obtain⟨ia,lN,ic,il⟩:=rY n
  -- a token, and what is behind it, bM
  have bM:∀(r:Rd) (t u:PL),r.Inv->r.e=0->Rd.St r ((dw n 0 (r.down.ap t)).1.ap u).up:=fun r t u h he=>by have h1:=(Rd.bC h he).1;have s1:=Rd.aI h1 t;have s2:=ic 0 _ (s1.inv h1);have s12:=s1.trans s2;have s3:=Rd.aI (s12.inv h1) u;exact Rd.fk h he (s12.trans s3)
  refine⟨fun r h=>?_,fun r h=>?_,fun lv r h=>?_,fun lv ln p h=>?_⟩
  ·unfold py;split
   ·exact .refl h
   rename_i he;have he:r.e=0:=jB;split
   ·rename_i hk;obtain⟨s1,e1⟩:=Rd.bk h jB;exact Rd.cF s1 jB _ _ _ _ _
   split
   ·rename_i hk;obtain⟨s1,e1⟩:=Rd.bk h jB;exact Rd.cF s1 jB _ _ _ _ _
   split
   ·rename_i hk;obtain⟨s1,e1⟩:=Rd.bk h jB;split
    ·have s2:=bM r.inc (⟨#[91]⟩:PL) (⟨#[93]⟩:PL) (s1.inv h) he;exact Rd.cF (s1.trans s2) (by have:=s2.dn;omega) _ _ _ _ _
    ·exact Rd.cF s1 jB _ _ _ _ _
   split
   ·rename_i hs;obtain⟨s1,e1⟩:=Rd.bk h (Rd.aR hs).2;exact Rd.cF s1 jB _ _ _ _ _
   split
   ·rename_i hs;obtain⟨s1,e1⟩:=Rd.bk h (Rd.aR hs).2;exact Rd.cF s1 jB _ _ _ _ _
   split
   ·rename_i hs;obtain⟨s1,e1⟩:=Rd.bk h (Rd.aR hs).2;split
    ·have s2:=bM r.inc (⟨#[40]⟩:PL) (⟨#[41]⟩:PL) (s1.inv h) he;exact Rd.cF (s1.trans s2) (by have:=s2.dn;omega) _ _ _ _ _
    ·exact s1.trans (Rd.fA (s1.inv h) 20 jC)
   split
   ·exact bM r (⟨#[40]⟩:PL) (⟨#[41]⟩:PL) h he
   ·exact Rd.fA h 20 jC
  ·unfold gO;have sg:∀t,r.is t=true->∀k ln nm,Rd.St r (((gO n r.down.inc).1.up).put k ln 0 nm [(gO n r.down.inc).2]).1:=fun t ht k ln nm=>by
    obtain⟨he,hk⟩:=Rd.aR ht;obtain⟨h1,h2,h3,h4,_⟩:=Rd.bC h he;have SE:r.down.tok=r.tok:=by unfold Rd.tok;rw[h3,h4]
    obtain⟨s1,e1⟩:=Rd.bk h1 (by rw[SE];exact hk);have s2:=lN _ (s1.inv h1);exact Rd.cF (Rd.fk h he (s1.trans s2)) (by have:=s2.dn;show(gO n r.down.inc).1.dn+1<=_;omega) _ _ _ _ _
   split
   ·rename_i ht;exact sg _ ht _ _ _
   split
   ·rename_i ht;exact sg _ ht _ _ _
   ·exact ia r h
  ·unfold dw;split
   ·exact lN r h
   ·have s1:=ic (lv+1) r h;exact s1.trans (il _ _ _ (s1.inv h))
  ·unfold nQ;split
   ·exact .refl h
   rename_i hn;obtain⟨s1,e1⟩:=Rd.bk h (Rd.aR (Rd.kP hn)).2;have s2:=ic (lv+1) _ (s1.inv h);have s3:=fun L=>Rd.cF (s1.trans s2) (by have:=s2.dn;omega) 9 ln 0 (p.1.next lv) L
   split
   ·exact s3 _
   ·exact(s3 _).trans (il _ _ _ ((s3 _).inv h))
def cH(r:Rd):Rd×Int:=dw (8*r.rem+8) 0 r
def mh:Nat->Bool->Rd->PJ->Rd×PJ
 |0,_,r,L=>(r,L)
 |_+1,false,r,L=>(r,L)
 |n+1,true,r,L=>if(cH r).1.is (⟨#[44]⟩:PL)=true then mh n true (cH r).1.inc (L++[(cH r).2])else((cH r).1,L++[(cH r).2])
def more(r:Rd):Bool:=!(r.is (⟨#[41]⟩:PL)) && decide (r.e=0)
def oa(r:Rd):Rd:=r.name.1.ap (⟨#[40]⟩:PL)
def mL(r:Rd):Rd×PJ:=mh ((oa r).rem+2) (more (oa r)) (oa r) []
def l4(r:Rd):Rd×Int:=((mL r).1.ap (⟨#[41]⟩:PL)).put 21 r.cu 0 r.name.2 (mL r).2
def kY(r:Rd):Rd×Int:=
 if r.is (⟨#[105,110,112,117,116]⟩:PL)=true then r.inc.put 19 r.cu 0 ⟨#[]⟩ []
 else if r.is (⟨#[110,101,119]⟩:PL)=true then((cH (r.inc.ap (⟨#[40]⟩:PL))).1.ap (⟨#[41]⟩:PL)).put 20 r.cu 0 ⟨#[]⟩ [(cH (r.inc.ap (⟨#[40]⟩:PL))).2]
 else if r.calls=true then l4 r else cH r
def nX(r:Rd):Rd×Int:=cH (r.down.ap (⟨#[91]⟩:PL))
def uy(r:Rd):Rd×Int:=cH (((nX r).1.ap (⟨#[93]⟩:PL)).up.ap (⟨#[61]⟩:PL))
def oE(r:Rd)(ln:Int):Rd×Int:=
 if r.calls=true then((l4 r).1.ap (⟨#[59]⟩:PL)).put 13 ln 0 ⟨#[]⟩ [(l4 r).2]
 else if r.name.1.is (⟨#[91]⟩:PL)=true then((uy r.name.1).1.ap (⟨#[59]⟩:PL)).put 12 ln 0 r.name.2 [(nX r.name.1).2,(uy r.name.1).2]
 else((kY (r.name.1.ap (⟨#[61]⟩:PL))).1.ap (⟨#[59]⟩:PL)).put 11 ln 0 r.name.2 [(kY (r.name.1.ap (⟨#[61]⟩:PL))).2]
mutual
def fM:Nat->Rd->Rd×Int
 |0,r=>(r,0)
 |n+1,r=>
  if r.is (⟨#[123]⟩:PL)=true then((lQ n (r.down.ap (⟨#[123]⟩:PL)) []).1.ap (⟨#[125]⟩:PL)).up.put 18 r.cu 0 ⟨#[]⟩ (lQ n (r.down.ap (⟨#[123]⟩:PL)) []).2
  else(r.aC 20,0)
def lQ:Nat->Rd->PJ->Rd×PJ
 |0,r,L=>(r,L)
 |n+1,r,L=>if r.e=0/\r.is (⟨#[125]⟩:PL)=false then lQ n (na n r).1 (L++[(na n r).2])else(r,L)
def na:Nat->Rd->Rd×Int
 |0,r=>(r,0)
 |n+1,r=>
  if r.word=(⟨#[108,101,116]⟩:PL)then((kY (r.inc.name.1.ap (⟨#[61]⟩:PL))).1.ap (⟨#[59]⟩:PL)).put 10 r.cu 0 r.inc.name.2 [(kY (r.inc.name.1.ap (⟨#[61]⟩:PL))).2]
  else if r.word=(⟨#[112,114,105,110,116]⟩:PL)then((cH r.inc).1.ap (⟨#[59]⟩:PL)).put 14 r.cu 0 ⟨#[]⟩ [(cH r.inc).2]
  else if r.word=(⟨#[119,104,105,108,101]⟩:PL)then(fM n (cH r.inc).1).1.put 16 r.cu 0 ⟨#[]⟩ [(cH r.inc).2,(fM n (cH r.inc).1).2]
  else if r.word=(⟨#[105,102]⟩:PL)then
   (if(fM n (cH r.inc).1).1.is (⟨#[101,108,115,101]⟩:PL)=true then(fM n (fM n (cH r.inc).1).1.inc).1.put 15 r.cu 0 ⟨#[]⟩ [(cH r.inc).2,(fM n (cH r.inc).1).2,(fM n (fM n (cH r.inc).1).1.inc).2]
   else(fM n (cH r.inc).1).1.put 15 r.cu 0 ⟨#[]⟩ [(cH r.inc).2,(fM n (cH r.inc).1).2])
  else if r.word=(⟨#[114,101,116,117,114,110]⟩:PL)then
   (if r.inc.is (⟨#[59]⟩:PL)=true then(r.inc.ap (⟨#[59]⟩:PL)).put 17 r.cu 0 ⟨#[]⟩ []
   else((cH r.inc).1.ap (⟨#[59]⟩:PL)).put 17 r.cu 0 ⟨#[]⟩ [(cH r.inc).2])
  else oE r r.cu
end
def nE(r:Rd):Rd×Int:=fM (4*r.rem+4) r
def rc(w:PL):Int:=if w=(⟨#[105,110,116]⟩:PL)then 1 else if w=(⟨#[98,111,111,108]⟩:PL)then 2 else if w=(⟨#[116,101,120,116]⟩:PL)then 3 else if w=(⟨#[108,105,115,116]⟩:PL)then 4 else 0
def io(r:Rd):Rd×Int:=if rc r.word=0 then(r.aC 20,0)else(r.inc,rc r.word)
def oF(r:Rd):Rd:=(io r.name.1).1
def lP:Nat->Bool->Rd->List ce->Rd×List ce
 |0,_,r,L=>(r,L)
 |_+1,false,r,L=>(r,L)
 |n+1,true,r,L=>if(oF r).is (⟨#[44]⟩:PL)=true then lP n true (oF r).inc (L++[⟨r.name.2,(io r.name.1).2⟩])else(oF r,L++[⟨r.name.2,(io r.name.1).2⟩])
def my(r:Rd):Rd:=(r.ap (⟨#[102,110]⟩:PL)).name.1.ap (⟨#[40]⟩:PL)
def rM(r:Rd):Rd×List ce:=lP ((my r).rem+2) (more (my r)) (my r) []
def kU(r:Rd):Rd:=(rM r).1.ap (⟨#[41]⟩:PL)
def lp(r:Rd):Rd×Int:=if(kU r).is (⟨#[123]⟩:PL)=true then(kU r,0)else io (kU r)
def lS(r:Rd):Rd×aU:=((nE (lp r).1).1,⟨(r.ap (⟨#[102,110]⟩:PL)).name.2,r.cu,(rM r).2,(lp r).2,(nE (lp r).1).2⟩)
def pI:Nat->Rd->List aU->Rd×List aU
 |0,r,L=>(r,L)
 |n+1,r,L=>if r.e=0/\r.kind 0=false then pI n (lS r).1 (L++[(lS r).2])else(r,L)
def nJ(s:PL):Rd:=⟨s,(j5 s).1,0,[],0,0,0⟩
def mF(s:PL):Rd×List aU:=pI ((nJ s).rem+1) (nJ s) []
def sQ(t:List bg)(L:List aU):Bool:=decide (300<t.length) || decide (6<L.length) || L.any fun f=>decide (3<f.params.length)
def gz(s:PL):aF×Int×Int:=
 if(j5 s).2.2≠0 then(⟨[],[]⟩,(j5 s).2.1,(j5 s).2.2)
 else if(mF s).1.e≠0 then(⟨[],[]⟩,(mF s).1.at_,(mF s).1.e)
 else if sQ (mF s).1.nodes (mF s).2=true then(⟨[],[]⟩,0,4)
 else(⟨(mF s).1.nodes,(mF s).2⟩,0,0)
-- what is kept
def Rd.St.tE(s:Rd.St r r')(h:r.Inv)(he:r.e=0)(hi:r.i+1<=r'.i):r'.rem+1<=r.rem:=by have h1:=s.l;have h2:=s.lt;have h3:=h.pos;unfold Rd.rem;rw[if_pos he,h1];split<;>omega
def Rd.St.kQ(h:r.Inv)(he:r.e=0)(hi:r'.e≠0):r'.rem+1<=r.rem:=by have h2:=h.lt;have h3:=h.pos;unfold Rd.rem;rw[if_pos he,if_neg hi];omega
def Rd.gl{e:Int}(he:e≠0):(r.aC e).e≠0:=by
 unfold Rd.aC;split
 ·exact he
 ·assumption
def Rd.mX(h:r.Inv)(he:r.e=0)(t:PL):(r.ap t).rem+1<=r.rem/\(r.ap t).dn+1<=r.dn:=by
 unfold Rd.ap;split
 ·rename_i hs;have hk:=Rd.aR hs;exact⟨Rd.cI h hk,by rw[(Rd.bk h hk.2).2];omega⟩
 ·have T4:=Rd.gl (r:=r) (e:=20) jC;refine⟨Rd.St.kQ h he T4,?_⟩;unfold Rd.dn;rw[dh,gk,tP,if_pos he,if_neg T4];omega
def Rd.qh(h:r.Inv)(he:r.e=0):r.name.1.rem+1<=r.rem/\r.name.1.dn+1<=r.dn:=by
 unfold Rd.name;split
 ·rename_i hs;have hk:=Rd.di hs jC;exact⟨Rd.cI h hk,by show r.inc.dn+1<=_;rw[(Rd.bk h hk.2).2];omega⟩
 ·have T4:=Rd.gl (r:=r) (e:=20) jC;refine⟨Rd.St.kQ h he T4,?_⟩;show(r.aC 20).dn+1<=_;unfold Rd.dn;rw[dh,gk,tP,if_pos he,if_neg T4];omega
def Rd.gu(h:r.Inv)(ht:r.is t=true):(r.down.ap t).rem+1<=r.rem/\(r.down.ap t).dn+1<=r.dn:=by
 obtain⟨he,hk⟩:=Rd.aR ht;obtain⟨h1,h2,h3,h4,h5,h6⟩:=Rd.bC h he;by_cases e:r.down.e=0
 ·obtain⟨a,b⟩:=Rd.mX h1 e t;have:r.down.rem<=r.rem:=by
   unfold Rd.rem;rw[if_pos he,if_pos e,h3,h4];exact Nat.le_refl _
  omega
 ·have hs:=Rd.aI h1 t;have e2:(r.down.ap t).e≠0:=hs.err e;refine⟨Rd.St.kQ h he e2,?_⟩;have:r.down.dn+1<=r.dn:=by
   have hn:r.down.nodes=r.nodes:=by unfold Rd.down;split<;>simp[dh]
   unfold Rd.dn;rw[hn,h4,h3,if_pos he,if_neg e];omega
  have:=hs.dn;omega
def jn(h:r.Inv):Rd.St r (cH r).1:=(rY _).2.2.1 0 r h
theorem yV:∀(n:Nat) (b:Bool) (r:Rd) (L:PJ),r.Inv->Rd.St r (mh n b r L).1
 |0,_,r,L,h=>by unfold mh;exact .refl h
 |n+1,false,r,L,h=>by unfold mh;exact .refl h
 |n+1,true,r,L,h=>by
  have s1:=jn h;have h1:=s1.inv h;unfold mh;split
  ·rename_i hs;have s2:=(Rd.bk h1 (Rd.aR hs).2).1;exact(s1.trans s2).trans (yV n _ _ _ (s2.inv h1))
  ·exact s1
def xw(h:r.Inv):Rd.St r (oa r):=(Rd.cS h).trans (Rd.aI ((Rd.cS h).inv h) _)
def Bb(h:r.Inv):Rd.St r (mL r).1:=(xw h).trans (yV _ _ _ _ ((xw h).inv h))
def Lw(h:r.Inv):Rd.St r ((mL r).1.ap (⟨#[41]⟩:PL)):=(Bb h).trans (Rd.aI ((Bb h).inv h) _)
def Rd.js(h:r.calls=true):r.kind 3=true:=by unfold Rd.calls at h;simp only[Bool.and_eq_true]at h;exact h.1.1
def zM(h:r.Inv)(hc:r.calls=true):Rd.St r (l4 r).1/\(l4 r).1.dn+2<=r.dn/\(l4 r).1.rem+1<=r.rem:=by
 have hk:=Rd.di (Rd.js hc) jC;have hn:r.name.1=r.inc:=by unfold Rd.name;rw[if_pos (Rd.js hc)]
 obtain⟨s1,e1⟩:=Rd.bk h hk.2;have h1:=s1.inv h;have s2:Rd.St r.inc ((mL r).1.ap (⟨#[41]⟩:PL)):=by
  have a1:Rd.St r.inc (oa r):=by unfold oa;rw[hn];exact Rd.aI h1 _
  have a2:Rd.St r.inc (mL r).1:=a1.trans (yV _ _ _ _ (a1.inv h1));exact a2.trans (Rd.aI (a2.inv h1) _)
 have hp:=s2.dn;have s3:=Rd.cF (s1.trans s2) jB 21 r.cu 0 r.name.2 (mL r).2;refine⟨s3,?_,?_⟩
 ·show(((mL r).1.ap (⟨#[41]⟩:PL)).node _).dn+2<=_;rw[Rd.ll];omega
 ·refine s3.tE h hk.1 ?_;have:=s2.i;exact this
def wY(h:r.Inv):Rd.St r (kY r).1:=by
 unfold kY;split
 ·rename_i hs;obtain⟨s1,e1⟩:=Rd.bk h (Rd.aR hs).2;exact Rd.cF s1 jB _ _ _ _ _
 split
 ·rename_i hs;obtain⟨s1,e1⟩:=Rd.bk h (Rd.aR hs).2;have h1:=s1.inv h;have s2:=Rd.aI h1 (⟨#[40]⟩:PL);have s3:=jn (s2.inv h1);have s23:=s2.trans s3;have s4:=s23.trans (Rd.aI (s23.inv h1) (⟨#[41]⟩:PL));exact Rd.cF (s1.trans s4) (by have:=s4.dn;omega) _ _ _ _ _
 split
 ·rename_i hc;exact(zM h hc).1
 ·exact jn h
def Br(h:r.Inv)(hs:r.is (⟨#[91]⟩:PL)=true):Rd.St r.down (nX r).1/\Rd.St r ((nX r).1.ap (⟨#[93]⟩:PL)).up:=by have he:=(Rd.aR hs).1;have h1:=(Rd.bC h he).1;have s1:=Rd.aI h1 (⟨#[91]⟩:PL);have s2:=s1.trans (jn (s1.inv h1));exact⟨s2,Rd.fk h he (s2.trans (Rd.aI (s2.inv h1) _))⟩
def yw(h:r.Inv)(hs:r.is (⟨#[91]⟩:PL)=true):Rd.St r (((nX r).1.ap (⟨#[93]⟩:PL)).up.ap (⟨#[61]⟩:PL))/\Rd.St r (uy r).1:=by have s1:=(Br h hs).2;have s2:=s1.trans (Rd.aI (s1.inv h) (⟨#[61]⟩:PL));exact⟨s2,s2.trans (jn (s2.inv h))⟩
def Ng(h:r.Inv)(he:r.e=0)(ln:Int):Rd.St r (oE r ln).1/\(oE r ln).1.rem+1<=r.rem:=by
 unfold oE;have s0:=Rd.cS h;have h0:=s0.inv h;obtain⟨n1,n2⟩:=Rd.qh h he
 -- a name, and what is behind it
 have fin:∀(q:Rd) k L,Rd.St r.name.1 q->Rd.St r (q.put k ln 0 r.name.2 L).1/\(q.put k ln 0 r.name.2 L).1.rem+1<=r.rem:=fun q k L s=>by refine⟨Rd.cF (s0.trans s) (by have:=s.dn;omega) _ _ _ _ _,?_⟩;have:=s.rem;show q.rem+1<=_;omega
 split
 ·rename_i hc;obtain⟨s1,p1,r1⟩:=zM h hc;have s2:=Rd.aI (s1.inv h) (⟨#[59]⟩:PL);refine⟨Rd.cF (s1.trans s2) (by have:=s2.dn;omega) _ _ _ _ _,?_⟩;have:=s2.rem;show((l4 r).1.ap (⟨#[59]⟩:PL)).rem+1<=_;omega
 split
 ·rename_i hs;have s1:=(yw h0 hs).2;exact fin _ _ _ (s1.trans (Rd.aI (s1.inv h0) _))
 ·have s1:=Rd.aI h0 (⟨#[61]⟩:PL);have s2:=s1.trans (wY (s1.inv h0));exact fin _ _ _ (s2.trans (Rd.aI (s2.inv h0) _))
def Rd.gh{w:PL}(h:r.word=w)(h0:w≠⟨#[]⟩):r.kind 4=true:=by
 unfold Rd.word at h;split at h
 ·assumption
 ·exact absurd h.symm h0
theorem rA:∀n,(∀r:Rd,r.Inv->Rd.St r (fM n r).1)/\(∀(r:Rd) L,r.Inv->Rd.St r (lQ n r L).1)/\(∀r:Rd,r.Inv->r.e=0->0<n->Rd.St r (na n r).1/\(na n r).1.rem+1<=r.rem)
 |0=>⟨fun r h=>by unfold fM;exact .refl h,fun r L h=>by unfold lQ;exact .refl h,fun r h he hn=>by omega⟩
 |n+1=>by
  obtain⟨ib,is,it⟩:=rA n;refine⟨fun r h=>?_,fun r L h=>?_,fun r h he _=>?_⟩
  ·unfold fM;split
   ·rename_i hs;have he:=(Rd.aR hs).1;have h1:=(Rd.bC h he).1;have s1:=Rd.aI h1 (⟨#[123]⟩:PL);have s2:=is _ [] (s1.inv h1);have s12:=s1.trans s2;have s3:=Rd.aI (s12.inv h1) (⟨#[125]⟩:PL);have hp:=(Rd.gu h hs).2;refine Rd.cF (Rd.fk h he (s12.trans s3)) ?_ _ _ _ _ _;have:=s2.dn;have:=s3.dn;show((lQ n (r.down.ap (⟨#[123]⟩:PL)) []).1.ap (⟨#[125]⟩:PL)).dn+1<=_;omega
   ·exact Rd.fA h 20 jC
  ·unfold lQ;split
   ·rename_i hc;cases n with
    |zero=>unfold lQ na;exact .refl h
    |succ n=> have s1:=(it r h hc.1 jB).1;exact s1.trans (is _ _ (s1.inv h))
   ·exact .refl h
  ·-- a word, and what is behind it
   have fin:∀(w:PL) (q:Rd) k ln nm L,w≠⟨#[]⟩->r.word=w->(r.inc.Inv->Rd.St r.inc q)->Rd.St r (q.put k ln 0 nm L).1/\(q.put k ln 0 nm L).1.rem+1<=r.rem:=fun w q k ln nm L h0 hw s=>by have hk:=Rd.di (Rd.gh hw h0) jC;obtain⟨s1,e1⟩:=Rd.bk h hk.2;have s2:=s (s1.inv h);refine⟨Rd.cF (s1.trans s2) (by have:=s2.dn;omega) _ _ _ _ _,?_⟩;have:=s2.rem;have:=Rd.cI h hk;show q.rem+1<=_;omega
   unfold na;split
   ·rename_i hw;refine fin _ _ _ _ _ _ jC hw fun h1=>?_
    have s1:=Rd.cS h1;have s2:=s1.trans (Rd.aI (s1.inv h1) (⟨#[61]⟩:PL));have s3:=s2.trans (wY (s2.inv h1));exact s3.trans (Rd.aI (s3.inv h1) _)
   split
   ·rename_i hw;refine fin _ _ _ _ _ _ jC hw fun h1=>?_
    have s1:=jn h1;exact s1.trans (Rd.aI (s1.inv h1) _)
   split
   ·rename_i hw;refine fin _ _ _ _ _ _ jC hw fun h1=>?_
    have s1:=jn h1;exact s1.trans (ib _ (s1.inv h1))
   split
   ·rename_i hw;split
    ·rename_i hs;refine fin _ _ _ _ _ _ jC hw fun h1=>?_
     have s1:=jn h1;have s2:=s1.trans (ib _ (s1.inv h1));have h2:=s2.inv h1;have s3:=(Rd.bk h2 (Rd.aR hs).2).1;exact(s2.trans s3).trans (ib _ (s3.inv h2))
    ·refine fin _ _ _ _ _ _ jC hw fun h1=>?_
     have s1:=jn h1;exact s1.trans (ib _ (s1.inv h1))
   split
   ·rename_i hw;split
    ·exact fin _ _ _ _ _ _ jC hw fun h1=>Rd.aI h1 _
    ·refine fin _ _ _ _ _ _ jC hw fun h1=>?_
     have s1:=jn h1;exact s1.trans (Rd.aI (s1.inv h1) _)
   ·exact Ng h he _
def AB(h:r.Inv):Rd.St r (nE r).1:=(rA _).1 r h
def Ny(h:rc r.word≠0):r.e=0/\r.tok.kind≠0:=by refine Rd.di (k:=4) (Rd.gh (r:=r) rfl fun e=>?_) jC;rw[e]at h;exact h jC
def CW(h:r.Inv):Rd.St r (io r).1:=by
 unfold io;split
 ·exact Rd.fA h 20 jC
 ·rename_i ht;exact(Rd.bk h (Ny ht).2).1
def EL(h:r.Inv):Rd.St r (oF r):=(Rd.cS h).trans (CW ((Rd.cS h).inv h))
theorem FV:∀(n:Nat) (b:Bool) (r:Rd) (L:List ce),r.Inv->Rd.St r (lP n b r L).1
 |0,_,r,L,h=>by unfold lP;exact .refl h
 |n+1,false,r,L,h=>by unfold lP;exact .refl h
 |n+1,true,r,L,h=>by
  have s1:=EL h;have h1:=s1.inv h;unfold lP;split
  ·rename_i hs;have s2:=(Rd.bk h1 (Rd.aR hs).2).1;exact(s1.trans s2).trans (FV n _ _ _ (s2.inv h1))
  ·exact s1
def pw(h:r.Inv):Rd.St r (r.ap (⟨#[102,110]⟩:PL))/\Rd.St r (r.ap (⟨#[102,110]⟩:PL)).name.1/\Rd.St r (my r)/\Rd.St (r.ap (⟨#[102,110]⟩:PL)) (my r):=by have s1:=Rd.aI h (⟨#[102,110]⟩:PL);have h1:=s1.inv h;have s2:=Rd.cS h1;have s3:=s2.trans (Rd.aI (s2.inv h1) (⟨#[40]⟩:PL));exact⟨s1,s1.trans s2,s1.trans s3,s3⟩
def y5(h:r.Inv):Rd.St (r.ap (⟨#[102,110]⟩:PL)) (rM r).1:=(pw h).2.2.2.trans (FV _ _ _ _ ((pw h).2.2.1.inv h))
def xB(h:r.Inv):Rd.St (r.ap (⟨#[102,110]⟩:PL)) (kU r):=(y5 h).trans (Rd.aI ((y5 h).inv ((pw h).1.inv h)) _)
def xH(h:r.Inv):Rd.St (r.ap (⟨#[102,110]⟩:PL)) (lp r).1:=by
 unfold lp;split
 ·exact xB h
 ·exact(xB h).trans (CW ((xB h).inv ((pw h).1.inv h)))
def EG(h:r.Inv):Rd.St r (lS r).1/\(r.e=0->(lS r).1.rem+1<=r.rem):=by have h1:=(pw h).1.inv h;have s:=(xH h).trans (AB ((xH h).inv h1));refine⟨(pw h).1.trans s,fun he=>?_⟩;have:=(Rd.mX h he (⟨#[102,110]⟩:PL)).1;have:(nE (lp r).1).1.rem<=_:=s.rem;show(nE (lp r).1).1.rem+1<=_;omega
def IF{e:Nat}(he:e<=s.size)(hj:a+j<e):dX (s.extract a e) (j:Nat)=dX s ((a+j:Nat):Int):=by unfold dX;have h1:(s.extract a e).data=s.data.extract a e:=jE;rw[h1];simp only[Int.toNat_natCast];have hs:e<=s.data.size:=he;rw[Array.getElem?_extract];rw[jP]
def Pg(ha:a<s.size)(h:(gF s a).2.2=0):(gF s a).1.kind≠0/\((gF s a).1.kind=1->qq (gF s a).1.text):=by
 unfold gF at h ⊢;split at h<;>rename_i h1
 ·rw[if_pos h1];split at h<;>rename_i h2
  ·rw[if_pos h2];refine⟨fun e=>(by cases e),fun _=>?_⟩;have hb:=(uW (p:=jg) (s:=s) (i:=a) jB).2;have hp:=vN ha h1;have P5:(s.extract a (gY jg s a)).size=gY jg s a-a:=by rw[ByteArray.size_extract];omega
   refine⟨by show 0<(s.extract a (gY jg s a)).size;omega,h2,fun j hj=>?_⟩;have hj:j<(s.extract a (gY jg s a)).size:=hj;show jg (dX (s.extract a (gY jg s a)) j)=true;rw[IF hb jB];exact Dm (n:=s.size+1) (i:=a) jB (by show _<gY jg s a;omega)
  ·cases h
 ·rw[if_neg h1];split at h<;>rename_i h2
  ·rw[if_pos h2];split at h<;>rename_i h3
   ·rw[if_pos h3];exact⟨fun e=>(by cases e),fun e=>(by cases e)⟩
   ·rw[if_neg h3];split at h<;>rename_i h4
    ·cases h
    ·rw[if_neg h4];exact⟨fun e=>(by cases e),fun e=>(by cases e)⟩
  ·rw[if_neg h2];split at h<;>rename_i h3
   ·rw[if_pos h3];exact⟨fun e=>(by cases e),fun e=>(by cases e)⟩
   ·rw[if_neg h3];split at h<;>rename_i h4
    ·cases h
    ·rw[if_neg h4];exact⟨fun e=>(by cases e),fun e=>(by cases e)⟩
def zk(t:bY):Prop:=t.kind≠0/\(t.kind=1->qq t.text)
theorem EX(s:PL):∀(n i:Nat) (out:List bY),s.size<n+i->i<=s.size->(k8 s n i out).2.2=0->out.length<=i->(∀t∈out,zk t)->∃ts,(k8 s n i out).1=ts++[⟨0,⟨#[]⟩,s.size⟩]/\ts.length<=s.size/\∀t∈ts,zk t
 |0,i,out,h1,h2,_,_,_=>by omega
 |n+1,i,out,h1,h2,he,hl,ho=>by
  unfold k8 at he ⊢;split at he<;>rename_i hi
  ·rw[if_pos hi];split at he<;>rename_i h3
   ·rw[if_pos h3];obtain⟨e,h4,h5,h6⟩:=xz hi h3;rw[h4,Int.toNat_natCast]at he ⊢;have:=uX (s:=s) (i:=e) h6;refine EX s n _ _ jB this.2 he (by rw[List.length_append];simp;omega) fun t ht=>?_
    rcases List.mem_append.1 ht with ht|ht
    ·exact ho t ht
    ·rw[List.mem_singleton.1 ht];exact Pg hi h3
   ·exact(h3 he).elim
  ·rw[if_neg hi];exact⟨out,rfl,jB,ho⟩
def IN(he:(j5 s).2.2=0):s.size<=600/\∃ts,(j5 s).1=ts++[⟨0,⟨#[]⟩,s.size⟩]/\ts.length<=s.size/\∀t∈ts,zk t:=by
 unfold j5 at he ⊢;split at he<;>rename_i h
 ·cases he
 ·rw[if_neg h];have h0:=uX (s:=s) (i:=0) (Nat.zero_le _);exact⟨jB,EX s (s.size+1) _ _ jB h0.2 he jE fun t ht=>by simp at ht⟩
def JD[Inhabited α]{l m:List α}(h:k<l.length):nth (l++m) k=nth l k:=by simp only[nth,List.getD_eq_getElem?_getD,List.getElem?_append_left h]
def fu[Inhabited α]{l:List α}(h:k<l.length):nth l k∈l:=by rw[dT h];exact List.getElem_mem h
def CJ(he:(j5 s).2.2=0):(nJ s).Inv:=by
 obtain⟨h0,ts,h1,h2,h3⟩:=IN he;have hl:(nJ s).l=ts++[⟨0,⟨#[]⟩,s.size⟩]:=h1;have hn:(nJ s).l.length=ts.length+1:=by rw[hl];simp
 have P4:nth (ts++[⟨0,⟨#[]⟩,s.size⟩]:List bY) ts.length=⟨0,⟨#[]⟩,s.size⟩:=by simp[nth]
 refine⟨by show s.size<=1000;omega,Int.le_refl _,by show(0:Int)<_;omega,jB,fun k hk Qg=>?_,fun k hk Qg=>?_,Int.le_refl _,by show(0:Int)<=17;decide,fun _=>by show(0:Int)<=16;decide,?_⟩
 ·rw[hl]at Qg ⊢;by_cases e:k<ts.length
  ·rw[JD e]at Qg ⊢;exact(h3 _ (fu e)).2 Qg
  ·have:k=ts.length:=jB;subst this;rw[P4]at Qg;cases Qg
 ·by_cases e:k<ts.length
  ·omega
  ·have:k=ts.length:=jB;subst this;rw[hl,P4]at Qg;exact(Qg rfl).elim
 ·show((0:Nat):Int)+3*((nJ s).l.length-0)+1<=8000;omega
end Go.Gd
namespace Go.Proofs.YtghoellpinmenaaGreatDoor
open Go Go.Gd Tryz
@[go_sem] def qae:cR prog 3=some 1/\dm prog 3=some false/\dY prog 3=some [.int .i64 0]/\gQ prog 3=false/\qj prog 3=false/\vp prog 3=false/\Bj prog 3=some .i64/\iN prog 3=8/\dm prog 4=some false/\gQ prog 4=false/\qj prog 4=false/\vp prog 4=true/\cR prog 5=some 1/\dm prog 5=some false/\cR prog 9=some 1/\dm prog 9=some false/\dY prog 9=some [.string ⟨#[]⟩]/\rl prog 9=true/\iN prog 9=16/\cR prog 22=some 1/\dm prog 22=some false/\dY prog 22=some [.slice none 0 0]/\ie prog 22=some 3/\iK prog 22=some 1:=by and_intros<;>kernel_rfl
@[go_sem] def j6f:gQ prog 22=true/\iN prog 22=24/\cR prog 24=some 1/\dm prog 24=some false/\ie prog 24=some 78/\iK prog 24=some 5/\gQ prog 24=true/\cR prog 25=some 1/\dm prog 25=some false/\ie prog 25=some 132/\iK prog 25=some 5/\gQ prog 25=true/\cR prog 27=some 2/\dm prog 27=some true/\dY prog 27=some [.slice none 0 0,.slice none 0 0]/\cv prog 27 0=some 0/\cv prog 27 1=some 1/\jK prog 27=some [(0,1),(1,1)]/\cR prog 29=some 6/\dm prog 29=some true/\dY prog 29=some [.slice none 0 0,.slice none 0 0,.slice none 0 0,.slice none 0 0,.slice none 0 0,.slice none 0 0]/\cv prog 29 0=some 0/\cv prog 29 1=some 2/\cv prog 29 2=some 3:=by and_intros<;>kernel_rfl
@[go_sem] def j3o:cv prog 29 3=some 4/\cv prog 29 4=some 5/\jK prog 29=some [(0,2),(2,1),(3,1),(4,1),(5,1)]/\cR prog 30=some 1/\dm prog 30=some false/\cR prog 35=some 1/\dm prog 35=some false/\ie prog 35=some 87/\iK prog 35=some 3/\gQ prog 35=true/\cR prog 36=some 1/\dm prog 36=some false/\ie prog 36=some 22/\iK prog 36=some 1/\gQ prog 36=true/\cR prog 37=some 1/\dm prog 37=some false/\ie prog 37=some 9/\iK prog 37=some 1/\gQ prog 37=true/\cR prog 39=some 7/\dm prog 39=some true/\dY prog 39=some [.slice none 0 0,.slice none 0 0,.int .i64 0,.slice none 0 0,.int .i64 0,.int .i64 0,.int .i64 0]/\cv prog 39 0=some 0:=by and_intros<;>kernel_rfl
@[go_sem] def j3r:cv prog 39 1=some 1/\cv prog 39 3=some 3/\cR prog 50=some 3/\dm prog 50=some true/\dY prog 50=some [.int .i64 0,.int .i64 0,.string ⟨#[]⟩]/\cv prog 50 0=some 0/\cv prog 50 1=some 1/\vv prog 50 1=some (3,1)/\cv prog 50 2=some 2/\jK prog 50=some [(0,1),(1,1),(2,1)]/\wU prog 50=some [.int .i64,.int .i64,.str]/\iN prog 50=32/\vy prog 57=some (2,1)/\qj prog 58=true/\cR prog 63=some 1/\dm prog 63=some false/\ie prog 63=some 69/\iK prog 63=some 3/\gQ prog 63=true/\cR prog 65=some 7/\dm prog 65=some true/\dY prog 65=some [.slice none 0 0,.slice none 0 0,.int .i64 0,.slice none 0 0,.int .i64 0,.int .i64 0,.int .i64 0]/\cv prog 65 0=some 0/\cv prog 65 1=some 1:=by and_intros<;>kernel_rfl
@[go_sem] def j3y:cv prog 65 2=some 2/\cv prog 65 3=some 3/\cv prog 65 4=some 4/\cv prog 65 5=some 5/\cv prog 65 6=some 6/\jK prog 65=some [(0,1),(1,1),(2,1),(3,1),(4,1),(5,1),(6,1)]/\cR prog 67=some 1/\dm prog 67=some false/\ie prog 67=some 50/\iK prog 67=some 3/\gQ prog 67=true/\rl prog 67=false/\cR prog 69=some 3/\dm prog 69=some true/\dY prog 69=some [.int .i64 0,.int .i64 0,.slice none 0 0]/\cv prog 69 0=some 0/\cv prog 69 1=some 1/\cv prog 69 2=some 2/\jK prog 69=some [(0,1),(1,1),(2,1)]/\iN prog 69=40/\cR prog 78=some 5/\dm prog 78=some true/\dY prog 78=some [.int .i64 0,.int .i64 0,.int .i64 0,.string ⟨#[]⟩,.slice none 0 0]/\cv prog 78 0=some 0:=by and_intros<;>kernel_rfl
@[go_sem] def j3H:cv prog 78 1=some 1/\cv prog 78 2=some 2/\cv prog 78 3=some 3/\cv prog 78 4=some 4/\vv prog 78 4=some (22,4)/\jK prog 78=some [(0,1),(1,1),(2,1),(3,1),(4,1)]/\iN prog 78=64/\cR prog 85=some 1/\dm prog 85=some false/\ie prog 85=some 89/\cR prog 87=some 3/\dm prog 87=some true/\dY prog 87=some [.int .i64 0,.slice none 0 0,.slice none 0 0]/\cv prog 87 1=some 1/\cv prog 87 2=some 2/\iN prog 87=56/\cR prog 89=some 2/\dY prog 89=some [.int .i64 0,.int .i64 0]/\iN prog 89=16/\cR prog 97=some 1/\dm prog 97=some false/\ie prog 97=some 118/\iK prog 97=some 4/\gQ prog 97=true:=by and_intros<;>kernel_rfl
@[go_sem] def j9U:cR prog 99=some 2/\dm prog 99=some true/\dY prog 99=some [.slice none 0 0,.slice none 0 0]/\cv prog 99 0=some 0/\cv prog 99 1=some 1/\jK prog 99=some [(0,1),(1,1)]/\cR prog 101=some 1/\dm prog 101=some false/\cR prog 103=some 1/\dm prog 103=some false/\ie prog 103=some 108/\iK prog 103=some 1/\gQ prog 103=true/\cR prog 105=some 15/\dm prog 105=some true/\dY prog 105=some [.slice none 0 0,.slice none 0 0,.slice none 0 0,.slice none 0 0,.slice none 0 0,.slice none 0 0,.slice none 0 0,.slice none 0 0,.slice none 0 0,.pointer none,.slice none 0 0,.int .i64 0,.int .i64 0,.int .i64 0,.int .i64 0]/\cv prog 105 0=some 0/\cv prog 105 1=some 6/\cv prog 105 2=some 8/\cv prog 105 3=some 9/\cv prog 105 4=some 10/\cv prog 105 5=some 11/\cv prog 105 6=some 12/\cv prog 105 7=some 13:=by and_intros<;>kernel_rfl
@[go_sem] def j1R:cv prog 105 8=some 14/\jK prog 105=some [(0,6),(6,2),(8,1),(9,1),(10,1),(11,1),(12,1),(13,1),(14,1)]/\cR prog 108=some 1/\dm prog 108=some false/\dY prog 108=some [.pointer none]/\iN prog 108=8/\cv prog 111 0=some 0/\cR prog 113=some 5/\dm prog 113=some true/\dY prog 113=some [.slice none 0 0,.int .i64 0,.int .i64 0,.int .i64 0,.slice none 0 0]/\cv prog 113 0=some 0/\cv prog 113 1=some 1/\cv prog 113 2=some 2/\cv prog 113 3=some 3/\cv prog 113 4=some 4/\jK prog 113=some [(0,1),(1,1),(2,1),(3,1),(4,1)]/\cR prog 118=some 4/\dm prog 118=some true/\dY prog 118=some [.int .i64 0,.int .i64 0,.int .i64 0,.string ⟨#[]⟩]/\cv prog 118 0=some 0/\cv prog 118 1=some 1/\cv prog 118 2=some 2/\cv prog 118 3=some 3/\jK prog 118=some [(0,1),(1,1),(2,1),(3,1)]:=by and_intros<;>kernel_rfl
@[go_sem] def j4M:iN prog 118=40/\cR prog 123=some 1/\dm prog 123=some false/\ie prog 123=some 168/\iK prog 123=some 3/\dY prog 128=some [.string ⟨#[]⟩,.slice none 0 0,.int .i64 0,.slice none 0 0,.int .i64 0,.int .i64 0,.int .i64 0]/\cv prog 128 0=some 0/\cv prog 128 1=some 1/\cv prog 128 2=some 2/\cv prog 128 3=some 3/\cv prog 128 4=some 4/\cv prog 128 5=some 5/\cv prog 128 6=some 6/\jK prog 128=some [(0,1),(1,1),(2,1),(3,1),(4,1),(5,1),(6,1)]/\cR prog 130=some 1/\dm prog 130=some false/\ie prog 130=some 175/\iK prog 130=some 2/\gQ prog 130=true/\cR prog 132=some 5/\dm prog 132=some true/\dY prog 132=some [.string ⟨#[]⟩,.int .i64 0,.slice none 0 0,.int .i64 0,.int .i64 0]/\cv prog 132 0=some 0/\cv prog 132 2=some 2:=by and_intros<;>kernel_rfl
@[go_sem] def j2b:cv prog 132 3=some 3/\cv prog 132 4=some 4/\jK prog 132=some [(0,1),(1,1),(2,1),(3,1),(4,1)]/\iN prog 132=64/\cR prog 135=some 1/\dm prog 135=some false/\ie prog 135=some 179/\iK prog 135=some 3/\gQ prog 135=true/\dY prog 137=some [.slice none 0 0,.slice none 0 0,.slice none 0 0,.slice none 0 0,.slice none 0 0,.slice none 0 0,.int .i64 0,.slice none 0 0,.int .i64 0,.int .i64 0,.int .i64 0]/\cv prog 137 0=some 0/\cv prog 137 1=some 6/\cv prog 137 2=some 7/\cv prog 137 3=some 8/\cv prog 137 4=some 9/\cv prog 137 5=some 10/\jK prog 137=some [(0,6),(6,1),(7,1),(8,1),(9,1),(10,1)]/\cR prog 159=some 7/\dY prog 159=some [.slice none 0 0,.slice none 0 0,.slice none 0 0,.slice none 0 0,.slice none 0 0,.slice none 0 0,.slice none 0 0]/\cv prog 159 0=some 0/\cv prog 159 1=some 6/\jK prog 159=some [(0,6),(6,1)]/\dY prog 162=some [.slice none 0 0,.slice none 0 0]/\cv prog 162 0=some 0:=by and_intros<;>kernel_rfl
@[go_sem] def j2m:cv prog 162 1=some 1/\jK prog 162=some [(0,1),(1,1)]/\cR prog 168=some 3/\dm prog 168=some true/\dY prog 168=some [.int .i64 0,.string ⟨#[]⟩,.int .i64 0]/\cv prog 168 0=some 0/\cv prog 168 1=some 1/\cv prog 168 2=some 2/\jK prog 168=some [(0,1),(1,1),(2,1)]/\iN prog 168=32/\cR prog 175=some 2/\dY prog 175=some [.string ⟨#[]⟩,.int .i64 0]/\cv prog 175 0=some 0/\cv prog 175 1=some 1/\jK prog 175=some [(0,1),(1,1)]/\iN prog 175=24/\cR prog 179=some 3/\dY prog 179=some [.string ⟨#[]⟩,.int .i64 0,.int .i64 0]/\cv prog 179 0=some 0/\cv prog 179 1=some 1/\cv prog 179 2=some 2/\jK prog 179=some [(0,1),(1,1),(2,1)]/\iN prog 179=32/\bo prog 10=true:=by and_intros<;>kernel_rfl
@[go_sem] def j73:bo prog 19=true/\bo prog 20=true/\bo prog 21=true/\bo prog 22=true/\bo prog 23=true/\bo prog 24=true/\bo prog 25=true/\bo prog 26=true/\bo prog 27=true/\bo prog 29=true/\bo prog 30=true/\bo prog 33=true/\bo prog 41=true/\bo prog 42=true/\bo prog 43=true/\bo prog 44=true/\bo prog 45=true/\bo prog 46=true/\bo prog 47=true/\bo prog 48=true/\bo prog 49=true/\bo prog 50=true/\bo prog 51=true/\bo prog 52=true:=by and_intros<;>kernel_rfl
@[go_sem] def j8r:bo prog 53=true/\bo prog 54=true/\bo prog 55=true/\bo prog 56=true/\bo prog 58=true/\bo prog 72=true/\bo prog 73=true/\bo prog 74=true/\bo prog 75=true/\bo prog 76=true/\bo prog 77=true/\bo prog 78=true/\bo prog 79=true/\bo prog 80=true/\bo prog 81=true/\bo prog 82=true/\bo prog 83=true/\bo prog 84=true/\bo prog 85=true/\bo prog 86=true/\bo prog 87=true/\bo prog 88=true/\bo prog 89=true/\bo prog 90=true:=by and_intros<;>kernel_rfl
@[go_sem] def j8P:bo prog 91=true/\bo prog 92=true/\bo prog 93=true/\bo prog 96=true/\bo prog 105=true/\bo prog 106=true/\bo prog 107=true/\bo prog 108=true/\bo prog 109=true/\bo prog 110=true/\bo prog 111=true/\bo prog 112=true/\bo prog 113=true/\bo prog 114=true/\bo prog 115=true/\bo prog 116=true/\bo prog 117=true/\bo prog 118=true/\bo prog 119=true/\bo prog 120=true/\bo prog 121=true/\bo prog 122=true/\bo prog 123=true/\bo prog 124=true:=by and_intros<;>kernel_rfl
@[go_sem] def j5c:bo prog 125=true/\bo prog 126=true/\bo prog 127=true/\bo prog 128=true/\bo prog 129=true/\bo prog 130=true/\bo prog 131=true/\bo prog 132=true/\bo prog 133=true/\bo prog 134=true/\bo prog 135=true/\bo prog 136=true/\bo prog 137=true/\bo prog 138=true/\bo prog 139=true/\bo prog 150=true/\bo prog 151=true/\bo prog 152=true/\bo prog 153=true/\bo prog 154=true/\bo prog 155=true/\bo prog 156=true/\bo prog 157=true/\bo prog 158=true:=by and_intros<;>kernel_rfl
@[go_sem] def j5A:bo prog 159=true/\bo prog 160=true/\bo prog 161=true/\bo prog 162=true/\bo prog 163=true/\bo prog 164=true/\bo prog 167=true/\bo prog 168=true/\bo prog 169=true/\bo prog 170=true/\bo prog 171=true/\bo prog 173=true/\bo prog 174=true/\bo prog 175=true/\bo prog 176=true/\bo prog 182=true/\bo prog 183=true/\bo prog 184=true/\bo prog 185=true/\bo prog 186=true/\bo prog 192=true/\bo prog 193=true/\bo prog 196=true:=by and_intros<;>kernel_rfl
def mixed:prog.follows .mixedOrders=true:=jG
def iR:pA prog 222=some (false,3):=jG
def pZ:pA prog 232=some (true,3):=jG
end Go.Proofs.YtghoellpinmenaaGreatDoor