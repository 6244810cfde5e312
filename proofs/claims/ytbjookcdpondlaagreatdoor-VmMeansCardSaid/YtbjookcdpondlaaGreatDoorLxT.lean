/- Lemmas. No conditions. -/
import Derived.Test.YtbjookcdpondlaaGreatDoorGdY
import Derived.ProofKit
import Derived.Deep.Slices
import Derived.Carry
import Derived.Laws.MakeOwn
import Derived.OpenShut
import Derived.MapKept
import Derived.Test.YtbjookcdpondlaaGreatDoorProg
import Derived.KernelRfl
set_option linter.all false
namespace Go.Gd
open Go Go.ChangeShapes Go.WideShapes Go.ChangeAt Go.RowKit Go.Deep
@[reducible] def n0(w:World):NW:={ toWorld:=w,O:=fun _=>False,nm:=fun _ _=>none }
def sd(P:SQ)(t:SL)(S:SG->Prop):Prop:=
 ∀(T:Type) (enc:SL×Value->T) (w:World) (fuel:Nat) (cs:SO) (x:DataW T×List MemPlace),
  DataW.trod enc P w 0 (fun _=>true) true fuel t cs=some x->∃us,S us/\cA (n0 w) us cs
section
variable {P:SQ}{t:SL}
def sd.mono{S S':SG->Prop}(h:sd P t S)(hs:∀us,S us->S' us):sd P t S':=fun T enc w fuel cs x hx=>by obtain⟨us,h1,h2⟩:=h T enc w fuel cs x hx;exact⟨us,hs us h1,h2⟩
def yJ{w:NW}{a:AV}{v:Value}(h:aB w a v):cA w [a] [v]:=⟨rfl,fun i b u hb hu=>by
 cases i with
 |zero=>simp at hb hu;subst hb hu;exact h
 |succ i=>simp at hb⟩
def Hg{w:NW}{a:AV}{v:Value}{us:SG}{vs:SO}(h:aB w a v)(hs:cA w us vs):cA w (a::us) (v::vs):=⟨by simp[hs.1],fun i b u hb hu=>by
 cases i with
 |zero=>simp at hb hu;subst hb hu;exact h
 |succ i=>exact hs.2 i b u (by simpa using hb) (by simpa using hu)⟩
def KK{k:IntKind}(ht:P.underlying t=some (.int k)):sd P t (fun us=>∃n:Int,(Lit.int k n).wf=true/\us=[.raw (.int k n)]):=fun T enc w fuel cs x hx=>by obtain⟨n,rfl,_,hwf⟩:=DataW.trod_int ht hx;exact⟨_,⟨n,hwf,rfl⟩,yJ (.raw _)⟩
def La(P:SQ):List Field->List (SG->Prop)->Prop
 |[],[]=>True
 |f::l,S::Ss=>sd P f.type S/\La P l Ss
 |_,_=>False
def OE{e:SL}{α:Type}[Inhabited α]{ok:α->Prop}{encA:α->SG}{sz:Nat}(ht:P.underlying t=some (.slice e))(hc:P.cellsOf e=sz)(SY:0<sz)(he:sd P e (fun us=>∃a,ok a/\us=encA a))(hl:∀a,(encA a).length=sz) :
  sd P t (fun us=>∃l:List α,((∀a∈l,ok a)/\l.length<=9223372036854775807)/\us=[bh encA sz l]):=fun T enc w fuel cs x hx=>by
 rcases open_slice ht hx with⟨rfl,_⟩|⟨a,len,cap,m,n,D,Pl,rfl,_,hlc,Zh,hm,_,hr⟩
 ·exact⟨_,⟨[],⟨jE,jE⟩,rfl⟩,yJ (.gw _ _ _ _ jE)⟩
 ·simp only[if_true]at hm;obtain rfl:cap=m:=hm.symm;have TF:∀i,i<len->∃g:α,ok g/\∃cs',w.cells? 0 (a.add (i*sz)) sz=some cs'/\cA (n0 w) (encA g) cs':=fun i hi=>by
   obtain⟨cs',h1,h2⟩:=hr i jB;rw[hc]at h1;obtain⟨us,⟨g,hok,rfl⟩,Tj⟩:=he T enc w n cs' _ h2;exact⟨g,hok,cs',h1,Tj⟩
  obtain⟨g,hg⟩:∃g:Nat->α,∀i,i<len->ok (g i)/\∃cs',w.cells? 0 (a.add (i*sz)) sz=some cs'/\cA (n0 w) (encA (g i)) cs':=by
   classical
   exact⟨fun i=>if h:i<len then(TF i h).choose else default,fun i hi=>by simp only[dif_pos hi];exact(TF i hi).choose_spec⟩
  have WD:((List.range len).map g).length=len:=jE;refine⟨_,⟨(List.range len).map g,⟨fun y hy=>?_,by rw[WD];have:cap<=9223372036854775807:=Zh;omega⟩,rfl⟩,yJ ?_⟩
  ·obtain⟨i,hi,rfl⟩:=List.mem_map.1 hy;exact(hg i (by simpa using hi)).1
  ·have S9:(((List.range len).map g).map encA).length=len:=jE;have hn:∀i,i<len->(((List.range len).map g).map encA).getD i []=encA (g i):=fun i hi=>by simp[List.getD_eq_getElem?_getD,hi]
   by_cases h0:len=0
   ·subst h0;exact .gw _ _ _ _ jE
   ·have J':∀i j,i<len->j<sz->∃v,w.cell? (a.add (i*sz+j))=some v/\∀u,(encA (g i))[j]?=some u->aB (n0 w) u v:=fun i j hi hj=>by
     obtain⟨_,cs',h1,h2⟩:=hg i hi;obtain⟨_,D',Tf⟩:=World.cells?_some h1;have hv:cs'[j]?=some cs'[j]:=List.getElem?_eq_getElem jB;refine⟨cs'[j],?_,fun u hu=>h2.2 j u _ hu hv⟩;rw[<-wA,Tf j hj,hv]
    have:=aB.sl (w:=n0 w) (d:=encA default) false sz (((List.range len).map g).map encA) a cap (fun k=>(w.cell? (a.add k)).getD undef) jB jB jE (fun cs UG=>by
     obtain⟨y,_,rfl⟩:=List.mem_map.1 UG;exact hl y) (by
     obtain⟨_,cs',h1,_⟩:=hg 0 jB;have:=World.cells?_block h1 SY;rwa [qk]at this) (fun h=>h) (fun i j hi hj=>by
     obtain⟨v,hv,_⟩:=J' i j jB hj;rw[hv];rfl) (fun i j u hi hu=>by
     rw[hn i jB]at hu;have hj:j<sz:=by rw[<-hl (g i)];exact(List.getElem?_eq_some_iff.1 hu).1
     obtain⟨v,hv,Tj⟩:=J' i j jB hj;rw[hv];exact Tj u hu)
    rw[S9]at this;exact this
-- arguments
variable {T:Type}{enc:SL×Value->T}{w:World}{v:Value}{d:DataW T}{ps:List MemPlace}{base:Nat}
def LQ{S:AV->Prop}(hd:sd P t (fun us=>∃a,S a/\us=[a]))(hv:v.cells.toList=[v])(h:DataW.Trod enc P w 0 (fun _=>true) true t v d ps):∃a,S a/\aB (n0 w) a v:=by obtain⟨fuel,hf⟩:=h;rw[hv]at hf;obtain⟨us,⟨a,hs,rfl⟩,hr⟩:=hd T enc w fuel _ _ hf;exact⟨a,hs,hr.2 0 a v rfl rfl⟩
end
section
variable {P:SQ}{T:Type}{enc:SL×Value->T}
theorem Hr(hl:laidOutB P=true){W W':World}(hb:Below W.heap.size W W'):∀(ts:List SL) (vs:SO) (ds:List (DataW T)) (ps:List MemPlace),(∀t∈ts,P.readableRec t=true/\t<P.types.size)->
  DataW.TrodAll enc P W 0 (fun _=>true) true ts vs ds ps->(∀x∈ps,x.block<W.heap.size)->DataW.TrodAll enc P W' 0 (fun b=>decide (b<W.heap.size)) true ts vs ds ps
 |[],[],[],ps,_,h,_=>h
 |t::ts,v::vs,d::ds,ps,hr,h,SX=>by obtain⟨p,q,h1,h2,rfl⟩:=h;exact⟨p,q,Below.trod hl (hr t jE).1 (hr t jE).2 h1 hb fun x hx=>SX x (by simp[hx]),Hr hl hb ts vs ds q (fun t ht=>hr t (by simp[ht])) h2 fun x hx=>SX x (by simp[hx]),rfl⟩
 |[],_::_,_,_,_,h,_=>h.elim
 |[],[],_::_,_,_,h,_=>h.elim
 |_::_,[],_,_,_,h,_=>h.elim
 |_::_,_::_,[],_,_,h,_=>h.elim
def N7{fn:Func}{s:ChangeSpec}{apart fresh handsOn:Bool}{W W':World}{args:SN}{ds:List (DataW T)}{before:List MemPlace}{tb:SL}(hW:DataW.Whole enc P fn.params.toList s.vars apart W args.toList ds [] before)
  (hx:Below W.heap.size W W') (hl:laidOutB P=true) (hr:∀t∈fn.params.toList,P.readableRec t=true/\t<P.types.size) (hrt:fn.resultTypes=#[tb]) (hb:P.underlying tb=some .bool) (hv:s.vars=[])
  (e1:(s.fn T (ds++[])).results=[.lit (.bool true)]) (e2:(s.fn T (ds++[])).args=ds) (e3:(s.fn T (ds++[])).vars=[]):s.post enc P fn apart fresh handsOn false W args (.bool true) W':=by
 have hW':=hW;obtain⟨p,q,hA,hV,rfl,hfz,Tt⟩:=hW;rw[hv]at hV;have hq:q=[]:=hV;subst hq;refine⟨ds,[],_,[],p,[],hW',?_,?_,?_,hx.frame _,fun h=>by cases h⟩
 ·rw[hrt,e1];exact trodAll_mk1 (shut_bool hb true)
 ·rw[e2];exact Hr hl hx _ _ _ _ hr hA fun x Tg=>by simpa using hW'.lt x (by simpa using Tg)
 ·rw[hv,e3];exact rfl
def Q6(W:World)(hg:l9 (n0 W)):aT (n0 W) (entry []):={
 cv:=hg
 rows:=fun i r h=>(by cases h)
 dZ:=fun i m z h=>(by cases h)
 inj:=fun i m j n b t s t' s' h _=>(by cases h)
 own:=fun i m b t s h=>(by cases h)
 fin:=fun b h=>h.elim }
def Nw{f:FuncId}{avs:SG}{args:SN}{W:World}(hg:l9 (n0 W))(h:aP P f avs (.raw (.bool true)))(ha:cA (n0 W) avs args.toList):Calls P f args W fun e W'=>e=.returned (.bool true)/\Below W.heap.size W W':=by refine(h (n0 W) args (Q6 W hg) ⟨by rw[ha.1];simp,fun i a v h1 h2=>ha.2 i a v h1 (by rw[Array.getElem?_toList];exact h2)⟩).mono ?_;rintro e w' ⟨v,r,H',w2,rfl,rfl,⟨rfl,_⟩,_,g2,g3⟩;have:=dH g2;subst this;exact⟨rfl,⟨g3.os,g3.tape,g3.output,g3.size,fun k hk=>(g3.free k hk (fun h=>h)).1⟩⟩
end
section
variable {P:SQ}{f:FuncId}{args cs:SG}{H:Hp}{K:SD}{q:Prop}
def cl{l l0:SF}{r0:AV}(hc:ai P f (args++cs) l fun r l'=>r=r0/\l'=l0)(k:q)(h1:fits l H:=by exact dT)(h0:bn P f=true:=by exact dT)(h2:ba (fun i=>(ids l).contains i) (args++cs)=true:=by exact dT)(h3:tH (fun i=>(ids l).contains i) l:=by exact dT)
 (h4:fresh (ids l) H l0:=by exact dT) (h5:(ids l0).Nodup:=by exact dT) (e:K r0 ⟨H.B,jR H.l l0⟩=q:=by exact fq):fz P (.fZ f cs) args H K:=On h0 (wF hc h1 h2 h3 h4 h5 (e ▸ k))
def cq{R:AV->Prop}{r0:AV}(hc:aP P f args r0)(k:q)(h0:bn P f=true:=by exact dT)(h2:ba cZ args=true:=by exact dT)(e:R r0=q:=by exact fq) :
  ∃r,(fz P (.raw (.func (.func f) #[] #[])) args H fun r' H'=>r'=r/\H'=H)/\R r:=⟨r0,mZ h0 (yE hc h2 ⟨rfl,rfl⟩),e ▸ k⟩
end
def Sub(a' a:AV):Prop:=∀(w:NW) v,aB w a' v->aB w a v
def sq:SG->SG->Prop
 |[],[]=>True
 |a::l,b::m=>Sub a b/\sq l m
 |_,_=>False
def Sub.refl(a:AV):Sub a a:=fun _ _ h=>h
def Sub.nil(sz:Nat)(d:SG):Sub (.raw (.slice none 0 0)) (.sl false sz [] d):=fun w v h=>by have:=dH h;subst this;exact .gw _ _ _ _ jE
def Sub.lit(sz:Nat)(css:SE)(d d':SG):Sub (.sl true sz css d) (.sl false sz css d'):=fun w v h=>by
 cases h with
 |gw _ _ A c _=>exact .gw _ _ _ _ jE
 |sl _ _ _ a c vs hn hc hx SY hb hH J' h=>exact .sl false sz css a c vs hn hc jE SY hb hH J' h
theorem sq.get:∀{l m:SG},sq l m->l.length=m.length/\∀(i:Nat) a b,l[i]?=some a->m[i]?=some b->Sub a b
 |[],[],_=>⟨rfl,fun i a b h=>by simp at h⟩
 |x::l,y::m,h=>by
  have ih:=sq.get h.2;refine⟨by simp[ih.1],fun i a b ha hb=>?_⟩;cases i with
  |zero=>simp at ha hb;subst ha hb;exact h.1
  |succ i=>exact ih.2 i a b (by simpa using ha) (by simpa using hb)
 |[],_::_,h=>h.elim
 |_::_,[],h=>h.elim
end Go.Gd
namespace Go.Gd
open Go
variable{zs:SO}{n sz:Nat}
def Lc{w:NW}{z:SN}(hz:z.toList=zs)(hl:zs.length=sz)(h0:0<sz)(k:Nat)(a:AV)(v:Value)(ha:(List.replicate n (zs.map AV.raw)).flatten[k]?=some a)(hv:(madeCells z (n*sz))[k]?=some v):aB w a v:=by
 have Yc:z.size=sz:=by rw[<-hl,<-hz];simp
 have hk:k<n*sz:=by have:=(Array.getElem?_eq_some_iff.1 hv).1;rwa [size_madeCells]at this
 obtain⟨i,j,hi,hj,rfl⟩:=v6 hk;have UG:∀cs∈List.replicate n (zs.map AV.raw),cs.length=sz:=fun cs UG=>by rw[(List.mem_replicate.1 UG).2];simpa using hl
 have hg:=qU UG (i:=i) (j:=j) (by simpa using hi) hj;rw[hg]at ha;have:(List.replicate n (zs.map AV.raw)).getD i []=zs.map AV.raw:=by simp[List.getD_eq_getElem?_getD,hi]
 rw[this]at ha;simp only[List.getElem?_map,Option.map_eq_some_iff]at ha;obtain⟨x,hx,rfl⟩:=ha;have e:(i*sz+j) % sz=j:=by rw[Nat.add_comm,Nat.add_mul_mod_self_right];exact Nat.mod_eq_of_lt hj
 have:v=x:=by
  have WU:(madeCells z (n*sz))[i*sz+j]?=some (z[(i*sz+j) % z.size]!):=by simp[madeCells,hk]
  rw[WU]at hv;have hv:=Option.some.inj hv;rw[<-hv,Yc,e];have hjz:j<z.size:=jB;rw[getElem!_pos z j hjz];have Tg:z.toList[j]?=some x:=by rw[hz];exact hx
  rw[Array.getElem?_toList]at Tg;exact Option.some.inj ((Array.getElem?_eq_getElem hjz).symm.trans Tg)
 subst this;exact .raw _
variable{K:SD}{q:Prop}{t:SL}
def Jt{P:SQ}{ev:SM}{H:Hp}{ty:SL}(i:Nat){et:SL}{l c:Operand}(k:q)(hl:ev l=.raw (.int .i64 (n:Int)):=by rfl)(hc:ev c=.raw (.int .i64 (n:Int)):=by rfl)(ht:iT P t=some et:=by(simp only[go_sem];rfl))(hs:dx P et=some sz:=by(simp only[go_sem];rfl))(hz:ff P et=some zs:=by(simp only[go_sem];rfl))(Wc:zs.length=sz:=by rfl)(h0:0<sz:=by decide)(hr:room (jY P et) n:=by(simp only[go_sem];omega))(hi:H.get i=none:=by rfl)
  (e:K (.rs i n sz n) (H.put i (.aK et sz (List.replicate n (zs.map .raw))))=q:=by exact fq):jT P (.makeSlice t l c) ty ev H K:=fun w ρ dst pos after guard hw hρ=>by
 have h1:=hρ l (by simp[Op.operands]);have h2:=hρ c (by simp[Op.operands]);rw[hl]at h1;rw[hc]at h2;have e1:=dH h1;have e2:=dH h2;have hu:P.underlying t=some (.slice et):=Dv ht;unfold dx at hs;cases hf:P.info? et with
 |none=>rw[hf]at hs;cases hs
 |some inf=>
  rw[hf]at hs;have SY:inf.size=sz:=by simpa using hs
  have Uw:=hz;unfold ff at Uw;rw[hf]at Uw;simp only[Option.bind_some,Option.map_eq_some_iff]at Uw;obtain⟨z,hzz,hae⟩:=Uw;have YM:jY P et=inf.bytes:=by unfold jY;rw[hf];rfl
  obtain⟨r1,r2⟩:=hr;rw[YM]at r1;have I':=run_make (P:=P) w.toWorld t et inf z hu hf hzz .i64 .i64 (n:Int) (n:Int) jB jB (by have h:((n*inf.bytes:Nat):Int)<=140737488355328:=jB;rw[Int.natCast_mul,Int.mul_comm]at h;omega) jB
  simp only[Int.toNat_natCast]at I';rw[SY]at I';have UG:∀cs∈List.replicate n (zs.map AV.raw),cs.length=sz:=fun cs UG=>by rw[(List.mem_replicate.1 UG).2];simpa using Wc
  have Uk:=kW UG;simp only[List.length_replicate]at Uk;obtain⟨q1,q2⟩:=wa (row:=.aK et sz (List.replicate n (zs.map AV.raw))) hw (hw.none hi _) (fun r' hr=>by rw[hi]at hr;cases hr) ⟨h0,UG⟩ (madeCells z.cells (n*sz)) ⟨rfl,by show(List.replicate n (zs.map AV.raw)).flatten.length<=_;rw[Uk,size_madeCells];exact Nat.le_refl _⟩ (fun k a v ha hv=>Lc hae Wc h0 k a v ha hv);refine⟨_,_,.rs i n sz n,e ▸ k,q1,q2,.inl ⟨.slice (some ⟨w.heap.size,0,none⟩) n n,?_,?_⟩⟩
  ·simp only[execOp,e1,e2];simp[I'];rfl
  ·have Tm:(((w.to (w.alloc (.cells (madeCells z.cells (n*sz)) et))).ga w.heap.size).name i n (.at w.heap.size (n*sz) sz)).nm i n=some (.at w.heap.size (n*sz) sz):=NW.cw _ _ _ _;have:=aB.rs (w:=((w.to (w.alloc (.cells (madeCells z.cells (n*sz)) et))).ga w.heap.size).name i n (.at w.heap.size (n*sz) sz)) i n sz n w.heap.size (n*sz) n Tm rfl jl h0;have e3:(Row.aK et sz (List.replicate n (zs.map AV.raw))).fY=n:=by show(List.replicate n (zs.map AV.raw)).length=n;simp
   have e4:(madeCells z.cells (n*sz)).size=n*sz:=size_madeCells _ _;rw[e3,e4];exact this
open Go.ChangeShapes Go.WideShapes Go.ChangeAt Go.RowKit
def bJ(a k:Nat):Nat:=1000+(8*k+a)
def lK(a k:Nat):1000<=bJ a k:=by unfold bJ;omega
def sk{a b k j:Nat}(ha:a<8)(hb:b<8)(h:bJ a k=bJ b j):a=b/\k=j:=by unfold bJ at h;omega
@[go_sem] def j5w(a k n:Nat)(h:n<1000):(bJ a k=n)=False:=by have:=lK a k;simp;omega
@[go_sem] def j6H(a k n:Nat)(h:n<1000):(n=bJ a k)=False:=by have:=lK a k;simp;omega
@[go_sem] def Oj(a b k j:Nat)(ha:a<8)(hb:b<8)(h:a≠b):(bJ a k=bJ b j)=False:=by simp;intro e;exact h (sk ha hb e).1
def gl(a:Nat)(f:SR):Nat->Nat->List SS->SF
 |_,0,l=>l
 |k,n+1,l=>(bJ a k,f k)::gl a f (k+1) n l
def bX(a n:Nat)(f:SR)(l:SF):SF:=gl a f 0 n l
theorem BS(a:Nat)(ha:a<8)(f:SR)(l:SF):∀(n k j:Nat),aD (gl a f k n l) (bJ a j)=if k<=j/\j<k+n then some (f j)else aD l (bJ a j)
 |0,k,j=>by unfold gl;rw[jN]
 |n+1,k,j=>by
  show(if bJ a j=bJ a k then some (f k)else aD (gl a f (k+1) n l) (bJ a j))=_;by_cases e:j=k
  ·subst e;rw[if_pos rfl,jP]
  ·rw[if_neg (fun h=>e (sk ha ha h).2),BS a ha f l n (k+1) j];by_cases h:k+1<=j/\j<k+1+n
   ·rw[if_pos h,jP]
   ·rw[if_neg h,jN]
theorem zH(a:Nat)(f:SR)(l:SF)(i:Nat)(hi:∀k,i≠bJ a k):∀(n k:Nat),aD (gl a f k n l) i=aD l i
 |0,k=>rfl
 |n+1,k=>by show(if i=bJ a k then some (f k)else aD (gl a f (k+1) n l) i)=_;rw[if_neg (hi k)];exact zH a f l i hi n (k+1)
@[go_sem] def si(a n:Nat)(f:SR)(l:SF)(i:Nat)(h:i<1000):aD (bX a n f l) i=aD l i:=zH a f l i (fun k e=>by have:=lK a k;omega) n 0
@[go_sem] def pj(a n:Nat)(f:SR)(l:SF)(b k:Nat)(ha:a<8)(hb:b<8)(h:a≠b):aD (bX a n f l) (bJ b k)=aD l (bJ b k):=zH a f l _ (fun j e=>h (sk hb ha e).1.symm) n 0
@[go_sem] def tY(a n:Nat)(f:SR)(l:SF)(k:Nat)(ha:a<8)(h:k<n):aD (bX a n f l) (bJ a k)=some (f k):=by unfold bX;rw[BS a ha,jP]
@[go_sem] def O5(a n:Nat)(f:SR)(l:SF)(k:Nat)(ha:a<8)(h:n<=k):aD (bX a n f l) (bJ a k)=aD l (bJ a k):=by unfold bX;rw[BS a ha,jN]
theorem B1(a:Nat)(f:SR)(l:SF)(i:Nat)(r:Row)(hi:∀k,i≠bJ a k):∀(n k:Nat),bD (gl a f k n l) i r=gl a f k n (bD l i r)
 |0,k=>rfl
 |n+1,k=>by unfold gl;show(if i=bJ a k then _ else _)=_;rw[if_neg (hi k),B1 a f l i r hi n (k+1)]
theorem Dh(a:Nat)(ha:a<8)(f:SR)(l:SF)(j:Nat)(r:Row):∀(n k:Nat),bD (gl a f k n l) (bJ a j) r=if k<=j/\j<k+n then gl a (fun q=>if q=j then r else f q) k n l else gl a f k n (bD l (bJ a j) r)
 |0,k=>by unfold gl;rw[jN]
 |n+1,k=>by
  have ih:=Dh a ha f l j r n (k+1);show(if bJ a j=bJ a k then _ else _)=_;by_cases e:j=k
  ·subst e;rw[if_pos rfl,jP];show _::_=(bJ a j,if j=j then r else f j)::gl a _ (j+1) n l;rw[if_pos rfl];have:∀(n k:Nat),j<k->gl a f k n l=gl a (fun q=>if q=j then r else f q) k n l:=by
    intro n;induction n with
    |zero=>intro k _;rfl
    |succ n ih=>intro k hk;unfold gl;rw[ih (k+1) jB,jN]
   rw[this n (j+1) jB]
  ·rw[if_neg (fun h=>e (sk ha ha h).2),ih];by_cases h:k+1<=j/\j<k+1+n
   ·rw[if_pos h,jP];show _=(bJ a k,if k=j then r else f k)::_;rw[if_neg (fun h=>e h.symm)]
   ·rw[if_neg h,jN];rfl
@[go_sem] def Db(a n:Nat)(f:SR)(l:SF)(i:Nat)(r:Row)(h:i<1000):bD (bX a n f l) i r=bX a n f (bD l i r):=B1 a f l i r (fun k e=>by have:=lK a k;omega) n 0
@[go_sem] def jy4(a n:Nat)(f:SR)(l:SF)(b k:Nat)(r:Row)(ha:a<8)(hb:b<8)(h:a≠b):bD (bX a n f l) (bJ b k) r=bX a n f (bD l (bJ b k) r):=B1 a f l _ r (fun j e=>h (sk hb ha e).1.symm) n 0
@[go_sem] def jy3(a n:Nat)(f:SR)(l:SF)(k:Nat)(r:Row)(ha:a<8)(h:k<n):bD (bX a n f l) (bJ a k) r=bX a n (fun q=>if q=k then r else f q) l:=by unfold bX;rw[Dh a ha,jP]
@[go_sem] def jxc(a n:Nat)(f:SR)(l:SF)(k:Nat)(r:Row)(ha:a<8)(h:n<=k):bD (bX a n f l) (bJ a k) r=bX a n f (bD l (bJ a k) r):=by unfold bX;rw[Dh a ha,jN]
theorem GB(a:Nat){f g:SR}(l:SF):∀(n k:Nat),(∀j,k<=j->j<k+n->f j=g j)->gl a f k n l=gl a g k n l
 |0,k,_=>rfl
 |n+1,k,h=>by unfold gl;rw[h k jB jB,GB a l n (k+1) fun j h1 h2=>h j jB jB]
variable{l l':SF}
def zw{a m:Nat}{f g:SR}(hn:n=m)(h:∀j,j<n->f j=g j)(hl:l=l'):bX a n f l=bX a m g l':=by subst hn hl;exact GB a l n 0 fun j _ h2=>h j jB
def vy(a n:Nat)(ha:a<8)(f:SR)(l:SF)(i:Nat):(∃k,k<n/\i=bJ a k/\aD (bX a n f l) i=some (f k))\/((∀k,k<n->i≠bJ a k)/\aD (bX a n f l) i=aD l i):=by
 by_cases h:∃k,i=bJ a k
 ·obtain⟨k,rfl⟩:=h;by_cases hk:k<n
  ·exact .inl ⟨k,hk,rfl,tY a n f l k ha hk⟩
  ·exact .inr ⟨fun j hj e=>hk ((sk ha ha e).2 ▸ hj),O5 a n f l k ha jB⟩
 ·exact .inr ⟨fun k _ e=>h ⟨k,e⟩,zH a f l i (fun k e=>h ⟨k,e⟩) n 0⟩
def eT{α:Type}(n:Nat)(f:Nat->α):List α:=(List.range n).map f
@[go_sem] def Rs{α:Type}(n:Nat)(f:Nat->α):(eT n f).length=n:=by simp[eT]
@[go_sem] def Nj(n:Nat)(f:Nat->SG)(k:Nat)(d:SG)(h:k<n):(eT n f).getD k d=f k:=by simp[eT,h]
variable{f:Nat->SG}
def Jo{l:SE}(hl:l.length=n)(h:∀k,k<n->l.getD k []=f k):l=eT n f:=by apply List.ext_getElem (by rw[hl,Rs]);intro i h1 h2;have:=h i jB;rw[List.getD_eq_getElem?_getD,List.getElem?_eq_getElem h1]at this;simpa[eT]using this
@[go_sem] def j6U(n:Nat)(f:Nat->SG)(k:Nat)(c:SG):(eT n f).set k c=eT n (fun q=>if q=k then c else f q):=by
 refine Jo (by simp[eT]) fun j hj=>?_
 rw[List.getD_eq_getElem?_getD,List.getElem?_set];by_cases e:k=j
 ·subst e;simp[eT,hj]
 ·rw[if_neg e,if_neg (fun h=>e h.symm)];simp[eT,hj]
@[go_sem] def j4V(n:Nat)(f:Nat->SG)(c:SG):eT n f++[c]=eT (n+1) (fun q=>if q=n then c else f q):=by
 refine Jo (by simp[eT]) fun j hj=>?_
 rw[List.getD_eq_getElem?_getD];by_cases e:j=n
 ·subst e;rw[if_pos rfl];simp[eT]
 ·rw[if_neg e,List.getElem?_append_left (by simp[eT];omega)];simp[eT,show j<n from jB]
def vM{α:Type}{m:Nat}{f g:Nat->α}(hn:n=m)(h:∀j,j<n->f j=g j):eT n f=eT m g:=by subst hn;unfold eT;exact List.map_congr_left fun j hj=>h j (by simpa using hj)
def yj{q:SP}(h:∀k,k<n->ba q (f k)=true):QL q (eT n f):=fun c hc=>by obtain⟨k,hk,rfl⟩:=List.mem_map.1 hc;exact h k (by simpa using hk)
variable{B:SJ}
def zd{r:AV}(l':SF)(h:∀i,aD l i=aD l' i):gT r ⟨B,l⟩ r ⟨B,l'⟩:=fun w v h1 h2=>by
 have hg:∀i,(Hp.mk B l').get i=(Hp.mk B l).get i:=fun i=>(h i).symm
 exact⟨w,rfl,{ rows:=fun i r hi=>h1.rows i r ((hg i) ▸ hi),dZ:=fun i m z hz=>by rw[hg];exact h1.dZ i m z hz,inj:=h1.inj,own:=h1.own,fin:=h1.fin,cv:=h1.cv },h2,{ ExtQ.refl _ w with base:=rfl }⟩
def Cs{w:NW}(h:∀i,aD l i=aD l' i)(h1:aT w ⟨B,l⟩):aT w ⟨B,l'⟩:=by
 have hg:∀i,(Hp.mk B l').get i=(Hp.mk B l).get i:=fun i=>(h i).symm
 exact{ rows:=fun i r hi=>h1.rows i r ((hg i) ▸ hi),dZ:=fun i m z hz=>by rw[hg];exact h1.dZ i m z hz,inj:=h1.inj,own:=h1.own,fin:=h1.fin,cv:=h1.cv }
structure Lays(E:List (Nat×Row)->List (Nat×Row))(tl:List (Nat×Row)):Prop where
 get:∀i,aD (E tl) i=(aD (E []) i).or (aD tl i)
 apart:∀i r,aD tl i=some r->aD (E []) i=none
def zI{P:SQ}{f:FuncId}{args:SG}{tl:SF}{E E':List SS->SF}{r0:AV}(hc:ai P f args (E []) fun r l'=>r=r0/\l'=E' [])(h1:Lays E tl)(h2:Lays E' tl)(h3:(ids (E' [])).Nodup)
  (ha:ba (fun i=>(ids (E [])).contains i) args=true) (hr:∀i r,aD (E []) i=some r->ba (fun i=>(ids (E [])).contains i) r.cells=true) (hk:K r0 ⟨B,E' tl⟩) (h4:∀i,aD (E []) i≠none->aD (E' []) i≠none):eu P f args ⟨B,E tl⟩ K:=fun w vs hw hv=>by
 refine(zz (H:=⟨B,E tl⟩) (K:=fun r H'=>r=r0/\∃l',H'=⟨B,l'⟩/\∀i,aD l' i=aD (E' tl) i) hc (fun i r hi=>?_) ha hr (fun r l' ⟨e1,e2⟩=>⟨fun i s hs=>?_,by rw[e2];exact h3,e1,_,rfl,fun i=>?_⟩) hw hv).mono ?_
 ·show aD (E tl) i=some r;rw[h1.get,hi];rfl
 ·cases e:aD (E []) i with
  |some x=>exact .inl (x9 e)
  |none=>
   right
   show aD (E tl) i=none;rw[h1.get,e,Option.none_or];cases e':aD tl i with
   |none=>rfl
   |some y=>rw[e2]at hs;have:=h2.apart i y e';rw[this]at hs;cases hs
 ·rw[e2,xV _ _ _ (fun _ _ _=>trivial) h3,h2.get,h1.get];cases e:aD (E' []) i with
  |some x=>rfl
  |none=>
   have:aD (E []) i=none:=Classical.byContradiction fun h=>h4 i h e
   rw[this];rfl
 ·rintro e W ⟨v,r,H',w',rfl,rfl,⟨rfl,l',rfl,hl⟩,g1,g2,g3⟩;exact⟨v,_,⟨B,E' tl⟩,w',rfl,rfl,hk,Cs hl g1,g2,{ g3 with base:=rfl }⟩
def cM{P:SQ}(i:Nat){H:Hp}(k:q)(hi:H.get i=none:=by first|rfl|exact dT)(hz:ff P t=some zs:=by(simp only[go_sem];rfl))(e:K (.pt i 0 0 0) (H.put i (.var t (zs.map .raw)))=q:=by exact fq):od P H t K:=yX i hz hi (e ▸ k)
def cz(i:Nat){x:AV}{H:Hp}(k:q)(hi:H.get i=none:=by first|rfl|exact dT)(ho:dp x.cells=true:=by simp only[go_sem])(e:K (.pt i 0 0 0) (H.put i (.var t x.cells))=q:=by exact fq):rJ H t x K:=Ab i ho hi (e ▸ k)
section
variable {α:Type}[DecidableEq α]
def pP(n:α):List α->SG->Option AV
 |k::ks,v::vs=>if n=k then some v else pP n ks vs
 |_,_=>none
def nK(n:α)(x:AV):List α->SG->SG
 |k::ks,v::vs=>if n=k then x::vs else v::nK n x ks vs
 |_,_=>[x]
def nH(n:α):List α->List α
 |k::ks=>if n=k then k::ks else k::nH n ks
 |[]=>[n]
theorem HS(n:α)(x:AV):∀(ks:List α) (vs:SG),ks.length=vs.length->(nH n ks).length=(nK n x ks vs).length
 |[],[],_=>rfl
 |[],_::_,h=>by simp at h
 |_::_,[],h=>by simp at h
 |k::ks,v::vs,h=>by
  have h:ks.length=vs.length:=by simpa using h
  unfold nH nK;split
  ·simp[h]
  ·simp[HS n x ks vs h]
structure kv(P:Program)(kt:TypeId)(enc:α->Value):Prop where
 NA:∃d,P.underlying kt=some d/\∀a b,Instr.sameNow d (enc a) (enc b)=some (decide (a=b))
 zv:∀(w:World) a e,(Instr.checkKey e 10000 kt (enc a)).run P w=.ok () w
 bits:∀a,Instr.sameBits 10000 (enc a) (enc a)=true
variable{P:SQ}{kt:SL}
def Oy(h:P.underlying kt=some (.int .i64)):kv P kt (Value.int .i64):=⟨⟨_,h,fun a b=>by simp[Instr.sameNow];rfl⟩,fun w a e=>MapKept.run_checkKey h (by simp[MapKept.IsKey]) e 9999,fun a=>by unfold Instr.sameBits;simp⟩
def Mi(h:P.underlying kt=some .string):kv P kt Value.string:=⟨⟨_,h,fun a b=>by
 have:(a == b)=decide (a=b):=by rw[Bool.eq_iff_iff,MapKept.bytes_beq];simp
 simp only[Instr.sameNow,this]⟩,fun w a e=>MapKept.run_checkKey h (by simp[MapKept.IsKey]) e 9999,fun a=>by unfold Instr.sameBits;exact(MapKept.bytes_beq a a).2 rfl⟩
def oi(n:α):List α->SO->Nat->Option (Nat×Value)
 |k::ks,v::vs,i=>if n=k then some (i,v)else oi n ks vs (i+1)
 |_,_,_=>none
theorem HR{d:TypeDesc}{enc:α->Value}(h:∀a b,Instr.sameNow d (enc a) (enc b)=some (decide (a=b)))(n:α):∀(ks:List α) (vs:SO) (b i:Nat),Instr.findNow d (enc n) (iO b (ks.map enc) vs) i=some (oi n ks vs i)
 |[],vs,b,i=>by simp[iO,oi,Instr.findNow]
 |k::ks,[],b,i=>by simp[iO,oi,Instr.findNow]
 |k::ks,v::vs,b,i=>by
  simp only[List.map_cons,iO,oi,Instr.findNow,h];by_cases e:n=k
  ·simp[e]
  ·simp[e,HR h n ks vs (b+1) (i+1)]
theorem By{n:α}:∀{ks:List α} {vs:SO} {i j:Nat} {v:Value},oi n ks vs i=some (j,v)->∃k,j=i+k/\vs[k]?=some v/\ks[k]?=some n/\k<ks.length/\
  (∀zl:SG,zl.length=ks.length->pP n ks zl=zl[k]?/\(∀x,nK n x ks zl=zl.set k x))/\nH n ks=ks
 |[],_,_,_,_,h=>by simp[oi]at h
 |_::_,[],_,_,_,h=>by simp[oi]at h
 |k::ks,v'::vs,i,j,v,h=>by
  unfold oi at h;split at h
  ·rename_i e;cases h;refine⟨0,rfl,rfl,by simp[e],jE,fun zl hl=>?_,by simp[nH,e]⟩;cases zl with
   |nil=>simp at hl
   |cons a zl=>exact⟨by simp[pP,e],fun x=>by simp[nK,e]⟩
  ·rename_i e;obtain⟨q,h1,h2,h3,h5,h4,h6⟩:=By h;refine⟨q+1,jB,by simpa using h2,by simpa using h3,by simpa using h5,fun zl hl=>?_,by unfold nH;rw[if_neg e,h6]⟩;cases zl with
   |nil=>simp at hl
   |cons a zl=> obtain⟨g1,g2⟩:=h4 zl (by simpa using hl);exact⟨by unfold pP;rw[if_neg e,g1];rfl,fun x=>by unfold nK;rw[if_neg e,g2];rfl⟩
theorem Bj{n:α}:∀{ks:List α} {vs:SO} {i:Nat},ks.length=vs.length->oi n ks vs i=none->(∀zl:SG,zl.length=ks.length->pP n ks zl=none/\∀x,nK n x ks zl=zl++[x])/\nH n ks=ks++[n]
 |[],_,_,_,_=>⟨fun zl hl=>by
   have:zl=[]:=by simpa using hl
   subst this;exact⟨rfl,fun x=>rfl⟩,rfl⟩
 |_::_,[],_,h,_=>by simp at h
 |k::ks,v'::vs,i,hl,h=>by
  unfold oi at h;split at h
  ·cases h
  ·rename_i e;obtain⟨g1,g2⟩:=Bj (by simpa using hl) h;refine⟨fun zl S6=>?_,by unfold nH;rw[if_neg e,g2];rfl⟩;cases zl with
   |nil=>simp at S6
   |cons a zl=> obtain⟨q1,q2⟩:=g1 zl (by simpa using S6);exact⟨by unfold pP;rw[if_neg e,q1],fun x=>by unfold nK;rw[if_neg e,q2];rfl⟩
theorem Ij:∀(b:Nat) (ks vs:SO) (k v:Value),ks.length=vs.length->iO b (ks++[k]) (vs++[v])=iO b ks vs++[⟨k,v,b+ks.length⟩]
 |b,[],[],k,v,_=>by simp[iO]
 |b,[],_::_,k,v,h=>by simp at h
 |b,_::_,[],k,v,h=>by simp at h
 |b,k'::ks,v'::vs,k,v,h=>by have:=Ij (b+1) ks vs k v (by simpa using h);simp only[List.cons_append,iO,this,List.length_cons];rw[show b+1+ks.length=b+(ks.length+1) from jB]
theorem DE:∀(b:Nat) (ks vs:SO) (j:Nat) (k v:Value),ks[j]?=some k->vs[j]?=some v->(iO b ks vs)[j]?=some ⟨k,v,b+j⟩
 |b,[],_,j,k,v,h,_=>by simp at h
 |b,_::_,[],j,k,v,_,h=>by simp at h
 |b,k'::ks,v'::vs,0,k,v,h1,h2=>by simp at h1 h2;subst h1 h2;rfl
 |b,k'::ks,v'::vs,j+1,k,v,h1,h2=>by have:=DE (b+1) ks vs j k v (by simpa using h1) (by simpa using h2);simp only[iO,List.getElem?_cons_succ,this];rw[show b+1+j=b+(j+1) from jB]
theorem Io:∀(b:Nat) (ks vs:SO) (j:Nat) (k v:Value),ks[j]?=some k->j<vs.length->iO b ks (vs.set j v)=(iO b ks vs).modify j fun e=>{ e with key:=k,val:=v }
 |b,[],_,j,k,v,h,_=>by simp at h
 |b,_::_,[],j,k,v,_,h=>by simp at h
 |b,k'::ks,v'::vs,0,k,v,h1,_=>by simp at h1;subst h1;simp[iO]
 |b,k'::ks,v'::vs,j+1,k,v,h1,h2=>by have:=Io (b+1) ks vs j k v (by simpa using h1) (by simpa using h2);simp[iO,this]
def EW{enc:α->Value}(K:kv P kt enc)(w:World)(n:α)(ks:List α)(vs:SO)(b:Nat):(Instr.findKey kt (enc n) (iO b (ks.map enc) vs)).run P w=.ok (oi n ks vs 0) w:=by obtain⟨d,h1,h2⟩:=K.NA;simp[Instr.findKey,run_underlying h1,HR h2,Result.andThen]
end
section
variable {P:SQ}{H:Hp}{α:Type}[DecidableEq α]
variable{i:Nat}{vs:SG}
def Ed{w:NW}(hw:aT w H){ks:SO}{b t s:Nat}(hi:H.get i=some (.mp ks vs))(hn:w.nm i 0=some (.at b t s)) :
  s=0/\ks.length=vs.length/\∃cur:SN,w.heap[b]?=some (.map (iO 0 ks cur.toList).toArray ks.length)/\cur.size=vs.length/\∀(k:Nat) a v,vs[k]?=some a->cur[k]?=some v->aB w a v:=by
 obtain⟨hok,z,hz,Tp⟩:=hw.rows _ _ hi;have:z=.at b t s:=by have hz:w.nm i 0=some z:=hz;rw[hn]at hz;cases hz;rfl
 subst this;obtain⟨h1,cur,hh,TJ,hr⟩:=Tp;exact⟨h1,hok,cur,hh,TJ,hr⟩
variable{ty t:SL}{K:SD}{q:Prop}
def uD(i:Nat){ev:SM}(k:q)(hi:H.get i=none:=by first|rfl|exact dT)(e:K (.mr i) (H.put i (.mp [] []))=q:=by exact fq):jT P (.makeMap t none) ty ev H K:=fun w ρ dst pos after guard hw hρ=>by
 obtain⟨q1,q2⟩:=wa (row:=.mp [] []) hw (hw.none hi _) (fun r' hr=>by rw[hi]at hr;cases hr) rfl #[] rfl (fun k a v ha hv=>by have ha:([]:SG)[k]?=some a:=ha;simp at ha)
 refine⟨_,_,.mr i,e ▸ k,q1,q2,.inl ⟨.map (some w.heap.size),?_,.mr _ _ _ _ (NW.cw _ _ _ _)⟩⟩;simp[execOp,Instr.makeMap,newObj,Result.andThen];rfl
variable{et:SL}{om ox:Operand}{op:Op}{enc:α->Value}
def Jk{ev:SM}{kt:SL}{ok:Operand}{ks:List α}{n:α}{x:AV}(UZ:op=.insert t om ok ox\/op=.mapUpdate t om ok ox)(hK:kv P kt enc)(ht:P.underlying t=some (.map kt et))
  (hm:ev om=.mr i) (hk:ev ok=.raw (enc n)) (hx:ev ox=x) (hi:H.get i=some (.mp (ks.map enc) vs)) (k:q) (e:K .any (H.put i (.mp ((nH n ks).map enc) (nK n x ks vs)))=q):jT P op ty ev H K:=fun w ρ dst pos after guard hw hρ=>by
 have ho:om∈op.operands.toList/\ok∈op.operands.toList/\ox∈op.operands.toList:=by rcases UZ with rfl|rfl<;>simp[Op.operands]
 have h1:=hρ om ho.1;have h2:=hρ ok ho.2.1;have h3:=hρ ox ho.2.2;rw[hm]at h1;rw[hk]at h2;rw[hx]at h3;have e2:=dH h2;cases e1:ρ om with
 |map r=>
  rw[e1]at h1;cases h1 with
  |mr _ b u s hn=>
  obtain⟨rfl,hl,cur,hh,SY,hr⟩:=Ed hw hi hn;have hl:ks.length=vs.length:=by simpa using hl
  have S9:ks.length=cur.toList.length:=by simp;omega
  have hb:b<w.heap.size:=hw.lt hn;have run:∀(vs':SO) (ks':List α),ks'.length=vs'.length->(nK n x ks vs).length=vs'.length->nH n ks=ks'->
    (Instr.mapUpdate t (ρ om) (ρ ok) (ρ ox)).run P w.toWorld=.ok () { w.toWorld with heap:=w.heap.setIfInBounds b (.map (iO 0 (ks'.map enc) vs').toArray ks'.length) }->
    (∀(k:Nat) a v,(nK n x ks vs)[k]?=some a->vs'[k]?=some v->aB w a v)->∃(w':NW) (H':Hp) (r:AV),K r H'/\aT w' H'/\Ext w H w' H'/\((∃v,(execOp ρ ⟨dst,op,ty,pos,after,guard⟩).run P w.toWorld=.ok (.value v) w'.toWorld/\aB w' r v)\/((execOp ρ ⟨dst,op,ty,pos,after,guard⟩).run P w.toWorld=.ok .skip w'.toWorld/\r=.any)):=fun vs' ks' Ur TA VU I' Tj=>by
   obtain⟨g1,g2⟩:=Hs (W:={ w.toWorld with heap:=w.heap.setIfInBounds b (.map (iO 0 (ks'.map enc) vs').toArray ks'.length) }) (row:=.mp (ks.map enc) vs) (row':=.mp ((nH n ks).map enc) (nK n x ks vs)) hw hi hn rfl jl (by show((nH n ks).map enc).length=_;rw[List.length_map];exact HS n x ks vs hl) rfl rfl rfl jE (fun c hc=>by
    show(w.heap.setIfInBounds b _)[c]?=_;rw[Array.getElem?_setIfInBounds,if_neg (fun h=>hc h.symm)]) vs'.toArray (by
    show(w.heap.setIfInBounds b _)[b]?=_;rw[Array.getElem?_setIfInBounds,if_pos rfl,if_pos hb,VU];simp[Row.obj]) (by show vs'.toArray.size=_;simp;omega) (fun k a v ha hv=>Tj k a v ha (by simpa using hv))
   refine⟨_,_,.any,e ▸ k,g1,g2,.inr ⟨?_,rfl⟩⟩;rcases UZ with rfl|rfl
   ·simp only[execOp,I'];simp[I',Result.andThen];rfl
   ·simp only[execOp,I'];simp[I',Result.andThen];rfl
  have T2:=EW hK w.toWorld n ks cur.toList 0;cases hf:oi n ks cur.toList 0 with
  |none=>
   obtain⟨f1,f2⟩:=Bj S9 hf;obtain⟨f3,f4⟩:=f1 vs jB;refine run (cur.toList++[ρ ox]) (ks++[n]) jF (by rw[f4];simp;omega) f2 ?_ ?_
   ·rw[e1,e2];have es:=Ij 0 (ks.map enc) cur.toList (enc n) (ρ ox) (by simpa using S9);rw[Nat.zero_add,List.length_map]at es;rw[List.map_append,List.map_singleton,es];simp[Instr.mapUpdate,run_underlying ht,MapKept.run_getObj_map hh,hK.zv,T2,hf,MapKept.run_setObj_map _ hh,Result.andThen]
   ·intro k a v ha hv;rw[f4]at ha;rcases Nat.lt_or_ge k vs.length with h|h
    ·rw[List.getElem?_append_left h]at ha;rw[List.getElem?_append_left jF]at hv;exact hr k a v ha (by simpa using hv)
    ·rw[List.getElem?_append_right h]at ha;rw[List.getElem?_append_right jF]at hv;have S3:k-vs.length=0:=by
      have:=(List.getElem?_eq_some_iff.1 ha).1;simp at this;omega
     rw[S3]at ha;rw[show k-cur.toList.length=0 by simp;omega]at hv;simp at ha hv;subst ha hv;exact h3
  |some jv=>
   obtain⟨j,v0⟩:=jv;obtain⟨k0,rfl,f2,f3,f5,f4,f6⟩:=By hf;rw[Nat.zero_add]at hf;obtain⟨f7,f8⟩:=f4 vs jB;refine run (cur.toList.set k0 (ρ ox)) ks jF (by rw[f8];simp;omega) f6 ?_ ?_
   ·rw[e1,e2];have VV:(ks.map enc)[k0]?=some (enc n):=by simp[f3]
    have es:=Io 0 (ks.map enc) cur.toList k0 (enc n) (ρ ox) VV jB;have eg:=DE 0 (ks.map enc) cur.toList k0 (enc n) v0 VV f2;rw[es];have hmod:∀g,(iO 0 (ks.map enc) cur.toList).toArray.modify k0 g=((iO 0 (ks.map enc) cur.toList).modify k0 g).toArray:=fun g=>jE
    simp[Instr.mapUpdate,run_underlying ht,MapKept.run_getObj_map hh,hK.zv,T2,hf,MapKept.run_setObj_map _ hh,Result.andThen,eg,Instr.keyThatStays,hK.bits]
   ·intro k a v ha hv;rw[f8,List.getElem?_set]at ha;rw[List.getElem?_set]at hv;by_cases SW:k0=k
    ·rw[if_pos SW]at ha hv;split at ha
     ·split at hv
      ·cases ha;cases hv;exact h3
      ·cases hv
     ·cases ha
    ·rw[if_neg SW]at ha hv;exact hr k a v ha (by simpa using hv)
 |_=>rw[e1]at h1;cases h1
def ov(n:α)(ks:List α)(vs:SG)(z:AV)(ok:Bool):AV:=if ok=true then(match pP n ks vs with|some v=>.bf [v,.raw (.bool true)]|none=>.bf [z,.raw (.bool false)])else(pP n ks vs).getD z
def FG{ev:SM}{kt:SL}{c:Bool}{ks:List α}{n:α}{z:Value}(hK:kv P kt enc)(ht:P.underlying t=some (.map kt et))(hz:(P.info? et).bind (·.zero)=some z)
  (hm:ev om=.mr i) (hk:ev ox=.raw (enc n)) (hi:H.get i=some (.mp (ks.map enc) vs)) (k:q) (e:K (ov n ks vs (.raw z) c) H=q):jT P (.lookup t om ox c) ty ev H K:=fun w ρ dst pos after guard hw hρ=>by
 have h1:=hρ om (by simp[Op.operands]);have h2:=hρ ox (by simp[Op.operands]);rw[hm]at h1;rw[hk]at h2;have e2:=dH h2;cases e1:ρ om with
 |map r=>
  rw[e1]at h1;cases h1 with
  |mr _ b u s hn=>
  obtain⟨rfl,hl,cur,hh,SY,hr⟩:=Ed hw hi hn;have hl:ks.length=vs.length:=by simpa using hl
  have S9:ks.length=cur.toList.length:=by simp;omega
  have T2:=EW hK w.toWorld n ks cur.toList 0;have hzr:(zeroValue et).run P w.toWorld=.ok z w.toWorld:=by
   cases hti:P.info? et with
   |none=>rw[hti]at hz;cases hz
   |some ti=>rw[hti]at hz;simp only[Option.bind_some]at hz;simp[zeroValue,typeInfo,hti,hz]
  cases hf:oi n ks cur.toList 0 with
  |none=>
   obtain⟨f1,f2⟩:=Bj S9 hf;obtain⟨f3,_⟩:=f1 vs jB;refine⟨w,H,_,e ▸ k,hw,Ext.refl w H,.inl ⟨if c=true then .tuple #[z,.bool false]else z,?_,?_⟩⟩
   ·simp only[execOp,e1,e2];cases c<;>simp[Instr.lookup,run_underlying ht,MapKept.run_getObj_map hh,hK.zv,T2,hf,hzr,Result.andThen]
   ·unfold ov;rw[f3];cases c
    ·exact .raw _
    ·exact .bf _ _ rfl fun i a v ha hv=>by
      match i with
      |0=>simp at ha hv;subst ha hv;exact .raw _
      |1=>simp at ha hv;subst ha hv;exact .raw _
      |i+2=>simp at ha
  |some jv=>
   obtain⟨j,v0⟩:=jv;obtain⟨k0,rfl,f2,f3,f5,f4,f6⟩:=By hf;obtain⟨f7,_⟩:=f4 vs jB;have S3:k0<vs.length:=jB;have Uq:aB w vs[k0] v0:=hr k0 _ v0 (List.getElem?_eq_getElem S3) (by simpa using f2);refine⟨w,H,_,e ▸ k,hw,Ext.refl w H,.inl ⟨if c=true then .tuple #[v0,.bool true]else v0,?_,?_⟩⟩
   ·simp only[execOp,e1,e2];cases c<;>simp[Instr.lookup,run_underlying ht,MapKept.run_getObj_map hh,hK.zv,T2,hf,Result.andThen]
   ·unfold ov;rw[f7,List.getElem?_eq_getElem S3];cases c
    ·exact Uq
    ·exact .bf _ _ rfl fun i a v ha hv=>by
      match i with
      |0=>simp at ha hv;subst ha hv;exact Uq
      |1=>simp at ha hv;subst ha hv;exact .raw _
      |i+2=>simp at ha
 |_=>rw[e1]at h1;cases h1
def qG(P:SQ)(t:SL):Option (Bool×SL):=match P.underlying t with
 |some (.map k e)=>match P.underlying k with
  |some .string=>some (true,e)
  |some (.int .i64)=>some (false,e)
  |_=>none
 |_=>none
def I2{e:SL}(h:qG P t=some (true,e)):∃k,P.underlying t=some (.map k e)/\kv P k Value.string:=by
 unfold qG at h;split at h
 ·rename_i k e' h1;split at h
  ·rename_i h2;cases h;exact⟨k,h1,Mi h2⟩
  ·cases h
  ·cases h
 ·cases h
def Iw{e:SL}(h:qG P t=some (false,e)):∃k,P.underlying t=some (.map k e)/\kv P k (Value.int .i64):=by
 unfold qG at h;split at h
 ·rename_i k e' h1;split at h
  ·cases h
  ·rename_i h2;cases h;exact⟨k,h1,Oy h2⟩
  ·cases h
 ·cases h
def lB{ev:SM}{ok:Operand}{n:Int}(ks:SI)(Yl:qG P t=some (false,et))(k:q)(UZ:op=.insert t om ok ox\/op=.mapUpdate t om ok ox:=by first|exact Or.inl rfl|exact Or.inr rfl)
  (hm:ev om=.mr i:=by rfl) (hk:ev ok=.raw (.int .i64 n):=by rfl) (hi:H.get i=some (.mp (ks.map (Value.int .i64)) vs):=by first|rfl|exact dT) (e:K .any (H.put i (.mp ((nH n ks).map (Value.int .i64)) (nK n (ev ox) ks vs)))=q:=by exact fq):jT P op ty ev H K:=by
 obtain⟨kt,h1,h2⟩:=Iw Yl;exact Jk UZ h2 h1 hm hk rfl hi k e
def vD{ev:SM}{ok:Operand}{n:SK}(ks:List SK)(Yl:qG P t=some (true,et))(k:q)(UZ:op=.insert t om ok ox\/op=.mapUpdate t om ok ox:=by first|exact Or.inl rfl|exact Or.inr rfl)
  (hm:ev om=.mr i:=by rfl) (hk:ev ok=.raw (.string n):=by rfl) (hi:H.get i=some (.mp (ks.map Value.string) vs):=by first|rfl|exact dT) (e:K .any (H.put i (.mp ((nH n ks).map Value.string) (nK n (ev ox) ks vs)))=q:=by exact fq):jT P op ty ev H K:=by
 obtain⟨kt,h1,h2⟩:=I2 Yl;exact Jk UZ h2 h1 hm hk rfl hi k e
def Ai{ev:SM}{c:Bool}{n:Int}(ks:SI)(z:Value)(r:AV)(Yl:qG P t=some (false,et))(hz:(P.info? et).bind (·.zero)=some z)(hr:ov n ks vs (.raw z) c=r)(k:q)
  (hm:ev om=.mr i:=by rfl) (hk:ev ox=.raw (.int .i64 n):=by rfl) (hi:H.get i=some (.mp (ks.map (Value.int .i64)) vs):=by first|rfl|exact dT) (e:K r H=q:=by exact fq):jT P (.lookup t om ox c) ty ev H K:=by
 obtain⟨kt,h1,h2⟩:=Iw Yl;exact FG h2 h1 hz hm hk hi k (hr ▸ e)
def mD{ev:SM}{c:Bool}{n:SK}(ks:List SK)(z:Value)(r:AV)(Yl:qG P t=some (true,et))(hz:(P.info? et).bind (·.zero)=some z)(hr:ov n ks vs (.raw z) c=r)(k:q)
  (hm:ev om=.mr i:=by rfl) (hk:ev ox=.raw (.string n):=by rfl) (hi:H.get i=some (.mp (ks.map Value.string) vs):=by first|rfl|exact dT) (e:K r H=q:=by exact fq):jT P (.lookup t om ox c) ty ev H K:=by
 obtain⟨kt,h1,h2⟩:=I2 Yl;exact FG h2 h1 hz hm hk hi k (hr ▸ e)
@[go_sem] def j1n{ev:SM}(t:SL)(r:Option Operand):vc P ev H ty K (.makeMap t r)=jT P (.makeMap t r) ty ev H K:=by simp[vc,dI]
@[go_sem] def j3V{ev:SM}(t:SL)(m k x:Operand):vc P ev H ty K (.insert t m k x)=jT P (.insert t m k x) ty ev H K:=by simp[vc,dI]
@[go_sem] def j3W{ev:SM}(t:SL)(m k:Operand)(c:Bool):vc P ev H ty K (.lookup t m k c)=jT P (.lookup t m k c) ty ev H K:=by simp[vc,dI]
end
attribute [go_sem] nK nH
-- what is new, in regions that leave their order open
section
variable {P:SQ}{A:AS}{ev:SM}{H:Hp}
@[go_sem] def j68:(∀{K:SD} (t:SL) (n:Nat) (ps:Array (Nat×Operand)),sO P A ev H K (.buildSlice t n ps)=nZ P H t n (ps.toList.map fun p=>(p.1,ev p.2)) (AP (fun r H'=>eO A H H'/\K r H') .mk))/\(∀{K:SD} (t:SL) (l c:Operand),sO P A ev H K (.makeSlice t l c)=jT P (.makeSlice t l c) 0 ev H (AP (fun r H'=>eO A H H'/\K r H') .mk))/\(∀{K:SD} (t:SL) (a x:Operand),sO P A ev H K (.call ⟨.builtin .append,#[a,x],#[t,t]⟩)=qs P t t (ev a) (ev x) H (AP (fun r H'=>eO A H H'/\K r H') .mk)):=by and_intros<;>(intros;rfl)
variable{t:SL}{sz:Nat}{zs:SO}{f:SD}{q:Prop}
def Qq(i:Nat){e:SL}{b:Bool}{x:AV}{c:Prop}{ys:SE}{d:io fun r H'=>eO A H H'/\f r H'}(k:q)(ht:iT P t=some e:=by(simp only[go_sem];rfl))(hs:dx P e=some sz:=by first|(simp only[go_sem];done)|(simp only[go_sem];rfl))(hz:ff P e=some zs:=by(simp only[go_sem];rfl))(Wc:zs.length=sz:=by rfl)(h0:0<sz:=by decide)
  (hx:tO H x=some (c,ys):=by first|rfl|exact dT) (hc:c:=by first|trivial|exact dT) (hg:lZ sz ys:=by first|exact Jf _ _ (fun _=>rfl)|exact dT) (hr:room (jY P e) ys.length:=by(simp only[go_sem];omega)) (hi:H.get i=none:=by first|rfl|exact dT)
  (e:f (.rs i ys.length sz ys.length) (H.put i (.aK e sz ys))=q:=by exact fq):qs P t t (.sl true sz [] []) x H (AP (fun r H'=>eO A H H'/\f r H') d):=by
 refine G9 ?_;unfold xi;rw[ht];simp only[hs,hz,hx];refine⟨⟨Wc,h0,hc,hg⟩,⟨rfl,by simpa using hr,.inl rfl⟩,i,hi,eO.put (by simpa using hi),?_⟩;simp only[List.length_nil,Nat.zero_add,List.nil_append];exact e ▸ k
variable{css:SE}
def pm(i:Nat){K:SD}(k:q)(h0:0<sz:=by decide)(hi:H.get i=none:=by first|rfl|exact dT)(e:K (.rs i css.length sz css.length) (H.put i (.aK t sz css))=q:=by exact fq):sc t sz css H K:=AB i h0 hi (e ▸ k)
def BO(i:Nat){d:io fun r H'=>eO A H H'/\f r H'}(k:q)(h0:0<sz:=by decide)(hi:H.get i=none:=by first|rfl|exact dT)(e:f (.rs i css.length sz css.length) (H.put i (.aK t sz css))=q:=by exact fq) :
  sc t sz css H (AP (fun r H'=>eO A H H'/\f r H') d):=AB i h0 hi ⟨eO.put hi,e ▸ k⟩
def GF(i:Nat){et:SL}{n:Nat}{l c:Operand}{d:io fun r H'=>eO A H H'/\f r H'}(k:q)(hl:ev l=.raw (.int .i64 (n:Int)):=by rfl)(hc:ev c=.raw (.int .i64 (n:Int)):=by rfl)(ht:iT P t=some et:=by(simp only[go_sem];rfl))(hs:dx P et=some sz:=by(simp only[go_sem];rfl))(hz:ff P et=some zs:=by(simp only[go_sem];rfl))(Wc:zs.length=sz:=by rfl)(h0:0<sz:=by decide)(hr:room (jY P et) n:=by(simp only[go_sem];omega))(hi:H.get i=none:=by first|rfl|exact dT)
  (e:f (.rs i n sz n) (H.put i (.aK et sz (List.replicate n (zs.map .raw))))=q:=by exact fq):jT P (.makeSlice t l c) 0 ev H (AP (fun r H'=>eO A H H'/\f r H') d):=
 Jt (K:=AP (fun r H'=>eO A H H'/\f r H') d) (q:=eO A H (H.put i (.aK et sz (List.replicate n (zs.map .raw))))/\q) i ⟨eO.put hi,k⟩ hl hc ht hs hz Wc h0 hr hi (by show(eO A H _/\f _ _)=_;rw[e])
variable{l0:SF}
def SB(h4:fresh [] H l0)(h5:(ids l0).Nodup):eO A H ⟨H.B,jR H.l l0⟩:=fun i r _ hi=>by
 left
 show aD (jR H.l l0) i=some r;rw[xV _ _ _ (fun _ _ _=>trivial) h5];cases e:aD l0 i with
 |none=>exact hi
 |some x=>
  rcases AN h4 i x e with h|h
  ·simp at h
  ·rw[hi]at h;cases h
def cN{f:FuncId}{args:SG}{g:SD}{d:io fun r H'=>eO A H H'/\g r H'}{r0:AV}(hc:ai P f args [] fun r l'=>r=r0/\l'=l0)(k:q)(h0:bn P f=true:=by exact dT)(h2:ba cZ args=true:=by exact dT)
 (h4:fresh [] H l0:=by exact dT) (h5:(ids l0).Nodup:=by exact dT) (e:g r0 ⟨H.B,jR H.l l0⟩=q:=by exact fq):fz P (.raw (.func (.func f) #[] #[])) args H (AP (fun r H'=>eO A H H'/\g r H') d):=
 mZ h0 (wF (K:=AP (fun r H'=>eO A H H'/\g r H') d) hc trivial (by simpa[ids]using h2) trivial h4 h5 ⟨SB h4 h5,e ▸ k⟩)
end
attribute [go_sem] zk
-- calls under guards, that change things
def GU(D:SJ):Option Tmp->Bool
 |some t=>D.contains t
 |none=>false
def GC(P:SQ)(ev:SM)(H:Hp)(K:SD):Op->Prop
 |.call { callee:=.value f,args,.. }=>fz P (ev f) (args.toList.map ev) H K
 |_=>False
def ku(D:SJ)(P:SQ)(ops:Array Oper)(K:SC):List Oper->SC
 |[],F,H=>K F H
 |o::rest,F,H=>match o.guard with
  |none=>vc P (bZ F) H o.type (fun r H'=>ku D P ops K rest (cH F o.dst r) H') o.op
  |some (j,want)=>match mV ops F j want with
   |some b=>if(GU D o.dst && lj o.op)=true then(b=true->gQ F o.op=true/\GC P (ci F) H (fun r H'=>ku D P ops K rest (cH F o.dst r) H') o.op)/\(b=false->ku D P ops K rest (cH F o.dst (.gd false (.raw (.bool false)))) H)
    else if lj o.op || iZ o.op then fj P F H b (fun r=>ku D P ops K rest (cH F o.dst r) H) o.op
    else(b=true->vc P (bZ F) H o.type (fun r H'=>ku D P ops K rest (cH F o.dst r) H') o.op)/\(b=false->ku D P ops K rest (cH F o.dst .any) H)
   |none=>False
section
variable {P:SQ}{ops:Array Oper}
theorem xw{D:SJ}{K:SC}:∀(l:List Oper) (F:SG) (H:Hp),ku D P ops K l F H->vP P ops K l F H
 |[],F,H,h=>G7 h
 |o::rest,F,H,h=>by
  refine Jp ?_;simp only[ku]at h;split at h
  ·rename_i hg;exact(qD (K:=fun F' H'=>ku D P ops K rest F' H') hg h).mono fun F' H' hk=>xw rest F' H' hk
  ·rename_i j want hg;split at h
   ·rename_i b hb;split at h
    ·rename_i hd;refine mS.mono (K:=fun F' H'=>ku D P ops K rest F' H') ?_ fun F' H' hk=>xw rest F' H' hk
     obtain⟨dst,op,ty,pos,after,guard⟩:=o;have hc:lj op=true:=by simp only[Bool.and_eq_true]at hd;exact hd.2
     cases op<;>first|(cases hc;done)|skip
     rename_i c;obtain⟨callee,args,ts⟩:=c;cases callee<;>first|(cases hc;done)|skip
     rename_i f;refine qJ hg hb (fun TR w tm Q next h1 h2 hn=>?_) (fun TR=>⟨.gd false (.raw (.bool false)),tv rfl,h.2 TR⟩);obtain⟨ok,Tn⟩:=h.1 TR;have WS:=tF ok;have e1:nj F f=ci F f:=WS f (by simp[Op.operands,Call.operands]);have e2:args.toList.map (nj F)=args.toList.map (ci F):=List.map_congr_left fun x hx=>WS x (by simp[Op.operands,Call.operands]at hx ⊢;exact .inr hx)
     refine ym (ev:=nj F) e1 e2 Tn h1 (vQ h2) fun v r' w' H' hR g1 g2 g3=>?_
     rw[Act.put_eq];exact hn _ w' _ H' hR g1 ((h2.ext g3).put dst g2 []) g3
    split at h
    ·refine mS.mono (K:=fun F' H'=>ku D P ops K rest F' H') ?_ fun F' H' hk=>xw rest F' H' hk
     obtain⟨dst,op,ty,pos,after,guard⟩:=o;unfold fj at h;split at h
     ·rename_i f args argTypes WQ;cases WQ;obtain⟨r,hc,hk⟩:=h;refine qJ hg hb (fun TR w tm Q next h1 h2 hn=>?_) (fun TR=>⟨_,tv TR,hk⟩);obtain⟨ok,Tn⟩:=hc TR;have WS:=tF ok;have e1:nj F f=ci F f:=WS f (by simp[Op.operands,Call.operands]);have e2:args.toList.map (nj F)=args.toList.map (ci F):=List.map_congr_left fun x hx=>WS x (by simp[Op.operands,Call.operands]at hx ⊢;exact .inr hx)
      refine ym (ev:=nj F) e1 e2 Tn h1 (vQ h2) fun v r' w' H' hR g1 g2 g3=>?_
      obtain⟨rfl,rfl⟩:=hR;rw[Act.put_eq];exact hn _ w' _ H' hk g1 ((h2.ext g3).put dst (vn TR g2) []) g3
     ·rename_i c x y WQ;simp only at WQ;subst WQ;obtain⟨hs,hk⟩:=h;refine qJ hg hb (fun TR w tm Q next h1 h2 hn=>?_) (fun TR=>⟨_,tv TR,hk⟩);obtain⟨ok,hq⟩:=hs TR;obtain⟨v,I',hv⟩:=HU (P:=P) (ρ:=(Act.mk tm []).eval) (dst:=dst) (ty:=ty) (pos:=pos) (after:=after) (guard:=guard) (CC h2 c ok) (h2.eval [] x) (h2.eval [] y) hq;simp only[Oper.wp,I',Oper.upon];rw[Act.put_eq];exact hn _ w _ H hk h1 (h2.put dst (vn TR hv) []) (Ext.refl w H)
     ·split at h
      ·obtain⟨hs,hk⟩:=h;refine qJ hg hb (fun TR w tm Q next h1 h2 hn=>?_) (fun TR=>⟨_,tv TR,hk⟩);obtain⟨ok,hq⟩:=hs TR;rw[<-uz _ (tF ok)]at hq;obtain⟨v,I',hv⟩:=yr (ρ:=(Act.mk tm []).eval) ⟨dst,op,ty,pos,after,guard⟩ h1 (vQ h2) hq;simp only[Oper.wp,I',Oper.upon];rw[Act.put_eq];rw[uz _ (tF ok)]at hv;exact hn _ w _ H hk h1 (h2.put dst (vn TR hv) []) (Ext.refl w H)
      ·exact h.elim
    ·refine mS.mono (K:=fun F' H'=>ku D P ops K rest F' H') ?_ fun F' H' hk=>xw rest F' H' hk
     refine qJ hg hb (fun TR w tm Q next h1 h2 hn=>?_) (fun TR=>⟨_,fun w=>.any _,h.2 TR⟩);exact BR (h.1 TR) h1 h2 (fun x=>h2.eval [] x) hn
   ·exact h.elim
end
section
variable {D:SJ}{P:SQ}{ops:Array Oper}{K:SC}
@[go_sem] def j5e(F:SG)(H:Hp):ku D P ops K [] F H=K F H:=(rfl)
@[go_sem] def j31(dst:Option Tmp)(op:Op)(ty:SL)(pos:String)(after:Array Edge)(rest:List Oper)(F:SG)(H:Hp) :
  ku D P ops K (⟨dst,op,ty,pos,after,none⟩::rest) F H=vc P (bZ F) H ty (AP (fun r H'=>ku D P ops K rest (cH F dst r) H') .mk) op:=(rfl)
def Du(P:SQ)(F:SG)(H:Hp)(K:SD):Op->Prop
 |.call { callee:=.value f,args,.. }=>((mh (bZ F f)).1=true/\tq F args.toList)/\fz P (ci F f) (args.toList.map (ci F)) H K
 |_=>False
@[go_sem] def j3S{F:SG}{H:Hp}{K:SD}(f:Operand)(zl:Array Operand)(ts:Array SL):Du P F H K (.call ⟨.value f,zl,ts⟩)=(((mh (bZ F f)).1=true/\tq F zl.toList)/\fz P (ci F f) (zl.toList.map (ci F)) H K):=(rfl)
def Mr{F:SG}{H:Hp}{K:SD}{op:Op}(h:lj op=true):(gQ F op=true/\GC P (ci F) H K op)=Du P F H K op:=by
 cases op<;>first|(cases h;done)|skip
 rename_i c;obtain⟨callee,args,ts⟩:=c;cases callee<;>first|(cases h;done)|skip
 rename_i f;rw[N6];rfl
@[go_sem] def j1t(t:Nat)(op:Op)(ty:SL)(pos:String)(after:Array Edge)(j:Nat)(want:Bool)(rest:List Oper)(F:SG)(H:Hp) :
  ku D P ops K (⟨some t,op,ty,pos,after,some (j,want)⟩::rest) F H=uu (mV ops F j want) (fun b=>qF (D.contains t && lj op)
   (v8 b (Du P F H (AP (fun r H'=>ku D P ops K rest (cH F (some t) r) H') .mk) op) (ku D P ops K rest (cH F (some t) (.gd false (.raw (.bool false)))) H) .mk .mk)
   (qF (lj op || iZ op) (fj P F H b (wR (fun r=>ku D P ops K rest (cH F (some t) r) H) .mk) op)
    ((b=true->vc P (bZ F) H ty (AP (fun r H'=>ku D P ops K rest (cH F (some t) r) H') .mk) op)/\(b=false->ku D P ops K rest (cH F (some t) .any) H)) .mk .mk) .mk .mk) .mk:=by
 conv=>lhs;unfold ku
 simp only;unfold uu qF v8 GU;cases mV ops F j want with
 |none=>rfl
 |some b=>
  simp only;by_cases hc:(D.contains t && lj op)=true
  ·rw[if_pos hc,if_pos hc];have hv:lj op=true:=by simp only[Bool.and_eq_true]at hc;exact hc.2
   rw[<-Mr hv];rfl
  ·rw[if_neg hc,if_neg hc];rfl
end
def sS{P:SQ}{id:Nat}{l:List Oper}{Q:Exit->SC}{F:SG}{H:Hp}(D:SJ)(h:q)(e:ku D P l.toArray (Q .normal) l F H=q:=by exact fq):dw P (.region id l.toArray false) Q F H:=
 HB (by simpa using xw l F H (e ▸ h))
variable {P:SQ}{H:Hp}
def Pm{e:SL}{d:Nat}{x:AV}{c:Prop}{css ys:SE}(k:q)(hd:H.get d=some (.aK e sz css):=by(simp(disch:=first|omega|assumption|fail) only[go_sem,sM,↓reduceIte,Int.reduceEq,Int.reduceLE,Int.reduceLT,Int.reduceNe,Int.reduceToNat,Nat.reduceMul,Nat.reduceAdd,Nat.reduceLeDiff,Nat.reduceSub,Nat.reduceEqDiff,Nat.reduceBEq,List.nodup_cons,List.nodup_nil,List.mem_cons,List.not_mem_nil,List.mem_nil_iff];first|rfl|exact⟨rfl,rfl⟩|exact⟨rfl,rfl,rfl⟩))(ht:iT P t=some e:=by first|(simp only[go_sem];done)|(simp only[go_sem];rfl))(VF:dx P e=some sz:=by(simp only[go_sem];done))(hze:ff P e=some zs:=by first|(simp only[go_sem];done)|(simp only[go_sem];rfl))(Wc:zs.length=sz:=by rfl)(h0:0<sz:=by decide)(hn:css.length=n:=by first|rfl|exact List.length_replicate|exact dT)(Yd:tO H x=some (c,ys):=by rfl)(hc:c:=by trivial)(hg:lZ sz ys:=by exact dT)(WV:ys.length<=n:=by first|assumption|(simp only[List.length_map];omega)|exact dT)
  (he:K (.raw (.int .i64 (ys.length:Nat))) (H.put d (.aK e sz (iK css 0 ys)))=q:=by exact fq):tC P .copy [t,t] [.rs d n sz n,x] H K:=by
 subst hn;have hk:=he ▸ k;intro w vs ty cs hw hr;obtain⟨vd,vx,rfl⟩:∃vd vx,vs=[vd,vx]:=by
  have:=hr.1;match vs,this with
  |[vd,vx],_=>exact⟨vd,vx,rfl⟩
 have hu:=Dv ht;obtain⟨i,z,hi,TQ,Wo,Yc,YM⟩:=CX VF hze Wc;obtain⟨A',cx,news,rfl,TT,UR⟩:=H8 hw (hr.2 1 _ vx rfl rfl) Yd hc hg;have V2:aB w (.rs d css.length sz css.length) vd:=hr.2 0 _ vd rfl rfl;have Uk:ys.flatten.length=ys.length*sz:=kW fun y hy=>(hg y hy).1
 have Vx:news.length=ys.length*sz:=by rw[<-TT.1,Uk]
 have VG:dp ys.flatten=true:=by simp only[dp,List.all_eq_true];intro u Y9;obtain⟨y,hy,huy⟩:=List.mem_flatten.1 Y9;have:=(hg y hy).2;simp only[dp,List.all_eq_true]at this;exact this u huy
 have hf:(Builtin.firstCells i.size ys.length (.slice A' ys.length cx)).run P w.toWorld=.ok news.toArray w.toWorld:=by
  by_cases h0:ys.length=0
  ·have:news=[]:=by have:=Vx;rw[h0,Nat.zero_mul]at this;simpa using this
   subst this;rw[h0];cases A'<;>simp[Builtin.firstCells,loadCells,loadCellsFrom]
  ·obtain⟨ad,rfl,J'⟩:=UR jB;exact run_firstCells_some (P:=P) w.toWorld i.size ys.length ad ys.length cx news (by rw[TQ];exact Vx) J'
 rw[TQ]at hf;have hok:=(hw.rows d _ hd).1;have TL:∀cs∈iK css 0 ys,cs.length=sz:=fun cs h=>by
  unfold iK at h;rcases List.mem_append.1 h with h|h
  ·rcases List.mem_append.1 h with h|h
   ·exact hok.2 _ (List.mem_of_mem_take h)
   ·exact(hg cs h).1
  ·exact hok.2 _ (List.mem_of_mem_drop h)
 have V3:=kW hok.2;have TA:=Gf (css:=css) ys (Nat.zero_le _);have hmn:Nat.min ys.length css.length=ys.length:=Nat.min_eq_left WV;generalize hN:css.length=N at V2;cases V2 with
 |iV _ _ _ A Tm=>
  have UX:ys=[]:=List.length_eq_zero_iff.1 jB;subst UX;refine⟨w,_,_,.int .i64 0,?_,hk,?_,.raw _,?_⟩
  ·have Zi:news=[]:=by simpa using Vx
   subst Zi;have hN':Nat.min ([]:SE).length 0=0:=rfl;have hf:(Builtin.firstCells sz 0 (.slice A' 0 cx)).run P w.toWorld=.ok #[] w.toWorld:=hf;cases A<;>simp[builtin,Builtin.copy_,run_underlying hu,Builtin.lenOf,sizeOf,typeInfo,hi,TQ,hf,storeCells,goInt]
  ·refine{ hw with rows:=fun j r hj=>?_,dZ:=fun j q z hz=>?_ }
   ·rw[Hp.bs]at hj;split at hj
    ·rename_i e;subst e;exact hw.rows j r (by rw[hd];exact hj)
    ·exact hw.rows j r hj
   ·rw[Hp.bs];split
    ·rename_i e;subst e;obtain⟨r,g1,g2⟩:=hw.dZ j q z hz;rw[hd]at g1;cases g1;exact⟨_,rfl,g2⟩
    ·exact hw.dZ j q z hz
  ·exact{ Ext.refl w H with base:=rfl }
 |rs _ _ _ _ b t' cap Tm WB Ta U4=>
  subst hN;obtain⟨_,z',Uw,Tp⟩:=hw.rows d _ hd;have:z'=.at b t' sz:=by have Uw:w.nm d css.length=some z':=Uw;rw[Tm]at Uw;cases Uw;rfl
  subst this;obtain⟨_,cur,hh,⟨UG,S9⟩,Xt⟩:=Tp;have S9:css.flatten.length<=t':=S9;have V1:css.length<=cap:=by rw[V3,<-WB]at S9;exact Nat.le_of_mul_le_mul_right S9 h0
  have Vn:0+ys.flatten.length<=t':=by rw[Uk,Nat.zero_add,<-WB];exact Nat.mul_le_mul_right _ (Nat.le_trans WV V1)
  obtain⟨w',I',g1,g2,g3⟩:=xF (P:=P) (off:=0) (r':=.aK e sz (iK css 0 ys)) hw hd Tm TT VG Vn rfl rfl rfl rfl (by show css.length<=(iK css 0 ys).length;rw[TA];omega) ⟨h0,TL⟩ (by show(iK css 0 ys).flatten.length<=t';rw[kW TL,TA,<-WB];exact Nat.mul_le_mul_right _ (Nat.max_le.2 ⟨V1,jB⟩)) (fun p u hp=>by
   have hp:(iK css 0 ys).flatten[p]?=some u:=hp;unfold iK at hp;rw[List.flatten_append,List.flatten_append]at hp;show if _ then _ else css.flatten[p]?=some u
   simp only[List.take_zero,List.flatten_nil,List.nil_append,Nat.zero_add]at hp;rcases Nat.lt_or_ge p (0+ys.flatten.length)with h'|h'
   ·rw[if_pos ⟨Nat.zero_le _,h'⟩];rw[List.getElem?_append_left jB]at hp;exact hp
   ·rw[jN];rw[List.getElem?_append_right jB]at hp;have e2:css.flatten=(css.take ys.length).flatten++(css.drop ys.length).flatten:=by rw[<-List.flatten_append,List.take_append_drop]
    have e3:(css.take ys.length).flatten.length=ys.flatten.length:=by rw[kW fun c hc=>hok.2 c (List.mem_of_mem_take hc),List.length_take,Nat.min_eq_left WV,Uk]
    rw[e2,List.getElem?_append_right jB,e3];exact hp)
  refine⟨w',_,_,.int .i64 ys.length,?_,hk,g1,.raw _,g2⟩;simp[builtin,Builtin.copy_,run_underlying hu,Builtin.lenOf,sizeOf,typeInfo,hi,TQ,hmn,hf,I',goInt]
mutual
def AV.ce(f:Nat->Nat):AV->AV
 |.raw v=>.raw v
 |.any=>.any
 |.agg cs=>.agg (fm f cs)
 |.bf cs=>.bf (fm f cs)
 |.sl x sz css d=>.sl x sz css d
 |.ip cs=>.ip cs
 |.gd p v=>.gd p (v.ce f)
 |.fZ g cs=>.fZ g (fm f cs)
 |.pt i m k j=>.pt (f i) m k j
 |.rs i m sz n=>.rs (f i) m sz n
 |.rv i m sz o n=>.rv (f i) m sz o n
 |.mr i=>.mr (f i)
 |.bd g fs=>.bd g (fm f fs)
 |.kZ t v=>.kZ t (v.ce f)
def fm(f:Nat->Nat):SG->SG
 |[]=>[]
 |a::l=>a.ce f::fm f l
end
theorem o7(f:Nat->Nat):∀(l:SG) (i:Nat),(fm f l)[i]?=(l[i]?).map (AV.ce f)
 |[],i=>by simp[fm]
 |a::l,0=>by simp[fm]
 |a::l,i+1=>by simp only[fm,List.getElem?_cons_succ];exact o7 f l i
theorem mH(f:Nat->Nat):∀l:SG,(fm f l).length=l.length
 |[]=>rfl
 |a::l=>by simp only[fm,List.length_cons,mH f l]
theorem Fk(f:Nat->Nat):∀l m:SG,fm f (l++m)=fm f l++fm f m
 |[],m=>rfl
 |a::l,m=>by simp only[List.cons_append,fm,Fk f l m]
def Row.ce(f:Nat->Nat):Row->Row
 |.var t cs=>.var t (fm f cs)
 |.aK e sz css=>.aK e sz (css.map (fm f))
 |.mp ks vs=>.mp ks (fm f vs)
def Row.jV(f:Nat->Nat)(r:Row):(r.ce f).fY=r.fY:=by cases r<;>simp[Row.ce,Row.fY]
def Row.kF(f:Nat->Nat)(r:Row):(r.ce f).bL=r.bL:=by cases r<;>rfl
def Row.gG(f:Nat->Nat)(r:Row):(r.ce f).cells=fm f r.cells:=by
 cases r with
 |var t cs=>rfl
 |aK e sz css=>
  show(css.map (fm f)).flatten=fm f css.flatten;induction css with
  |nil=>rfl
  |cons c css ih=>simp only[List.map_cons,List.flatten_cons,ih,Fk]
 |mp ks vs=>rfl
def Row.nV(f:Nat->Nat)(r:Row)(cur:SN):(r.ce f).obj cur=r.obj cur:=by cases r<;>rfl
def Row.nQ(f:Nat->Nat)(r:Row)(n t:Nat):(r.ce f).fit n t=r.fit n t:=by
 have h:=r.gG f;cases r with
 |var ty cs=> show(n=t/\(Row.var ty (fm f cs)).cells.length<=t)=_;have h:(Row.var ty (fm f cs)).cells=fm f (Row.var ty cs).cells:=h;rw[h,mH];rfl
 |aK e sz css=> show(n=t/\(Row.aK e sz (css.map (fm f))).cells.length<=t)=_;have h:(Row.aK e sz (css.map (fm f))).cells=fm f (Row.aK e sz css).cells:=h;rw[h,mH];rfl
 |mp ks vs=>show(n=(fm f vs).length)=_;rw[mH];rfl
variable{f:Nat->Nat}{r:Row}
def Row.uy(h:r.ok):(r.ce f).ok:=by
 cases r with
 |var t cs=>trivial
 |aK e sz css=> refine⟨h.1,fun cs UG=>?_⟩;obtain⟨c,hc,rfl⟩:=List.mem_map.1 UG;rw[mH];exact h.2 c hc
 |mp ks vs=>show ks.length=(fm f vs).length;rw[mH];exact h
def lg(f:Nat->Nat)(l:SF):SF:=l.map fun x=>(f x.1,x.2.ce f)
def Ar(f:Nat->Nat)(l:SF):ids (lg f l)=(ids l).map f:=by unfold ids lg;simp[List.map_map,Function.comp_def]
theorem zR{f g:Nat->Nat}(hf:∀i,g (f i)=i):∀(l:SF) (i:Nat),aD (lg f l) (f i)=(aD l i).map (Row.ce f)
 |[],i=>rfl
 |(j,r)::l,i=>by
  show(if f i=f j then some (r.ce f)else aD (lg f l) (f i))=((if i=j then some r else aD l i):Option Row).map _;by_cases h:i=j
  ·subst h;rw[if_pos rfl,if_pos rfl];rfl
  ·rw[if_neg h,if_neg (fun e=>h (by rw[<-hf i,<-hf j,e])),zR hf l i]
variable{j:Nat}
def xH{g:Nat->Nat}(hf:∀i,g (f i)=i){l:SF}(h:aD (lg f l) j=some r):∃i r0,j=f i/\r=r0.ce f/\aD l i=some r0:=by
 induction l with
 |nil=>cases h
 |cons x l ih=>
  obtain⟨k,s⟩:=x;have h:(if j=f k then some (s.ce f)else aD (lg f l) j)=some r:=h;by_cases e:j=f k
  ·rw[if_pos e]at h;cases h;exact⟨k,s,e,rfl,by simp[aD]⟩
  ·rw[if_neg e]at h;obtain⟨i,r0,h1,h2,h3⟩:=ih h;refine⟨i,r0,h1,h2,?_⟩;show(if i=k then some s else aD l i)=_;rw[if_neg (fun e'=>e (by rw[h1,e']))];exact h3
@[reducible] def NW.pull(f:Nat->Nat)(w:NW):NW:={ w with nm:=fun i m=>w.nm (f i) m }
@[reducible] def NW.push(f g:Nat->Nat)(w:NW):NW:={ w with nm:=fun j m=>if f (g j)=j then w.nm (g j) m else none }
def NW.o4{g:Nat->Nat}(hf:∀i,g (f i)=i)(w:NW):(w.push f g).pull f=w:=by
 obtain⟨W,O,nm⟩:=w;show NW.mk W O _=NW.mk W O nm;congr 1
 funext i m
 show(if f (g (f i))=f i then nm (g (f i)) m else none)=nm i m;rw[hf,if_pos rfl]
def FA{a:AV}{v:Value}{w0:NW}(h:aB w0 a v):∀w:NW,w0=w.pull f->aB w (a.ce f) v:=by
 induction h with
 |raw v=>intro w e;simp only[AV.ce];exact .raw v
 |any v=>intro w e;simp only[AV.ce];exact .any v
 |agg cs vs hl _ ih=>
  intro w e;simp only[AV.ce];refine .agg _ vs (by rw[mH];exact hl) fun i a v h1 h2=>?_
  rw[o7]at h1;cases hc:cs[i]? with
  |none=>rw[hc]at h1;cases h1
  |some b=>rw[hc]at h1;cases h1;exact ih i b v hc h2 w e
 |bf cs vs hl _ ih=>
  intro w e;simp only[AV.ce];refine .bf _ vs (by rw[mH];exact hl) fun i a v h1 h2=>?_
  rw[o7]at h1;cases hc:cs[i]? with
  |none=>rw[hc]at h1;cases h1
  |some b=>rw[hc]at h1;cases h1;exact ih i b v hc h2 w e
 |gw x sz A c hx=>intro w e;simp only[AV.ce];exact .gw x sz A c hx
 |sl x sz css a c vs hn hc hx SY hb hH J' TP _=>intro w e;subst e;simp only[AV.ce];exact .sl x sz css a c vs hn hc hx SY hb hH J' TP
 |ip cs a vs hb hH J' TP _=>intro w e;subst e;simp only[AV.ce];exact .ip cs a vs hb hH J' TP
 |gd p a v _ hu ih=>intro w e;simp only[AV.ce];exact .gd p _ v (fun hp=>ih hp w e) hu
 |fZ g cs vs hl _ ih=>
  intro w e;simp only[AV.ce];refine .fZ g _ vs (by rw[mH];exact hl) fun i a v h1 h2=>?_
  rw[o7]at h1;cases hc:cs[i]? with
  |none=>rw[hc]at h1;cases h1
  |some b=>rw[hc]at h1;cases h1;exact ih i b v hc h2 w e
 |pt i m k j b t s h=>intro w e;subst e;simp only[AV.ce];exact .pt (f i) m k j b t s h
 |iV i m sz A h=>intro w e;subst e;simp only[AV.ce];exact .iV (f i) m sz A h
 |rs i m sz n b t c h hc hn hs=>intro w e;subst e;simp only[AV.ce];exact .rs (f i) m sz n b t c h hc hn hs
 |lV i m sz o c A=>intro w e;simp only[AV.ce];exact .lV (f i) m sz o c A
 |rv i m sz o n b t c h hn=>intro w e;subst e;simp only[AV.ce];exact .rv (f i) m sz o n b t c h hn
 |mr i b t s h=>intro w e;subst e;simp only[AV.ce];exact .mr (f i) b t s h
 |bd g fs vs hl _ ih=>
  intro w e;simp only[AV.ce];refine .bd g _ vs (by rw[mH];exact hl) fun i a v h1 h2=>?_
  rw[o7]at h1;cases hc:fs[i]? with
  |none=>rw[hc]at h1;cases h1
  |some b=>rw[hc]at h1;cases h1;exact ih i b v hc h2 w e
 |kZ t a v _ ih=>intro w e;simp only[AV.ce];exact .kZ t _ v (ih w e)
mutual
theorem xf{f:Nat->Nat}{w:NW}:∀(a:AV) (v:Value),aB w (a.ce f) v->aB (w.pull f) a v
 |.raw x,v,h=>by simp only[AV.ce]at h;cases h;exact .raw _
 |.any,v,h=>.any v
 |.agg cs,v,h=>by
  simp only[AV.ce]at h;cases h with
  |agg _ vs hl hh=>exact .agg cs vs (by rw[mH]at hl;exact hl) fun i a u h1 h2=>yc cs i a h1 u (hh i _ u (by rw[o7,h1];rfl) h2)
 |.bf cs,v,h=>by
  simp only[AV.ce]at h;cases h with
  |bf _ vs hl hh=>exact .bf cs vs (by rw[mH]at hl;exact hl) fun i a u h1 h2=>yc cs i a h1 u (hh i _ u (by rw[o7,h1];rfl) h2)
 |.sl x sz css d,v,h=>by
  simp only[AV.ce]at h;cases h with
  |gw _ _ A c hx=>exact .gw x sz A c hx
  |sl _ _ _ a c vs hn hc hx SY hb hH J' TP=>exact .sl x sz css a c vs hn hc hx SY hb hH J' TP
 |.ip cs,v,h=>by
  simp only[AV.ce]at h;cases h with
  |ip _ a vs hb hH J' TP=>exact .ip cs a vs hb hH J' TP
 |.gd p x,v,h=>by
  simp only[AV.ce]at h;cases h with
  |gd _ _ _ h1 hu=>exact .gd p x v (fun hp=>xf x v (h1 hp)) hu
 |.fZ g cs,v,h=>by
  simp only[AV.ce]at h;cases h with
  |fZ _ _ vs hl hh=>exact .fZ g cs vs (by rw[mH]at hl;exact hl) fun i a u h1 h2=>yc cs i a h1 u (hh i _ u (by rw[o7,h1];rfl) h2)
 |.pt i m k j,v,h=>by
  simp only[AV.ce]at h;cases h with
  |pt _ _ _ _ b t s hn=>exact .pt i m k j b t s hn
 |.rs i m sz n,v,h=>by
  simp only[AV.ce]at h;cases h with
  |iV _ _ _ A hn=>exact .iV i m sz A hn
  |rs _ _ _ _ b t c hn h1 h2 h3=>exact .rs i m sz n b t c hn h1 h2 h3
 |.rv i m sz o n,v,h=>by
  simp only[AV.ce]at h;cases h with
  |lV _ _ _ _ c A=>exact .lV i m sz o c A
  |rv _ _ _ _ _ b t c hn h1=>exact .rv i m sz o n b t c hn h1
 |.mr i,v,h=>by
  simp only[AV.ce]at h;cases h with
  |mr _ b t s hn=>exact .mr i b t s hn
 |.bd g fs,v,h=>by
  simp only[AV.ce]at h;cases h with
  |bd _ _ vs hl hh=>exact .bd g fs vs (by rw[mH]at hl;exact hl) fun i a u h1 h2=>yc fs i a h1 u (hh i _ u (by rw[o7,h1];rfl) h2)
 |.kZ t x,v,h=>by
  simp only[AV.ce]at h;cases h with
  |kZ _ _ u h1=>exact .kZ t x u (xf x u h1)
theorem yc{f:Nat->Nat}{w:NW}:∀(l:SG) (i:Nat) (a:AV),l[i]?=some a->∀v,aB w (a.ce f) v->aB (w.pull f) a v
 |[],i,a,h,v,hv=>by simp at h
 |x::l,0,a,h,v,hv=>by
  have e:x=a:=by simpa using h
  rw[<-e]at hv ⊢;exact xf x v hv
 |x::l,i+1,a,h,v,hv=>yc l i a (by simpa using h) v hv
end
def QO{w:NW}{z:Rz}(h:jd (w.pull f) r z):jd w (r.ce f) z:=by
 cases z with
 |nil=> obtain⟨e,sz,rfl⟩:=h;exact⟨e,sz,rfl⟩
 |«at» b t s=>
  obtain⟨h1,cur,h2,h3,h4⟩:=h;refine⟨h1.trans (r.kF f).symm,cur,by rw[Row.nV];exact h2,by rw[Row.nQ];exact h3,fun i a v h5 h6=>?_⟩;rw[Row.gG,o7]at h5;cases hc:r.cells[i]? with
  |none=>rw[hc]at h5;cases h5
  |some c=>rw[hc]at h5;cases h5;exact FA (h4 i c v hc h6) w rfl
def Lr{w:NW}{z:Rz}(h:jd w (r.ce f) z):jd (w.pull f) r z:=by
 cases z with
 |nil=>
  obtain⟨e,sz,h⟩:=h;cases r with
  |var t cs=>cases h
  |aK e' sz' css=>
   have h:Row.aK e' sz' (css.map (fm f))=Row.aK e sz []:=h;cases css with
   |nil=>exact⟨e',sz',rfl⟩
   |cons c css=>cases h
  |mp ks vs=>cases h
 |«at» b t s=> obtain⟨h1,cur,h2,h3,h4⟩:=h;rw[Row.nV]at h2;rw[Row.nQ]at h3;refine⟨h1.trans (r.kF f),cur,h2,h3,fun i a v h5 h6=>?_⟩;exact xf a v (h4 i (a.ce f) v (by rw[Row.gG,o7,h5];rfl) h6)
theorem ai.ce{P:SQ}{fn:FuncId}{args:SG}{l:SF}{R:AV->List SS->Prop}{f g:Nat->Nat}(hf:∀i,g (f i)=i)(hc:ai P fn args l R) :
  ai P fn (fm f args) (lg f l) fun r l'=>∃r0 l0,r=AV.ce f r0/\l'=lg f l0/\R r0 l0:=fun w vs hw hv=>by
 have inj:∀{i j},f i=f j->i=j:=fun{i j} e=>by rw[<-hf i,<-hf j,e]
 have hW:aT (w.pull f) (entry l):={
  cv:=hw.cv
  rows:=fun i r hi=>by
   have hi:aD l i=some r:=hi;obtain⟨h1,z,h2,h3⟩:=hw.rows (f i) (r.ce f) (by show aD (lg f l) (f i)=_;rw[zR hf,hi];rfl);refine⟨?_,z,by rw[Row.jV]at h2;exact h2,Lr h3⟩;cases r with
   |var t cs=>trivial
   |aK e sz css=>exact⟨h1.1,fun cs UG=>by have:=h1.2 (fm f cs) (List.mem_map_of_mem UG);rw[mH]at this;exact this⟩
   |mp ks vs=>have h1:ks.length=(fm f vs).length:=h1;rw[mH]at h1;exact h1
  dZ:=fun i m z h=>by obtain⟨r,h1,h2⟩:=hw.dZ (f i) m z h;obtain⟨i',r0,e1,rfl,e3⟩:=xH hf h1;cases inj e1;exact⟨r0,e3,by rw[Row.jV]at h2;exact h2⟩
  inj:=fun i m j n b t s t' s' h1 h2=>inj (hw.inj _ _ _ _ _ _ _ _ _ h1 h2)
  own:=fun i m b t s h=>hw.own _ _ _ _ _ h
  fin:=hw.fin }
 have hV:bC (w.pull f) args vs:=⟨by have:=hv.1;rw[mH]at this;exact this,fun i a v h1 h2=>xf a v (hv.2 i _ v (by rw[o7,h1];rfl) h2)⟩;refine(hc (w.pull f) vs hW hV).mono ?_;rintro e W ⟨v,r,H',w',rfl,rfl,hR,h1,h2,h3⟩;have hp:=NW.o4 hf w';refine⟨v,r.ce f,⟨H'.B.map f,lg f H'.l⟩,w'.push f g,rfl,rfl,⟨r,H'.l,rfl,rfl,hR⟩,?_,?_,?_⟩
 ·exact{
   cv:=h1.cv
   rows:=fun j r hj=>by obtain⟨i,r0,rfl,rfl,e3⟩:=xH hf hj;obtain⟨k1,z,k2,k3⟩:=h1.rows i r0 e3;refine⟨Row.uy k1,z,?_,QO (w:=w'.push f g) (by rw[hp];exact k3)⟩;show(if f (g (f i))=f i then w'.nm (g (f i)) (r0.ce f).fY else none)=some z;rw[hf,if_pos rfl,Row.jV];exact k2
   dZ:=fun j m z h=>by
    have h:(if f (g j)=j then w'.nm (g j) m else none)=some z:=h;split at h
    ·rename_i e;obtain⟨r0,k1,k2⟩:=h1.dZ _ _ _ h;refine⟨r0.ce f,?_,by rw[Row.jV];exact k2⟩;show aD (lg f H'.l) j=_;rw[<-e,zR hf];have k1:aD H'.l (g j)=some r0:=k1;rw[k1];rfl
    ·cases h
   inj:=fun i m j n b t s t' s' k1 k2=>by
    have k1:(if f (g i)=i then w'.nm (g i) m else none)=some _:=k1;have k2:(if f (g j)=j then w'.nm (g j) n else none)=some _:=k2;split at k1
    ·rename_i e1;split at k2
     ·rename_i e2;have:=h1.inj _ _ _ _ _ _ _ _ _ k1 k2;rw[<-e1,<-e2,this]
     ·cases k2
    ·cases k1
   own:=fun i m b t s k=>by
    have k:(if f (g i)=i then w'.nm (g i) m else none)=some _:=k;split at k
    ·exact h1.own _ _ _ _ _ k
    ·cases k
   fin:=h1.fin }
 ·exact FA (w0:=w') h2 (w'.push f g) hp.symm
 ·exact{
   size:=h3.size
   free:=h3.free
   names:=fun j m z hj hz=>by have hj:(ids (lg f l)).contains j=true:=hj;rw[Ar]at hj;obtain⟨i,hi,rfl⟩:=List.mem_map.1 (List.contains_iff_mem.1 hj);have:=h3.names i m z (List.contains_iff_mem.2 hi) hz;show(if f (g (f i))=f i then w'.nm (g (f i)) m else none)=some z;rw[hf,if_pos rfl];exact this
   os:=h3.os,tape:=h3.tape,output:=h3.output
   rest:=fun b hb hO Td=>by
    obtain⟨k1,k2,k3⟩:=h3.rest b hb hO fun i m t s=>Td (f i) m t s
    refine⟨k1,k2,fun j m t s h=>?_⟩;have h:(if f (g j)=j then w'.nm (g j) m else none)=some _:=h;split at h
    ·exact k3 _ _ _ _ h
    ·cases h
   base:=by show H'.B.map f=ids (lg f l);rw[Ar];have:H'.B=ids l:=h3.base;rw[this] }
section
variable {P:SQ}{f:FuncId}{args fs:SG}{H:Hp}{K:SD}{q:Prop}
def bm{l l0:SF}{r0:AV}(hc:ai P f (fs++args) l fun r l'=>r=r0/\l'=l0)(k:q)(h1:fits l H:=by exact dT)(h0:bn P f=true:=by exact dT)(h2:ba (fun i=>(ids l).contains i) (fs++args)=true:=by exact dT)(h3:tH (fun i=>(ids l).contains i) l:=by exact dT)
 (h4:fresh (ids l) H l0:=by exact dT) (h5:(ids l0).Nodup:=by exact dT) (e:K r0 ⟨H.B,jR H.l l0⟩=q:=by exact fq):fz P (.bd f fs) args H K:=.inl ⟨h0,by have:=wF hc h1 h2 h3 h4 h5 (e ▸ k:K r0 ⟨H.B,jR H.l l0⟩);simpa using this⟩
end
section
variable {P:SQ}{H:Hp}
def zG(z:Value)(k:Nat):Builtin.zeroCells #[z] k=(List.replicate k z).toArray:=by
 apply Array.ext
 ·simp[Builtin.zeroCells]
 ·intro i h1 h2;simp[Builtin.zeroCells,Nat.mod_one]
def Mb(w:NW)(z:Value):∀k,cA w (List.replicate k [AV.raw z]).flatten (List.replicate k z):=fun k=>by
 have:(List.replicate k [AV.raw z]).flatten=(List.replicate k z).map .raw:=by simp[List.flatten_replicate_singleton]
 rw[this];refine⟨jE,fun i a v ha hv=>?_⟩;rw[List.getElem?_map,hv]at ha;simp at ha;subst ha;exact .raw _
def OS{t t' e:SL}{d m n k:Nat}{z0:Value}{css:SE}{K:SD}(hu:P.underlying t=some (.slice e))(Y9:∃d,P.underlying t'=some (.int d))(SY:dx P e=some 1)(hz:ff P e=some [z0])(XN:z0.oneCell'=true)
  (hd:H.get d=some (.aK e 1 css)) (hm:m=css.length) (hn:n=css.length) (Ux:room (jY P e) (css.length+k)) (hk:K (.rs d (css.length+k) 1 (css.length+k)) (H.put d (.aK e 1 (css++List.replicate k [.raw z0])))):qs P t t' (.rs d m 1 n) (.raw (.int .i64 k)) H K:=by
 subst hm hn;intro w va vx ty hw V2 Y8;have:=dH Y8;subst this;obtain⟨dk,Zj⟩:=Y9;obtain⟨i,z,hi,TQ,Wo,Yc,YM⟩:=CX SY hz rfl;obtain⟨VD,WG⟩:=Ux;rw[YM]at VD;have Xk:z.cells=#[z0]:=by unfold ff at hz;rw[hi]at hz;simp only[Option.bind_some,Wo,Option.map_some,Option.some.injEq]at hz;rw[<-Array.toList_inj,hz]
 have Vy:∀need old,need<=grownCap w.toWorld need old e:=fun need old=>by unfold grownCap Question.cut;simp
 have Zk:∀m,(Builtin.zeroCells z.cells m).size=m*1:=fun m=>by rw[Xk,zG];simp
 have hok:=(hw.rows d _ hd).1;have TL:∀cs∈css++List.replicate k [AV.raw z0],cs.length=1:=fun cs h=>by
  rcases List.mem_append.1 h with h|h
  ·exact hok.2 cs h
  ·rw[List.eq_of_mem_replicate h];rfl
 have TT:=Mb w z0 k;have Xz:IntKind.i64.wrap (k:Int)=k:=by
  have:IntKind.i64.wrap (k:Int)=(k:Int):=by unfold IntKind.wrap;simp[IntKind.bits,IntKind.signed];omega
  exact this
 have U1:¬(281474976710656<(k:Int)*i.bytes):=by have:k*i.bytes<=(css.length+k)*i.bytes:=Nat.mul_le_mul_right _ jB;have h2:((k*i.bytes:Nat):Int)<=140737488355328:=jB;rw[Int.natCast_mul]at h2;omega
 have Ym:¬((k:Int)<0):=jB;have TA:(css++List.replicate k [AV.raw z0]).length=css.length+k:=jE;have V3:=kW hok.2;generalize hgl:css.length=l at*;cases V2 with
 |iV _ _ _ A Tm=>
  obtain⟨_,z',Uw,Tp⟩:=hw.rows d _ hd;have:z'=.nil:=by have Uw:w.nm d css.length=some z':=Uw;rw[hgl,Tm]at Uw;cases Uw;rfl
  subst this;obtain⟨e2,sz3,Tp⟩:=Tp;cases Tp;simp only[List.length_nil]at hgl;by_cases S3:k=0
  ·subst S3;refine⟨w,_,_,.slice A 0 0,?_,hk,?_,.iV _ _ _ _ Tm,?_⟩
   ·have hw0:IntKind.i64.wrap 0=0:=Xz;cases A<;>simp[Builtin.append_,run_underlying hu,run_underlying Zj,sizeOf,typeInfo,hi,asInt,asIntOf,hw0,storeCells]
   ·refine{ hw with rows:=fun j r hj=>?_,dZ:=fun j q z hz=>?_ }
    ·rw[Hp.bs]at hj;split at hj
     ·rename_i e;subst e;exact hw.rows j r (by rw[hd];exact hj)
     ·exact hw.rows j r hj
    ·rw[Hp.bs];split
     ·rename_i e;subst e;obtain⟨r,g1,g2⟩:=hw.dZ j q z hz;rw[hd]at g1;cases g1;exact⟨_,rfl,g2⟩
     ·exact hw.dZ j q z hz
   ·exact{ Ext.refl w H with base:=rfl }
  ·simp only[List.nil_append,Nat.zero_add]at hk TL TA VD WG;obtain⟨w',e1,g1,g2,g3⟩:=tK (i:=d) (e:=e) (cap:=grownCap w.toWorld k 0 e) (css:=List.replicate k [AV.raw z0]) (rest:=Builtin.zeroCells z.cells (grownCap w.toWorld k 0 e-k)) hw jC TL TT (by rw[TA];exact Vy _ _) (by rw[TA];exact Zk _) (hw.later hd (by show([]:SE).length<_;rw[TA];simp;omega)) (fun r hr=>by rw[hd]at hr;cases hr;exact Nat.zero_le _);rw[TA]at g3;refine⟨w',_,_,_,?_,by simpa using hk,g1,by simpa using g3,g2⟩;rw[e1];have TH:¬(k=0):=S3;have U0:¬(9223372036854775807<(k:Int)):=jB;have Us:¬(281474976710656<Builtin.nextslicecap k 0*i.bytes):=by rw[nextslicecap_zero jB];omega
   cases A<;>simp[Builtin.append_,run_underlying hu,run_underlying Zj,sizeOf,typeInfo,zeroValue,hi,Wo,TQ,asInt,asIntOf,Xz,U1,Us,TH,U0,Ym,Question.forced,newRow,grownCap,Builtin.firstCells,loadCells,loadCellsFrom,Xk,zG]
 |rs _ _ _ _ b t' cap Tm WB Ta U4=>
  obtain⟨_,z',Uw,Tp⟩:=hw.rows d _ hd;have:z'=.at b t' 1:=by have Uw:w.nm d css.length=some z':=Uw;rw[hgl,Tm]at Uw;cases Uw;rfl
  subst this;obtain⟨_,cur,hh,⟨UG,S9⟩,Xt⟩:=Tp;have hh:w.heap[b]?=some (.cells cur e (0,0)):=hh;have S9:css.flatten.length<=t':=S9;have VG:dp (List.replicate k [AV.raw z0]).flatten=true:=by
   have:(List.replicate k [AV.raw z0]).flatten=(List.replicate k z0).map .raw:=by simp[List.flatten_replicate_singleton]
   rw[this];simp[dp,AV.one,XN]
  have U6:(List.replicate k [AV.raw z0]).flatten.length=k:=jE;by_cases TJ:l+k<=cap
  ·obtain⟨w',I',g1,g2,g3⟩:=xF (P:=P) (off:=l) (r':=.aK e 1 (css++List.replicate k [.raw z0])) hw hd (by show w.nm d css.length=_;rw[hgl];exact Tm) TT VG (by rw[U6];omega) rfl rfl rfl rfl (by show css.length<=(css++_).length;simp) ⟨jC,TL⟩ (by show(css++List.replicate k [AV.raw z0]).flatten.length<=t';rw[kW TL,TA];omega) (fun p u hp=>by
     have hp:(css++List.replicate k [AV.raw z0]).flatten[p]?=some u:=hp;rw[List.flatten_append]at hp;show if _ then _ else css.flatten[p]?=some u
     rcases Nat.lt_or_ge p l with h|h
     ·rw[jN];rw[List.getElem?_append_left jB]at hp;exact hp
     ·rw[List.getElem?_append_right jB]at hp;have SX:=(List.getElem?_eq_some_iff.1 hp).1;rw[if_pos ⟨h,jB⟩];rw[<-hp];congr 1;omega)
   refine⟨w',_,_,.slice (some ⟨b,0,none⟩) (l+k) cap,?_,hk,g1,?_,g2⟩
   ·have Xu:(⟨b,0,none⟩:Addr).add l=⟨b,l,none⟩:=by rw[lN];simp
    by_cases S3:k=0
    ·subst S3;have hw0:IntKind.i64.wrap 0=0:=Xz;have Zl:(storeCells ⟨b,l,none⟩ []).run P w.toWorld=.ok () w'.toWorld:=I';have WV:l<=cap:=jB;simp[Builtin.append_,run_underlying hu,run_underlying Zj,sizeOf,typeInfo,hi,TQ,asInt,asIntOf,hw0,WV,Xu,Zl]
    ·simp[Builtin.append_,run_underlying hu,run_underlying Zj,sizeOf,typeInfo,zeroValue,hi,Wo,TQ,asInt,asIntOf,Xz,U1,Ym,TJ,S3,Xu,Xk,zG,I']
   ·have g3:w'.nm d (css++List.replicate k [AV.raw z0]).length=some (.at b t' 1):=g3;rw[TA]at g3;exact .rs d _ 1 _ b t' cap g3 WB TJ jC
  ·have hold:cA w css.flatten (cur.toList.take l):=by
    refine⟨by simp only[List.length_take,Array.length_toList];omega,fun j a v XO hv=>?_⟩;rw[List.getElem?_take]at hv;split at hv
    ·exact Xt j a v XO (by simpa using hv)
    ·cases hv
   have Tv:=hold.append TT;rw[<-List.flatten_append]at Tv;obtain⟨w',e1,g1,g2,g3⟩:=tK (i:=d) (e:=e) (cap:=grownCap w.toWorld (l+k) cap e) (css:=css++List.replicate k [AV.raw z0]) (rest:=Builtin.zeroCells z.cells (grownCap w.toWorld (l+k) cap e-(l+k))) hw jC TL Tv (by rw[TA];exact Vy _ _) (by rw[TA];exact Zk _) (hw.later hd (by show css.length<_;rw[TA];omega)) (fun r hr=>by rw[hd]at hr;cases hr;show css.length<=_;rw[TA];omega);rw[TA]at g3;refine⟨w',_,_,_,?_,hk,g1,g3,g2⟩;rw[e1];have Yn:(Builtin.firstCells 1 l (.slice (some ⟨b,0,none⟩) l cap)).run P w.drew=.ok (cur.toList.take l).toArray w.drew:=by
    refine run_firstCells_some (P:=P) w.drew 1 l ⟨b,0,none⟩ l cap _ (by simp only[List.length_take,Array.length_toList];omega) (fun j v h=>?_);rw[List.getElem?_take]at h;split at h
    ·rw[lN,uo (w:=w.drew) b _ cur e (0,0) hh,Nat.zero_add];simpa using h
    ·cases h
   have TH:¬(l+k<=cap):=TJ;have U0:¬(9223372036854775807<(l:Int)+(k:Int)):=jB;have hfits:=growslice_fits (bytes:=i.bytes) (old:=cap) (show cap<l+k from jB) VD;have Us:¬(281474976710656<Builtin.nextslicecap (l+k) cap*i.bytes):=jB;have S3:¬(k=0):=jB;simp[Builtin.append_,run_underlying hu,run_underlying Zj,sizeOf,typeInfo,zeroValue,hi,Wo,TQ,asInt,asIntOf,Xz,U1,Us,TH,U0,Ym,S3,Question.forced,Yn,newRow,grownCap,Xk,zG];congr 2
   apply Array.ext';simp
end
abbrev sE:SK:=⟨#[]⟩
def vI(n:Int):ak:=⟨1,n,sE⟩
def vB(b:Bool):ak:=⟨2,if b=true then 1 else 0,sE⟩
def vT(s:SK):ak:=⟨3,0,s⟩
def vZ(t:Int):ak:=⟨t,0,sE⟩
def v0:ak:=⟨0,0,sE⟩
def jS(v:ak):Bool:=
 if v.ty=1 then decide (v.s=sE)
 else if v.ty=2 then decide (v.s=sE) && (decide (v.n=0) || decide (v.n=1))
 else if v.ty=3 then decide (v.n=0) && decide ((v.s.size:Int)<=40)
 else if v.ty=4 then decide (v.s=sE) && decide (0<=v.n)
 else false
def qA(sign:SK)(a b:Int):ak×Int:=
 if sign=(⟨#[43]⟩:SK)then(vI (IntKind.i64.wrap (a+b)),0)
 else if sign=(⟨#[45]⟩:SK)then(vI (IntKind.i64.wrap (a-b)),0)
 else if sign=(⟨#[42]⟩:SK)then(vI (IntKind.i64.wrap (a*b)),0)
 else if sign=(⟨#[47]⟩:SK)then(if b=0 then(v0,1)else(vI (IntKind.i64.wrap (a.tdiv b)),0))
 else if sign=(⟨#[37]⟩:SK)then(if b=0 then(v0,1)else(vI (a.tmod b),0))
 else if sign=(⟨#[60]⟩:SK)then(vB (decide (a<b)),0)
 else if sign=(⟨#[60,61]⟩:SK)then(vB (decide (a<=b)),0)
 else(v0,0)
def jq(sign:SK)(a b:ak):ak×Int:=
 if a.ty≠b.ty\/a.ty<1\/4<a.ty then(v0,0)
 else if sign=(⟨#[61,61]⟩:SK)then(vB (decide (a.n=b.n) && decide (a.s=b.s)),0)
 else if sign=(⟨#[33,61]⟩:SK)then(vB (!(decide (a.n=b.n) && decide (a.s=b.s))),0)
 else if a.ty=1 then qA sign a.n b.n
 else if a.ty=2 then(if sign=(⟨#[124,124]⟩:SK)then(vB (decide (a.n=1) || decide (b.n=1)),0)else if sign=(⟨#[38,38]⟩:SK)then(vB (decide (a.n=1) && decide (b.n=1)),0)else(v0,0))
 else if a.ty=3 then(if sign=(⟨#[43]⟩:SK)then(if(a.s.size:Int)+b.s.size>40 then(v0,6)else(vT (a.s++b.s),0))else(v0,0))
 else(v0,0)
def jX(sign:SK)(a:ak):ak:=
 if sign=(⟨#[45]⟩:SK)/\a.ty=1 then vI (IntKind.i64.wrap (-a.n))
 else if sign=(⟨#[33]⟩:SK)/\a.ty=2 then vB (!decide (a.n=1))
 else v0
def j8(n:Int):Bool:=decide (48<=n) && decide (n<=57)
def xl(n:Int):Bool:=(decide (97<=n) && decide (n<=122)) || (decide (65<=n) && decide (n<=90))
def wU(s:SK):Bool:=decide ((s.size:Int)<19) || (decide ((s.size:Int)=19) && (Op.bytesLess s.toList (⟨#[57,50,50,51,51,55,50,48,51,54,56,53,52,55,55,53,56,48,55]⟩:SK).toList || decide (s=(⟨#[57,50,50,51,51,55,50,48,51,54,56,53,52,55,55,53,56,48,55]⟩:SK))))
def pn(s:SK):Nat->Int
 |0=>1
 |k+1=>if eZ s k=10 then pn s k+1 else pn s k
theorem Ff(s:SK):∀k,1<=pn s k/\pn s k<=k+1
 |0=>by simp[pn]
 |k+1=>by have:=Ff s k;unfold pn;split<;>omega
def fX:List SK:=[(⟨#[102,110]⟩:SK),(⟨#[108,101,116]⟩:SK),(⟨#[105,102]⟩:SK),(⟨#[101,108,115,101]⟩:SK),(⟨#[119,104,105,108,101]⟩:SK),(⟨#[114,101,116,117,114,110]⟩:SK),(⟨#[112,114,105,110,116]⟩:SK),(⟨#[105,110,112,117,116]⟩:SK),(⟨#[110,101,119]⟩:SK),(⟨#[108,101,110]⟩:SK),(⟨#[116,114,117,101]⟩:SK),(⟨#[102,97,108,115,101]⟩:SK),(⟨#[105,110,116]⟩:SK),(⟨#[98,111,111,108]⟩:SK),(⟨#[116,101,120,116]⟩:SK),(⟨#[108,105,115,116]⟩:SK)]
def Rc:fX.length=16:=rfl
def wi(s:SK):Bool:=fX.any fun t=>decide (t=s)
-- the first one
theorem Af{α:Type}[Inhabited α]{p:α->Bool}:∀{l:List α} {k:Nat},(∀j,j<k->p (nth l j)=false)->k<l.length->p (nth l k)=true->l.find? p=some (nth l k)
 |[],k,_,h,_=>by simp at h
 |x::l,0,_,_,hp=>by have:p x=true:=hp;rw[List.find?_cons,this];rfl
 |x::l,k+1,h,hk,hp=>by have h0:p x=false:=h 0 jB;rw[List.find?_cons,h0];exact Af (fun j hj=>h (j+1) jB) (by simpa using hk) hp
variable{α:Type}
def A8[Inhabited α]{p:α->Bool}{l:List α}(h:∀j,j<l.length->p (nth l j)=false):l.find? p=none:=by rw[List.find?_eq_none];intro x hx;obtain⟨j,hj,rfl⟩:=List.getElem_of_mem hx;have:=h j hj;rw[dV hj]at this;simp[this]
variable{k:Nat}
def Cd{n:Nat}(h:k<n):nth (List.range n) k=k:=by simp[nth,h]
-- bytes of which p holds
def qi(p:Int->Bool)(s:SK):Nat->Nat->Nat
 |0,i=>i
 |n+1,i=>if i<s.size/\p (eZ s i)=true then qi p s n (i+1)else i
def iL(p:Int->Bool)(s:SK)(i:Nat):Nat:=qi p s (s.size+1) i
theorem Jh{p:Int->Bool}{s:SK}{k:Nat}(Wg:¬(k<s.size/\p (eZ s k)=true)):∀{n i:Nat},i<=k->k<n+i->(∀j,i<=j->j<k->j<s.size/\p (eZ s j)=true)->qi p s n i=k
 |0,i,h1,h2,_=>by omega
 |n+1,i,h1,h2,h3=>by
  unfold qi;by_cases e:i=k
  ·subst e;rw[if_neg Wg]
  ·rw[if_pos (h3 i jl jB)];exact Jh Wg jB jB fun j hj=>h3 j jB
variable{p:Int->Bool}{s:SK}{i:Nat}
def zW(Wg:¬(k<s.size/\p (eZ s k)=true))(h1:i<=k)(hk:k<=s.size)(h3:∀j,i<=j->j<k->p (eZ s j)=true):iL p s i=k:=
 Jh Wg h1 jB fun j hj Zf=>⟨jB,h3 j hj Zf⟩
theorem zM{p:Int->Bool}{s:SK}:∀{n i:Nat},i<=qi p s n i/\(i<=s.size->qi p s n i<=s.size)
 |0,i=>⟨Nat.le_refl _,id⟩
 |n+1,i=>by
  unfold qi;split
  ·have:=zM (p:=p) (s:=s) (n:=n) (i:=i+1);exact⟨jB,fun _=>this.2 jB⟩
  ·exact⟨Nat.le_refl _,id⟩
def vN(h:i<=s.size):i<=iL p s i/\iL p s i<=s.size:=⟨zM.1,zM.2 h⟩
def xE(h:i<s.size)(hp:p (eZ s i)=true):i<iL p s i:=by unfold iL;unfold qi;rw[if_pos ⟨h,hp⟩];have:=(zM (p:=p) (s:=s) (n:=s.size) (i:=i+1)).1;omega
theorem H6{p:Int->Bool}{s:SK}:∀{n i j:Nat},i<=j->j<qi p s n i->p (eZ s j)=true
 |0,i,j,h1,h2=>by unfold qi at h2;omega
 |n+1,i,j,h1,h2=>by
  unfold qi at h2;split at h2
  ·rename_i h;by_cases e:j=i
   ·subst e;exact h.2
   ·exact H6 jB h2
  ·omega
-- jg between tokens
def yL(c:Int):Bool:=decide (c=32) || decide (c=9) || decide (c=13) || decide (c=10)
def zA(s:SK)(i:Nat):Bool:=decide (eZ s i=47) && decide (i+1<s.size) && decide (eZ s (i+1:Nat)=47)
def tg(c:Int):Bool:=decide (c≠10)
def my(s:SK)(i:Nat):Option Nat:=if i<s.size then(if yL (eZ s i)=true then some (i+1)else if zA s i=true then some (iL tg s i)else none)else none
def nI(s:SK):Nat->Nat->Nat
 |0,i=>i
 |n+1,i=>match my s i with
  |some j=>nI s n j
  |none=>i
def yW(h:my s i=some j):i<j/\j<=s.size:=by
 unfold my at h;split at h
 ·rename_i hi;split at h
  ·cases h;omega
  ·split at h
   ·rename_i hc;cases h;have Tb:tg (eZ s i)=true:=by
     simp only[zA,Bool.and_eq_true,decide_eq_true_eq]at hc;simp[tg,hc.1.1]
    exact⟨xE hi Tb,(vN jB).2⟩
   ·cases h
 ·cases h
theorem D4(s:SK):∀(n m i:Nat),s.size<n+i->s.size<m+i->nI s n i=nI s m i
 |0,0,i,_,_=>rfl
 |0,m+1,i,h,_=>by
  unfold nI;have:my s i=none:=by unfold my;rw[jN]
  rw[this]
 |n+1,0,i,_,h=>by
  unfold nI;have:my s i=none:=by unfold my;rw[jN]
  rw[this]
 |n+1,m+1,i,h1,h2=>by
  unfold nI;cases e:my s i with
  |none=>rfl
  |some j=> have:=yW e;exact D4 s n m j jB jB
def oW(s:SK)(i:Nat):Nat:=nI s (s.size+1) i
def EX(h:my s i=some j):oW s i=oW s j:=by have:=yW h;show nI s (s.size+1) i=nI s (s.size+1) j;rw[nI,h];exact D4 s _ _ j jB jB
def Ih(h:my s i=none):oW s i=i:=by show nI s (s.size+1) i=i;rw[nI,h]
theorem AH{s:SK}:∀{n i:Nat},i<=nI s n i/\(i<=s.size->nI s n i<=s.size)
 |0,i=>⟨Nat.le_refl _,id⟩
 |n+1,i=>by
  unfold nI;cases e:my s i with
  |none=>exact⟨Nat.le_refl _,id⟩
  |some j=> have h1:=yW e;have h2:=AH (s:=s) (n:=n) (i:=j);exact⟨by simp only;omega,fun _=>h2.2 h1.2⟩
def u6(h:i<=s.size):i<=oW s i/\oW s i<=s.size:=⟨AH.1,AH.2 h⟩
-- tokens
def uE(c:Int):Bool:=decide (32<=c) && decide (c<=126) && decide (c≠34)
def oD(s:SK)(a:Nat):SK×Int×Int:=
 let i:=iL uE s (a+1)
 if i<s.size/\eZ s i=34 then(if(i:Int)-a-1>12 then(⟨#[]⟩,a,4)else(s.extract (a+1) i,(i:Int)+1,0))else(⟨#[]⟩,a,11)
def jw:List SK:=[(⟨#[124,124]⟩:SK),(⟨#[38,38]⟩:SK),(⟨#[60,61]⟩:SK),(⟨#[61,61]⟩:SK),(⟨#[33,61]⟩:SK)]
def iB:SK:=(⟨#[40,41,123,125,91,93,44,59,61,60,43,45,42,47,37,33]⟩:SK)
def qT(s t:SK):Bool:=decide (2<=(s.size:Int)) && decide (s.extract 0 2=t)
def oo(s:SK):SK:=match jw.find? (qT s)with
 |some t=>t
 |none=>match (List.range 16).find? fun k:Nat=>decide (eZ s 0=eZ iB (k:Nat))with
  |some k=>iB.extract k (k+1)
  |none=>⟨#[]⟩
def py(c:Int):Bool:=xl c || j8 c || decide (c=95)
def O3{b:SK}(h:b.size=0):b=⟨#[]⟩:=by obtain⟨d⟩:=b;have:d=#[]:=Array.size_eq_zero_iff.1 h;rw[this]
def vw:cB:=⟨0,⟨#[]⟩,0⟩
def ik(s:SK)(a:Nat):cB×Int×Int:=
 if j8 (eZ s a)=true then
  (if wU (s.extract a (iL j8 s a))=true then(⟨1,s.extract a (iL j8 s a),a⟩,(iL j8 s a:Nat),0)else(vw,a,12))
 else if xl (eZ s a)=true then
  (if wi (s.extract a (iL py s a))=true then(⟨4,s.extract a (iL py s a),a⟩,(iL py s a:Nat),0)
  else if((s.extract a (iL py s a)).size:Int)>8 then(vw,a,13)else(⟨3,s.extract a (iL py s a),a⟩,(iL py s a:Nat),0))
 else if eZ s a=34 then(⟨2,(oD s a).1,a⟩,(oD s a).2.1,(oD s a).2.2)
 else if oo (s.extract a s.size)=⟨#[]⟩then(vw,a,10)
 else(⟨5,oo (s.extract a s.size),a⟩,a+(oo (s.extract a s.size)).size,0)
def Q1(s:SK):(oo s).size<=2:=by
 unfold oo;cases h:jw.find? (qT s)with
 |some t=> have hm:=List.mem_of_find?_eq_some h;have:∀t∈jw,t.size<=2:=jC;exact this t hm
 |none=>
  cases h2:(List.range 16).find? fun k:Nat=>decide (eZ s 0=eZ iB (k:Nat))with
  |some k=> simp only;rw[ByteArray.size_extract];omega
  |none=>decide
variable{t:SK}
def Sc(h:jw.find? (qT s)=some t):t.size=2/\2<=s.size:=by have hm:=List.mem_of_find?_eq_some h;have hp:=List.find?_some h;have:∀t∈jw,t.size=2:=jC;simp only[qT,Bool.and_eq_true,decide_eq_true_eq]at hp;exact⟨this t hm,jB⟩
def RE(hs:0<s.size):(oo s).size<=s.size:=by
 unfold oo;cases h:jw.find? (qT s)with
 |some t=>have:=Sc h;simp only;omega
 |none=>
  cases h2:(List.range 16).find? fun k:Nat=>decide (eZ s 0=eZ iB (k:Nat))with
  |some k=> simp only;rw[ByteArray.size_extract];omega
  |none=>exact Nat.zero_le _
variable{a:Nat}
def zC(ha:a<s.size)(h:(ik s a).2.2=0):∃e:Nat,(ik s a).2.1=e/\a<e/\e<=s.size:=by
 unfold ik at h ⊢;split at h<;>rename_i h1
 ·rw[if_pos h1]at*;split at h<;>rename_i h2
  ·rw[if_pos h2];exact⟨_,rfl,xE ha h1,(vN jB).2⟩
  ·cases h
 ·rw[if_neg h1]at*;split at h<;>rename_i h2
  ·rw[if_pos h2];have hw:py (eZ s a)=true:=by simp[py,h2]
   split at h<;>rename_i h3
   ·rw[if_pos h3];exact⟨_,rfl,xE ha hw,(vN jB).2⟩
   ·rw[if_neg h3];split at h<;>rename_i h4
    ·cases h
    ·rw[if_neg h4];exact⟨_,rfl,xE ha hw,(vN jB).2⟩
  ·rw[if_neg h2];split at h<;>rename_i h3
   ·rw[if_pos h3];have hb:=vN (p:=uE) (s:=s) (i:=a+1) jB;simp only[oD]at h ⊢;split at h<;>rename_i h4
    ·rw[if_pos h4];split at h<;>rename_i h5
     ·cases h
     ·rw[if_neg h5];exact⟨iL uE s (a+1)+1,jE,jB,jB⟩
    ·cases h
   ·rw[if_neg h3];split at h<;>rename_i h4
    ·cases h
    ·rw[if_neg h4];have SY:(s.extract a s.size).size=s.size-a:=by rw[ByteArray.size_extract];omega
     have Ta:=RE (s:=s.extract a s.size) jB;have Tk:0<(oo (s.extract a s.size)).size:=by
      rcases Nat.eq_zero_or_pos (oo (s.extract a s.size)).size with e|e
      ·exact(h4 (O3 e)).elim
      ·exact e
     exact⟨a+(oo (s.extract a s.size)).size,jE,jB,jB⟩
def mb(s:SK):Nat->Nat->List cB->List cB×Int×Int
 |0,_,out=>(out,0,0)
 |n+1,i,out=>if i<s.size then
   (if(ik s i).2.2=0 then mb s n (oW s (ik s i).2.1.toNat) (out++[(ik s i).1])else([],((i:Nat):Int),(ik s i).2.2))
  else(out++[⟨0,⟨#[]⟩,s.size⟩],0,0)
theorem H5(s:SK):∀(n m i:Nat) (out:List cB),s.size<n+i->s.size<m+i->i<=s.size->mb s n i out=mb s m i out
 |0,_,i,_,h,_,h3=>by omega
 |_,0,i,_,_,h,h3=>jB
 |n+1,m+1,i,out,h1,h2,h3=>by
  unfold mb;split
  ·rename_i hi;split
   ·rename_i he;obtain⟨e,h4,h5,h6⟩:=zC hi he;rw[h4,Int.toNat_natCast];have:=u6 (s:=s) (i:=e) h6;exact H5 s n m _ _ jB jB this.2
   ·rfl
  ·rfl
def wh(s:SK)(i:Nat)(out:List cB):List cB×Int×Int:=mb s (s.size+1) i out
def Q9{out:List cB}(hi:i<s.size)(he:(ik s i).2.2=0):wh s i out=wh s (oW s (ik s i).2.1.toNat) (out++[(ik s i).1]):=by show mb s (s.size+1) i out=mb s (s.size+1) _ _;rw[mb,if_pos hi,if_pos he];obtain⟨e,h4,h5,h6⟩:=zC hi he;rw[h4,Int.toNat_natCast];have:=u6 (s:=s) (i:=e) h6;exact H5 s _ _ _ _ jB jB this.2
def Nn{out:List cB}(hi:i<s.size)(he:(ik s i).2.2≠0):wh s i out=([],((i:Nat):Int),(ik s i).2.2):=by show mb s (s.size+1) i out=_;rw[mb,if_pos hi,if_neg he]
def KV{out:List cB}(hi:¬i<s.size):wh s i out=(out++[⟨0,⟨#[]⟩,s.size⟩],0,0):=by show mb s (s.size+1) i out=_;rw[mb,if_neg hi]
def kV(s:SK):List cB×Int×Int:=if(s.size:Int)>600 then([],0,4)else wh s (oW s 0) []
structure Rd where
 src:ByteArray
 l:List cB
 i:Int
 nodes:List bu
 deep:Int
 e:Int
 at_:Int
 deriving Inhabited
namespace Rd
def tok(r:Rd):cB:=nth r.l r.i.toNat
def aG(r:Rd)(e:Int):Rd:=if r.e=0 then{ r with e:=e,at_:=r.tok.at_ }else r
def is(r:Rd)(t:SK):Bool:=decide (r.e=0) && (decide (r.tok.kind=5) || decide (r.tok.kind=4)) && decide (r.tok.text=t)
def kind(r:Rd)(k:Int):Bool:=decide (r.e=0) && decide (r.tok.kind=k)
def inc(r:Rd):Rd:={ r with i:=r.i+1 }
def ar(r:Rd)(t:SK):Rd:=if r.is t=true then r.inc else r.aG 20
def name(r:Rd):Rd×SK:=if r.kind 3=true then(r.inc,r.tok.text)else(r.aG 20,⟨#[]⟩)
def cU(r:Rd):Int:=pn r.src (min r.src.size r.tok.at_.toNat)
def node(r:Rd)(n:bu):Rd:={ r with nodes:=r.nodes++[n] }
def put(r:Rd)(k ln n:Int)(nm:SK)(L:SI):Rd×Int:=(r.node ⟨k,ln,n,nm,L⟩,r.nodes.length)
def down(r:Rd):Rd:={ (if 16<=r.deep then r.aG 21 else r)with deep:=r.deep+1 }
def up(r:Rd):Rd:={ r with deep:=r.deep-1 }
end Rd
def nL(level:Int):List SK:=
 if level=0 then[(⟨#[124,124]⟩:SK)]else if level=1 then[(⟨#[38,38]⟩:SK)]else if level=2 then[(⟨#[60]⟩:SK),(⟨#[60,61]⟩:SK),(⟨#[61,61]⟩:SK),(⟨#[33,61]⟩:SK)]else if level=3 then[(⟨#[43]⟩:SK),(⟨#[45]⟩:SK)]else[(⟨#[42]⟩:SK),(⟨#[47]⟩:SK),(⟨#[37]⟩:SK)]
namespace Rd
section
variable (r:Rd)(e:Int)
@[go_sem] def HT:(r.aG e).src=r.src:=by unfold aG;split<;>rfl
@[go_sem] def gD:(r.aG e).l=r.l:=by unfold aG;split<;>rfl
@[go_sem] def vY:(r.aG e).i=r.i:=by unfold aG;split<;>rfl
@[go_sem] def dW:(r.aG e).nodes=r.nodes:=by unfold aG;split<;>rfl
@[go_sem] def KT:(r.aG e).deep=r.deep:=by unfold aG;split<;>rfl
end
section
variable (r:Rd)
@[go_sem] def j6B:(r.inc.src=r.src)/\(r.inc.l=r.l)/\(r.inc.i=r.i+1)/\(r.inc.nodes=r.nodes)/\(r.inc.deep=r.deep)/\(r.inc.e=r.e)/\(r.inc.at_=r.at_)/\(r.up.src=r.src)/\(r.up.l=r.l)/\(r.up.i=r.i)/\(r.up.nodes=r.nodes)/\(r.up.deep=r.deep-1)/\(r.up.e=r.e)/\(r.up.at_=r.at_):=by and_intros<;>(intros;rfl)
end
def next(r:Rd)(level:Int):SK:=match (nL level).find? (fun s=>r.is s)with
 |some s=>s
 |none=>⟨#[]⟩
def nW(r:Rd):cB:=nth r.l (r.i+1).toNat
def calls(r:Rd):Bool:=r.kind 3 && decide (r.nW.kind=5) && decide (r.nW.text=(⟨#[40]⟩:SK))
def word(r:Rd):SK:=if r.kind 4=true then r.tok.text else⟨#[]⟩
end Rd
def wI(s:SK):Nat->Int
 |0=>0
 |k+1=>wI s k*10+(eZ s k-48)
def qo(s:SK):Int:=wI s s.size
mutual
def qv:Nat->Rd->Rd×Int
 |0,r=>(r,0)
 |n+1,r=>
  if r.e≠0 then(r,0)
  else if r.tok.kind=1 then r.inc.put 1 r.cU (qo r.tok.text) ⟨#[]⟩ []
  else if r.tok.kind=2 then r.inc.put 3 r.cU 0 r.tok.text []
  else if r.tok.kind=3 then
   (if r.inc.is (⟨#[91]⟩:SK)=true then
    (((eH n 0 (r.inc.down.ar (⟨#[91]⟩:SK))).1.ar (⟨#[93]⟩:SK)).up).put 5 r.cU 0 r.tok.text [(eH n 0 (r.inc.down.ar (⟨#[91]⟩:SK))).2]
   else r.inc.put 4 r.cU 0 r.tok.text [])
  else if r.is (⟨#[116,114,117,101]⟩:SK)=true then r.inc.put 2 r.cU 1 ⟨#[]⟩ []
  else if r.is (⟨#[102,97,108,115,101]⟩:SK)=true then r.inc.put 2 r.cU 0 ⟨#[]⟩ []
  else if r.is (⟨#[108,101,110]⟩:SK)=true then
   (if r.inc.is (⟨#[40]⟩:SK)=true then
    (((eH n 0 (r.inc.down.ar (⟨#[40]⟩:SK))).1.ar (⟨#[41]⟩:SK)).up).put 6 r.cU 0 ⟨#[]⟩ [(eH n 0 (r.inc.down.ar (⟨#[40]⟩:SK))).2]
   else(r.inc.aG 20,0))
  else if r.is (⟨#[40]⟩:SK)=true then
   (((eH n 0 (r.down.ar (⟨#[40]⟩:SK))).1.ar (⟨#[41]⟩:SK)).up,(eH n 0 (r.down.ar (⟨#[40]⟩:SK))).2)
  else(r.aG 20,0)
def iA:Nat->Rd->Rd×Int
 |0,r=>(r,0)
 |n+1,r=>
  if r.is (⟨#[45]⟩:SK)=true then((iA n r.down.inc).1.up).put 7 r.cU 0 ⟨#[]⟩ [(iA n r.down.inc).2]
  else if r.is (⟨#[33]⟩:SK)=true then((iA n r.down.inc).1.up).put 8 r.cU 0 ⟨#[]⟩ [(iA n r.down.inc).2]
  else qv n r
def eH:Nat->Nat->Rd->Rd×Int
 |0,_,r=>(r,0)
 |n+1,lv,r=>if lv=5 then iA n r else oO n lv r.cU (eH n (lv+1) r)
def oO:Nat->Nat->Int->Rd×Int->Rd×Int
 |0,_,_,p=>p
 |n+1,lv,ln,p=>
  if p.1.next lv=⟨#[]⟩then p
  else if lv=2 then((eH n (lv+1) p.1.inc).1).put 9 ln 0 (p.1.next lv) [p.2,(eH n (lv+1) p.1.inc).2]
  else oO n lv ln (((eH n (lv+1) p.1.inc).1).put 9 ln 0 (p.1.next lv) [p.2,(eH n (lv+1) p.1.inc).2])
end
-- what is kept
def Rd.rem(r:Rd):Nat:=if r.e=0 then(r.l.length-r.i).toNat else 0
def Rd.ee(r:Rd):Int:=r.nodes.length+3*(r.l.length-r.i)+if r.e=0 then 1 else 0
def rC(s:SK):Prop:=0<s.size/\wU s=true/\∀j,j<s.size->j8 (eZ s j)=true
structure Rd.Inv(r:Rd):Prop where
 src:r.src.size<=1000
 pos:0<=r.i
 lt:r.i<r.l.length
 len:r.l.length<=2000
 num:∀k,k<r.l.length->(nth r.l k).kind=1->rC (nth r.l k).text
 tk:∀k,k<r.l.length->(nth r.l k).kind≠0->k+1<r.l.length
 pv:0<=r.deep
 qf:r.deep<=17
 Ll:r.e=0->r.deep<=16
 ee:r.ee<=8000
structure Rd.St(r r':Rd):Prop where
 src:r'.src=r.src
 l:r'.l=r.l
 deep:r'.deep=r.deep
 i:r.i<=r'.i
 lt:r'.i<r.l.length
 ee:r'.ee<=r.ee
 err:r.e≠0->r'.e≠0
variable{r r':Rd}
def Rd.St.inv(s:Rd.St r r')(h:r.Inv):r'.Inv:=by
 obtain⟨s1,s2,s3,s4,s5,s6,s7⟩:=s;obtain⟨h1,h2,h3,h4,hn,h5,h6,h7,h8,h9⟩:=h;exact⟨by rw[s1];exact h1,jB,by rw[s2];exact s5,by rw[s2];exact h4,by rw[s2];exact hn,by rw[s2];exact h5,jB,jB,fun h=>by rw[s3];exact h8 (Classical.byContradiction fun e=>s7 e h),jB⟩
def Rd.St.refl(h:r.Inv):Rd.St r r:=⟨rfl,rfl,rfl,Int.le_refl _,h.lt,Int.le_refl _,id⟩
theorem Rd.St.trans{a b c:Rd}(h:Rd.St a b)(k:Rd.St b c):Rd.St a c:=
 ⟨k.src.trans h.src,k.l.trans h.l,k.deep.trans h.deep,Int.le_trans h.i k.i,by have:=k.lt;rw[h.l]at this;exact this,Int.le_trans k.ee h.ee,fun e=>k.err (h.err e)⟩
theorem Rd.St.rem{r r':Rd}(s:Rd.St r r'):r'.rem<=r.rem:=by
 unfold Rd.rem;have h1:=s.i;have h2:=s.l;by_cases e:r.e=0
 ·rw[if_pos e,h2];split<;>omega
 ·rw[if_neg e,if_neg (s.err e)];exact Nat.le_refl _
def Rd.behind(h:r.Inv)(hk:r.tok.kind≠0):r.i+1<r.l.length:=by have:=h.tk r.i.toNat (by have:=h.lt;have:=h.pos;omega) hk;have:=h.pos;omega
def Rd.aZ(h:r.is t=true):r.e=0/\r.tok.kind≠0:=by simp only[Rd.is,Bool.and_eq_true,Bool.or_eq_true,decide_eq_true_eq]at h;exact⟨h.1.1,by rcases h.1.2 with h|h<;>omega⟩
def Rd.dX{k:Int}(h:r.kind k=true)(h0:k≠0):r.e=0/\r.tok.kind≠0:=by simp only[Rd.kind,Bool.and_eq_true,decide_eq_true_eq]at h;exact⟨h.1,jB⟩
def Rd.fT(h:r.Inv)(e:Int)(he:e≠0):Rd.St r (r.aG e):=by
 refine⟨HT _ _,gD _ _,KT _ _,by rw[vY];exact Int.le_refl _,by rw[vY];exact h.lt,?_,fun h1=>by unfold aG;rw[if_neg h1];exact h1⟩;unfold Rd.ee;rw[dW,gD,vY];by_cases e0:r.e=0
 ·have:(r.aG e).e=e:=by unfold aG;rw[if_pos e0]
  rw[this,if_pos e0,if_neg he];omega
 ·have:(r.aG e).e=r.e:=by unfold aG;rw[if_neg e0]
  rw[this];omega
def Rd.bv(h:r.Inv)(hk:r.tok.kind≠0):Rd.St r r.inc/\r.inc.ee=r.ee-3:=by
 have:=Rd.behind h hk;have e:r.inc.ee=r.ee-3:=by simp only[Rd.ee,Rd.inc];omega
 exact⟨⟨rfl,rfl,rfl,by simp only[Rd.inc];omega,by simp only[Rd.inc];omega,jB,id⟩,e⟩
def Rd.aQ(h:r.Inv)(t:SK):Rd.St r (r.ar t):=by
 unfold Rd.ar;split
 ·rename_i hs;exact(Rd.bv h (Rd.aZ hs).2).1
 ·exact Rd.fT h 20 jC
def Rd.dv(h:r.Inv):Rd.St r r.name.1:=by
 unfold Rd.name;split
 ·rename_i hs;exact(Rd.bv h (Rd.dX hs jC).2).1
 ·exact Rd.fT h 20 jC
def Rd.mG(r:Rd)(n:bu):(r.node n).ee=r.ee+1:=by simp only[Rd.ee,Rd.node,List.length_append,List.length_cons,List.length_nil];omega
def Rd.dh(s:Rd.St r r')(hp:r'.ee+1<=r.ee)(k ln n:Int)(nm:SK)(L:SI):Rd.St r (r'.put k ln n nm L).1:=
 ⟨s.src,s.l,s.deep,s.i,s.lt,by show(r'.node _).ee<=_;rw[Rd.mG];exact hp,s.err⟩
def Rd.ur:r.down.e=(if 16<=r.deep then r.aG 21 else r).e:=rfl
def Rd.bS(h:r.Inv)(he:r.e=0):r.down.Inv/\r.down.ee<=r.ee/\r.down.i=r.i/\r.down.l=r.l/\r.down.src=r.src/\r.down.deep=r.deep+1:=by
 have hd:=h.Ll he;have hi:r.down.i=r.i:=by unfold Rd.down;split<;>simp[vY]
 have hl:r.down.l=r.l:=by unfold Rd.down;split<;>simp[gD]
 have hs:r.down.src=r.src:=by unfold Rd.down;split<;>simp[HT]
 have hn:r.down.nodes=r.nodes:=by unfold Rd.down;split<;>simp[dW]
 have hdd:r.down.deep=r.deep+1:=rfl;have hee:r.down.e=0->r.deep<16:=fun e=>by
  rw[Rd.ur]at e;split at e
  ·unfold aG at e;rw[if_pos he]at e;cases e
  ·omega
 have hp:r.down.ee<=r.ee:=by unfold Rd.ee;rw[hn,hl,hi,if_pos he];split<;>omega
 refine⟨⟨by rw[hs];exact h.src,by rw[hi];exact h.pos,by rw[hi,hl];exact h.lt,by rw[hl];exact h.len,by rw[hl];exact h.num,by rw[hl];exact h.tk,by have:=h.pv;omega,jB,fun e=>by have:=hee e;omega,by have:=h.ee;omega⟩,hp,hi,hl,hs,hdd⟩
def Rd.fE(h:r.Inv)(he:r.e=0)(s:Rd.St r.down r'):Rd.St r r'.up:=by obtain⟨_,h1,h2,h3,h4,h5⟩:=Rd.bS h he;exact⟨s.src.trans h4,s.l.trans h3,by show r'.deep-1=_;rw[s.deep,h5];omega,by show r.i<=r'.i;rw[<-h2];exact s.i,by show r'.i<_;rw[<-h3];exact s.lt,by show r'.ee<=_;have:=s.ee;omega,fun e=>(e he).elim⟩
def Rd.lT{lv:Int}(h:r.next lv≠⟨#[]⟩):r.is (r.next lv)=true:=by
 unfold Rd.next at h ⊢;cases e:(nL lv).find? (fun s=>r.is s)with
 |none=>rw[e]at h;exact(h rfl).elim
 |some s=>exact List.find?_some e
def Rd.dj(h:r.Inv)(hk:r.e=0/\r.tok.kind≠0):r.inc.rem+1<=r.rem:=by have:=Rd.behind h hk.2;unfold Rd.rem;rw[if_pos hk.1,if_pos (show r.inc.e=0 from hk.1)];have:r.inc.i=r.i+1:=rfl;have:r.inc.l=r.l:=rfl;simp only[*];omega
theorem sH:∀n,(∀r:Rd,r.Inv->Rd.St r (qv n r).1)/\(∀r:Rd,r.Inv->Rd.St r (iA n r).1)/\(∀lv (r:Rd),r.Inv->Rd.St r (eH n lv r).1)/\(∀lv ln (p:Rd×Int),p.1.Inv->Rd.St p.1 (oO n lv ln p).1)
 |0=>⟨fun r h=>by unfold qv;exact .refl h,fun r h=>by unfold iA;exact .refl h,fun lv r h=>by unfold eH;exact .refl h,fun lv ln p h=>by unfold oO;exact .refl h⟩
 |n+1=>by
  obtain⟨ia,kI,ic,il⟩:=sH n
  -- a token, and what is behind it, aX
  have aX:∀(r:Rd) (t u:SK),r.Inv->r.e=0->Rd.St r ((eH n 0 (r.down.ar t)).1.ar u).up:=fun r t u h he=>by have h1:=(Rd.bS h he).1;have s1:=Rd.aQ h1 t;have s2:=ic 0 _ (s1.inv h1);have s12:=s1.trans s2;have s3:=Rd.aQ (s12.inv h1) u;exact Rd.fE h he (s12.trans s3)
  refine⟨fun r h=>?_,fun r h=>?_,fun lv r h=>?_,fun lv ln p h=>?_⟩
  ·unfold qv;split
   ·exact .refl h
   rename_i he;have he:r.e=0:=jB;split
   ·rename_i hk;obtain⟨s1,e1⟩:=Rd.bv h jB;exact Rd.dh s1 jB _ _ _ _ _
   split
   ·rename_i hk;obtain⟨s1,e1⟩:=Rd.bv h jB;exact Rd.dh s1 jB _ _ _ _ _
   split
   ·rename_i hk;obtain⟨s1,e1⟩:=Rd.bv h jB;split
    ·have s2:=aX r.inc (⟨#[91]⟩:SK) (⟨#[93]⟩:SK) (s1.inv h) he;exact Rd.dh (s1.trans s2) (by have:=s2.ee;omega) _ _ _ _ _
    ·exact Rd.dh s1 jB _ _ _ _ _
   split
   ·rename_i hs;obtain⟨s1,e1⟩:=Rd.bv h (Rd.aZ hs).2;exact Rd.dh s1 jB _ _ _ _ _
   split
   ·rename_i hs;obtain⟨s1,e1⟩:=Rd.bv h (Rd.aZ hs).2;exact Rd.dh s1 jB _ _ _ _ _
   split
   ·rename_i hs;obtain⟨s1,e1⟩:=Rd.bv h (Rd.aZ hs).2;split
    ·have s2:=aX r.inc (⟨#[40]⟩:SK) (⟨#[41]⟩:SK) (s1.inv h) he;exact Rd.dh (s1.trans s2) (by have:=s2.ee;omega) _ _ _ _ _
    ·exact s1.trans (Rd.fT (s1.inv h) 20 jC)
   split
   ·exact aX r (⟨#[40]⟩:SK) (⟨#[41]⟩:SK) h he
   ·exact Rd.fT h 20 jC
  ·unfold iA;have sg:∀t,r.is t=true->∀k ln nm,Rd.St r (((iA n r.down.inc).1.up).put k ln 0 nm [(iA n r.down.inc).2]).1:=fun t ht k ln nm=>by
    obtain⟨he,hk⟩:=Rd.aZ ht;obtain⟨h1,h2,h3,h4,_⟩:=Rd.bS h he;have Wd:r.down.tok=r.tok:=by unfold Rd.tok;rw[h3,h4]
    obtain⟨s1,e1⟩:=Rd.bv h1 (by rw[Wd];exact hk);have s2:=kI _ (s1.inv h1);exact Rd.dh (Rd.fE h he (s1.trans s2)) (by have:=s2.ee;show(iA n r.down.inc).1.ee+1<=_;omega) _ _ _ _ _
   split
   ·rename_i ht;exact sg _ ht _ _ _
   split
   ·rename_i ht;exact sg _ ht _ _ _
   ·exact ia r h
  ·unfold eH;split
   ·exact kI r h
   ·have s1:=ic (lv+1) r h;exact s1.trans (il _ _ _ (s1.inv h))
  ·unfold oO;split
   ·exact .refl h
   rename_i hn;obtain⟨s1,e1⟩:=Rd.bv h (Rd.aZ (Rd.lT hn)).2;have s2:=ic (lv+1) _ (s1.inv h);have s3:=fun L=>Rd.dh (s1.trans s2) (by have:=s2.ee;omega) 9 ln 0 (p.1.next lv) L
   split
   ·exact s3 _
   ·exact(s3 _).trans (il _ _ _ ((s3 _).inv h))
def dn(r:Rd):Rd×Int:=eH (8*r.rem+8) 0 r
def nM:Nat->Bool->Rd->SI->Rd×SI
 |0,_,r,L=>(r,L)
 |_+1,false,r,L=>(r,L)
 |n+1,true,r,L=>if(dn r).1.is (⟨#[44]⟩:SK)=true then nM n true (dn r).1.inc (L++[(dn r).2])else((dn r).1,L++[(dn r).2])
def more(r:Rd):Bool:=!(r.is (⟨#[41]⟩:SK)) && decide (r.e=0)
def px(r:Rd):Rd:=r.name.1.ar (⟨#[40]⟩:SK)
def n8(r:Rd):Rd×SI:=nM ((px r).rem+2) (more (px r)) (px r) []
def mQ(r:Rd):Rd×Int:=((n8 r).1.ar (⟨#[41]⟩:SK)).put 21 r.cU 0 r.name.2 (n8 r).2
def lP(r:Rd):Rd×Int:=
 if r.is (⟨#[105,110,112,117,116]⟩:SK)=true then r.inc.put 19 r.cU 0 ⟨#[]⟩ []
 else if r.is (⟨#[110,101,119]⟩:SK)=true then((dn (r.inc.ar (⟨#[40]⟩:SK))).1.ar (⟨#[41]⟩:SK)).put 20 r.cU 0 ⟨#[]⟩ [(dn (r.inc.ar (⟨#[40]⟩:SK))).2]
 else if r.calls=true then mQ r else dn r
def o9(r:Rd):Rd×Int:=dn (r.down.ar (⟨#[91]⟩:SK))
def wb(r:Rd):Rd×Int:=dn (((o9 r).1.ar (⟨#[93]⟩:SK)).up.ar (⟨#[61]⟩:SK))
def pW(r:Rd)(ln:Int):Rd×Int:=
 if r.calls=true then((mQ r).1.ar (⟨#[59]⟩:SK)).put 13 ln 0 ⟨#[]⟩ [(mQ r).2]
 else if r.name.1.is (⟨#[91]⟩:SK)=true then((wb r.name.1).1.ar (⟨#[59]⟩:SK)).put 12 ln 0 r.name.2 [(o9 r.name.1).2,(wb r.name.1).2]
 else((lP (r.name.1.ar (⟨#[61]⟩:SK))).1.ar (⟨#[59]⟩:SK)).put 11 ln 0 r.name.2 [(lP (r.name.1.ar (⟨#[61]⟩:SK))).2]
mutual
def gi:Nat->Rd->Rd×Int
 |0,r=>(r,0)
 |n+1,r=>
  if r.is (⟨#[123]⟩:SK)=true then((ng n (r.down.ar (⟨#[123]⟩:SK)) []).1.ar (⟨#[125]⟩:SK)).up.put 18 r.cU 0 ⟨#[]⟩ (ng n (r.down.ar (⟨#[123]⟩:SK)) []).2
  else(r.aG 20,0)
def ng:Nat->Rd->SI->Rd×SI
 |0,r,L=>(r,L)
 |n+1,r,L=>if r.e=0/\r.is (⟨#[125]⟩:SK)=false then ng n (n7 n r).1 (L++[(n7 n r).2])else(r,L)
def n7:Nat->Rd->Rd×Int
 |0,r=>(r,0)
 |n+1,r=>
  if r.word=(⟨#[108,101,116]⟩:SK)then((lP (r.inc.name.1.ar (⟨#[61]⟩:SK))).1.ar (⟨#[59]⟩:SK)).put 10 r.cU 0 r.inc.name.2 [(lP (r.inc.name.1.ar (⟨#[61]⟩:SK))).2]
  else if r.word=(⟨#[112,114,105,110,116]⟩:SK)then((dn r.inc).1.ar (⟨#[59]⟩:SK)).put 14 r.cU 0 ⟨#[]⟩ [(dn r.inc).2]
  else if r.word=(⟨#[119,104,105,108,101]⟩:SK)then(gi n (dn r.inc).1).1.put 16 r.cU 0 ⟨#[]⟩ [(dn r.inc).2,(gi n (dn r.inc).1).2]
  else if r.word=(⟨#[105,102]⟩:SK)then
   (if(gi n (dn r.inc).1).1.is (⟨#[101,108,115,101]⟩:SK)=true then(gi n (gi n (dn r.inc).1).1.inc).1.put 15 r.cU 0 ⟨#[]⟩ [(dn r.inc).2,(gi n (dn r.inc).1).2,(gi n (gi n (dn r.inc).1).1.inc).2]
   else(gi n (dn r.inc).1).1.put 15 r.cU 0 ⟨#[]⟩ [(dn r.inc).2,(gi n (dn r.inc).1).2])
  else if r.word=(⟨#[114,101,116,117,114,110]⟩:SK)then
   (if r.inc.is (⟨#[59]⟩:SK)=true then(r.inc.ar (⟨#[59]⟩:SK)).put 17 r.cU 0 ⟨#[]⟩ []
   else((dn r.inc).1.ar (⟨#[59]⟩:SK)).put 17 r.cU 0 ⟨#[]⟩ [(dn r.inc).2])
  else pW r r.cU
end
def oC(r:Rd):Rd×Int:=gi (4*r.rem+4) r
def sJ(w:SK):Int:=if w=(⟨#[105,110,116]⟩:SK)then 1 else if w=(⟨#[98,111,111,108]⟩:SK)then 2 else if w=(⟨#[116,101,120,116]⟩:SK)then 3 else if w=(⟨#[108,105,115,116]⟩:SK)then 4 else 0
def iS(r:Rd):Rd×Int:=if sJ r.word=0 then(r.aG 20,0)else(r.inc,sJ r.word)
def p6(r:Rd):Rd:=(iS r.name.1).1
def mW:Nat->Bool->Rd->List bQ->Rd×List bQ
 |0,_,r,L=>(r,L)
 |_+1,false,r,L=>(r,L)
 |n+1,true,r,L=>if(p6 r).is (⟨#[44]⟩:SK)=true then mW n true (p6 r).inc (L++[⟨r.name.2,(iS r.name.1).2⟩])else(p6 r,L++[⟨r.name.2,(iS r.name.1).2⟩])
def nt(r:Rd):Rd:=(r.ar (⟨#[102,110]⟩:SK)).name.1.ar (⟨#[40]⟩:SK)
def sX(r:Rd):Rd×List bQ:=mW ((nt r).rem+2) (more (nt r)) (nt r) []
def l6(r:Rd):Rd:=(sX r).1.ar (⟨#[41]⟩:SK)
def mN(r:Rd):Rd×Int:=if(l6 r).is (⟨#[123]⟩:SK)=true then(l6 r,0)else iS (l6 r)
def mY(r:Rd):Rd×bg:=((oC (mN r).1).1,⟨(r.ar (⟨#[102,110]⟩:SK)).name.2,r.cU,(sX r).2,(mN r).2,(oC (mN r).1).2⟩)
def qS:Nat->Rd->List bg->Rd×List bg
 |0,r,L=>(r,L)
 |n+1,r,L=>if r.e=0/\r.kind 0=false then qS n (mY r).1 (L++[(mY r).2])else(r,L)
def ou(s:SK):Rd:=⟨s,(kV s).1,0,[],0,0,0⟩
def nP(s:SK):Rd×List bg:=qS ((ou s).rem+1) (ou s) []
def ug(t:List bu)(L:List bg):Bool:=decide (300<t.length) || decide (6<L.length) || L.any fun f=>decide (3<f.params.length)
def gP(s:SK):aF×Int×Int:=
 if(kV s).2.2≠0 then(⟨[],[]⟩,(kV s).2.1,(kV s).2.2)
 else if(nP s).1.e≠0 then(⟨[],[]⟩,(nP s).1.at_,(nP s).1.e)
 else if ug (nP s).1.nodes (nP s).2=true then(⟨[],[]⟩,0,4)
 else(⟨(nP s).1.nodes,(nP s).2⟩,0,0)
-- what is kept
def Rd.St.tW(s:Rd.St r r')(h:r.Inv)(he:r.e=0)(hi:r.i+1<=r'.i):r'.rem+1<=r.rem:=by have h1:=s.l;have h2:=s.lt;have h3:=h.pos;unfold Rd.rem;rw[if_pos he,h1];split<;>omega
def Rd.St.mc(h:r.Inv)(he:r.e=0)(hi:r'.e≠0):r'.rem+1<=r.rem:=by have h2:=h.lt;have h3:=h.pos;unfold Rd.rem;rw[if_pos he,if_neg hi];omega
def Rd.gH{e:Int}(he:e≠0):(r.aG e).e≠0:=by
 unfold Rd.aG;split
 ·exact he
 ·assumption
def Rd.oj(h:r.Inv)(he:r.e=0)(t:SK):(r.ar t).rem+1<=r.rem/\(r.ar t).ee+1<=r.ee:=by
 unfold Rd.ar;split
 ·rename_i hs;have hk:=Rd.aZ hs;exact⟨Rd.dj h hk,by rw[(Rd.bv h hk.2).2];omega⟩
 ·have XM:=Rd.gH (r:=r) (e:=20) jC;refine⟨Rd.St.mc h he XM,?_⟩;unfold Rd.ee;rw[dW,gD,vY,if_pos he,if_neg XM];omega
def Rd.rh(h:r.Inv)(he:r.e=0):r.name.1.rem+1<=r.rem/\r.name.1.ee+1<=r.ee:=by
 unfold Rd.name;split
 ·rename_i hs;have hk:=Rd.dX hs jC;exact⟨Rd.dj h hk,by show r.inc.ee+1<=_;rw[(Rd.bv h hk.2).2];omega⟩
 ·have XM:=Rd.gH (r:=r) (e:=20) jC;refine⟨Rd.St.mc h he XM,?_⟩;show(r.aG 20).ee+1<=_;unfold Rd.ee;rw[dW,gD,vY,if_pos he,if_neg XM];omega
def Rd.gF(h:r.Inv)(ht:r.is t=true):(r.down.ar t).rem+1<=r.rem/\(r.down.ar t).ee+1<=r.ee:=by
 obtain⟨he,hk⟩:=Rd.aZ ht;obtain⟨h1,h2,h3,h4,h5,h6⟩:=Rd.bS h he;by_cases e:r.down.e=0
 ·obtain⟨a,b⟩:=Rd.oj h1 e t;have:r.down.rem<=r.rem:=by
   unfold Rd.rem;rw[if_pos he,if_pos e,h3,h4];exact Nat.le_refl _
  omega
 ·have hs:=Rd.aQ h1 t;have e2:(r.down.ar t).e≠0:=hs.err e;refine⟨Rd.St.mc h he e2,?_⟩;have:r.down.ee+1<=r.ee:=by
   have hn:r.down.nodes=r.nodes:=by unfold Rd.down;split<;>simp[dW]
   unfold Rd.ee;rw[hn,h4,h3,if_pos he,if_neg e];omega
  have:=hs.ee;omega
def j6(h:r.Inv):Rd.St r (dn r).1:=(sH _).2.2.1 0 r h
theorem BX:∀(n:Nat) (b:Bool) (r:Rd) (L:SI),r.Inv->Rd.St r (nM n b r L).1
 |0,_,r,L,h=>by unfold nM;exact .refl h
 |n+1,false,r,L,h=>by unfold nM;exact .refl h
 |n+1,true,r,L,h=>by
  have s1:=j6 h;have h1:=s1.inv h;unfold nM;split
  ·rename_i hs;have s2:=(Rd.bv h1 (Rd.aZ hs).2).1;exact(s1.trans s2).trans (BX n _ _ _ (s2.inv h1))
  ·exact s1
def zP(h:r.Inv):Rd.St r (px r):=(Rd.dv h).trans (Rd.aQ ((Rd.dv h).inv h) _)
def AY(h:r.Inv):Rd.St r (n8 r).1:=(zP h).trans (BX _ _ _ _ ((zP h).inv h))
def KA(h:r.Inv):Rd.St r ((n8 r).1.ar (⟨#[41]⟩:SK)):=(AY h).trans (Rd.aQ ((AY h).inv h) _)
def Rd.j7(h:r.calls=true):r.kind 3=true:=by unfold Rd.calls at h;simp only[Bool.and_eq_true]at h;exact h.1.1
def Dp(h:r.Inv)(hc:r.calls=true):Rd.St r (mQ r).1/\(mQ r).1.ee+2<=r.ee/\(mQ r).1.rem+1<=r.rem:=by
 have hk:=Rd.dX (Rd.j7 hc) jC;have hn:r.name.1=r.inc:=by unfold Rd.name;rw[if_pos (Rd.j7 hc)]
 obtain⟨s1,e1⟩:=Rd.bv h hk.2;have h1:=s1.inv h;have s2:Rd.St r.inc ((n8 r).1.ar (⟨#[41]⟩:SK)):=by
  have a1:Rd.St r.inc (px r):=by unfold px;rw[hn];exact Rd.aQ h1 _
  have a2:Rd.St r.inc (n8 r).1:=a1.trans (BX _ _ _ _ (a1.inv h1));exact a2.trans (Rd.aQ (a2.inv h1) _)
 have hp:=s2.ee;have s3:=Rd.dh (s1.trans s2) jB 21 r.cU 0 r.name.2 (n8 r).2;refine⟨s3,?_,?_⟩
 ·show(((n8 r).1.ar (⟨#[41]⟩:SK)).node _).ee+2<=_;rw[Rd.mG];omega
 ·refine s3.tW h hk.1 ?_;have:=s2.i;exact this
def yP(h:r.Inv):Rd.St r (lP r).1:=by
 unfold lP;split
 ·rename_i hs;obtain⟨s1,e1⟩:=Rd.bv h (Rd.aZ hs).2;exact Rd.dh s1 jB _ _ _ _ _
 split
 ·rename_i hs;obtain⟨s1,e1⟩:=Rd.bv h (Rd.aZ hs).2;have h1:=s1.inv h;have s2:=Rd.aQ h1 (⟨#[40]⟩:SK);have s3:=j6 (s2.inv h1);have s23:=s2.trans s3;have s4:=s23.trans (Rd.aQ (s23.inv h1) (⟨#[41]⟩:SK));exact Rd.dh (s1.trans s4) (by have:=s4.ee;omega) _ _ _ _ _
 split
 ·rename_i hc;exact(Dp h hc).1
 ·exact j6 h
def CG(h:r.Inv)(hs:r.is (⟨#[91]⟩:SK)=true):Rd.St r.down (o9 r).1/\Rd.St r ((o9 r).1.ar (⟨#[93]⟩:SK)).up:=by have he:=(Rd.aZ hs).1;have h1:=(Rd.bS h he).1;have s1:=Rd.aQ h1 (⟨#[91]⟩:SK);have s2:=s1.trans (j6 (s1.inv h1));exact⟨s2,Rd.fE h he (s2.trans (Rd.aQ (s2.inv h1) _))⟩
def zF(h:r.Inv)(hs:r.is (⟨#[91]⟩:SK)=true):Rd.St r (((o9 r).1.ar (⟨#[93]⟩:SK)).up.ar (⟨#[61]⟩:SK))/\Rd.St r (wb r).1:=by have s1:=(CG h hs).2;have s2:=s1.trans (Rd.aQ (s1.inv h) (⟨#[61]⟩:SK));exact⟨s2,s2.trans (j6 (s2.inv h))⟩
def P7(h:r.Inv)(he:r.e=0)(ln:Int):Rd.St r (pW r ln).1/\(pW r ln).1.rem+1<=r.rem:=by
 unfold pW;have s0:=Rd.dv h;have h0:=s0.inv h;obtain⟨n1,n2⟩:=Rd.rh h he
 -- a name, and what is behind it
 have fin:∀(q:Rd) k L,Rd.St r.name.1 q->Rd.St r (q.put k ln 0 r.name.2 L).1/\(q.put k ln 0 r.name.2 L).1.rem+1<=r.rem:=fun q k L s=>by refine⟨Rd.dh (s0.trans s) (by have:=s.ee;omega) _ _ _ _ _,?_⟩;have:=s.rem;show q.rem+1<=_;omega
 split
 ·rename_i hc;obtain⟨s1,p1,r1⟩:=Dp h hc;have s2:=Rd.aQ (s1.inv h) (⟨#[59]⟩:SK);refine⟨Rd.dh (s1.trans s2) (by have:=s2.ee;omega) _ _ _ _ _,?_⟩;have:=s2.rem;show((mQ r).1.ar (⟨#[59]⟩:SK)).rem+1<=_;omega
 split
 ·rename_i hs;have s1:=(zF h0 hs).2;exact fin _ _ _ (s1.trans (Rd.aQ (s1.inv h0) _))
 ·have s1:=Rd.aQ h0 (⟨#[61]⟩:SK);have s2:=s1.trans (yP (s1.inv h0));exact fin _ _ _ (s2.trans (Rd.aQ (s2.inv h0) _))
def Rd.gJ{w:SK}(h:r.word=w)(h0:w≠⟨#[]⟩):r.kind 4=true:=by
 unfold Rd.word at h;split at h
 ·assumption
 ·exact absurd h.symm h0
theorem sZ:∀n,(∀r:Rd,r.Inv->Rd.St r (gi n r).1)/\(∀(r:Rd) L,r.Inv->Rd.St r (ng n r L).1)/\(∀r:Rd,r.Inv->r.e=0->0<n->Rd.St r (n7 n r).1/\(n7 n r).1.rem+1<=r.rem)
 |0=>⟨fun r h=>by unfold gi;exact .refl h,fun r L h=>by unfold ng;exact .refl h,fun r h he hn=>by omega⟩
 |n+1=>by
  obtain⟨ib,is,it⟩:=sZ n;refine⟨fun r h=>?_,fun r L h=>?_,fun r h he _=>?_⟩
  ·unfold gi;split
   ·rename_i hs;have he:=(Rd.aZ hs).1;have h1:=(Rd.bS h he).1;have s1:=Rd.aQ h1 (⟨#[123]⟩:SK);have s2:=is _ [] (s1.inv h1);have s12:=s1.trans s2;have s3:=Rd.aQ (s12.inv h1) (⟨#[125]⟩:SK);have hp:=(Rd.gF h hs).2;refine Rd.dh (Rd.fE h he (s12.trans s3)) ?_ _ _ _ _ _;have:=s2.ee;have:=s3.ee;show((ng n (r.down.ar (⟨#[123]⟩:SK)) []).1.ar (⟨#[125]⟩:SK)).ee+1<=_;omega
   ·exact Rd.fT h 20 jC
  ·unfold ng;split
   ·rename_i hc;cases n with
    |zero=>unfold ng n7;exact .refl h
    |succ n=> have s1:=(it r h hc.1 jB).1;exact s1.trans (is _ _ (s1.inv h))
   ·exact .refl h
  ·-- a word, and what is behind it
   have fin:∀(w:SK) (q:Rd) k ln nm L,w≠⟨#[]⟩->r.word=w->(r.inc.Inv->Rd.St r.inc q)->Rd.St r (q.put k ln 0 nm L).1/\(q.put k ln 0 nm L).1.rem+1<=r.rem:=fun w q k ln nm L h0 hw s=>by have hk:=Rd.dX (Rd.gJ hw h0) jC;obtain⟨s1,e1⟩:=Rd.bv h hk.2;have s2:=s (s1.inv h);refine⟨Rd.dh (s1.trans s2) (by have:=s2.ee;omega) _ _ _ _ _,?_⟩;have:=s2.rem;have:=Rd.dj h hk;show q.rem+1<=_;omega
   unfold n7;split
   ·rename_i hw;refine fin _ _ _ _ _ _ jC hw fun h1=>?_
    have s1:=Rd.dv h1;have s2:=s1.trans (Rd.aQ (s1.inv h1) (⟨#[61]⟩:SK));have s3:=s2.trans (yP (s2.inv h1));exact s3.trans (Rd.aQ (s3.inv h1) _)
   split
   ·rename_i hw;refine fin _ _ _ _ _ _ jC hw fun h1=>?_
    have s1:=j6 h1;exact s1.trans (Rd.aQ (s1.inv h1) _)
   split
   ·rename_i hw;refine fin _ _ _ _ _ _ jC hw fun h1=>?_
    have s1:=j6 h1;exact s1.trans (ib _ (s1.inv h1))
   split
   ·rename_i hw;split
    ·rename_i hs;refine fin _ _ _ _ _ _ jC hw fun h1=>?_
     have s1:=j6 h1;have s2:=s1.trans (ib _ (s1.inv h1));have h2:=s2.inv h1;have s3:=(Rd.bv h2 (Rd.aZ hs).2).1;exact(s2.trans s3).trans (ib _ (s3.inv h2))
    ·refine fin _ _ _ _ _ _ jC hw fun h1=>?_
     have s1:=j6 h1;exact s1.trans (ib _ (s1.inv h1))
   split
   ·rename_i hw;split
    ·exact fin _ _ _ _ _ _ jC hw fun h1=>Rd.aQ h1 _
    ·refine fin _ _ _ _ _ _ jC hw fun h1=>?_
     have s1:=j6 h1;exact s1.trans (Rd.aQ (s1.inv h1) _)
   ·exact P7 h he _
def CH(h:r.Inv):Rd.St r (oC r).1:=(sZ _).1 r h
def Sb(h:sJ r.word≠0):r.e=0/\r.tok.kind≠0:=by refine Rd.dX (k:=4) (Rd.gJ (r:=r) rfl fun e=>?_) jC;rw[e]at h;exact h jC
def Fc(h:r.Inv):Rd.St r (iS r).1:=by
 unfold iS;split
 ·exact Rd.fT h 20 jC
 ·rename_i ht;exact(Rd.bv h (Sb ht).2).1
def Ei(h:r.Inv):Rd.St r (p6 r):=(Rd.dv h).trans (Fc ((Rd.dv h).inv h))
theorem Ia:∀(n:Nat) (b:Bool) (r:Rd) (L:List bQ),r.Inv->Rd.St r (mW n b r L).1
 |0,_,r,L,h=>by unfold mW;exact .refl h
 |n+1,false,r,L,h=>by unfold mW;exact .refl h
 |n+1,true,r,L,h=>by
  have s1:=Ei h;have h1:=s1.inv h;unfold mW;split
  ·rename_i hs;have s2:=(Rd.bv h1 (Rd.aZ hs).2).1;exact(s1.trans s2).trans (Ia n _ _ _ (s2.inv h1))
  ·exact s1
def qR(h:r.Inv):Rd.St r (r.ar (⟨#[102,110]⟩:SK))/\Rd.St r (r.ar (⟨#[102,110]⟩:SK)).name.1/\Rd.St r (nt r)/\Rd.St (r.ar (⟨#[102,110]⟩:SK)) (nt r):=by have s1:=Rd.aQ h (⟨#[102,110]⟩:SK);have h1:=s1.inv h;have s2:=Rd.dv h1;have s3:=s2.trans (Rd.aQ (s2.inv h1) (⟨#[40]⟩:SK));exact⟨s1,s1.trans s2,s1.trans s3,s3⟩
def C9(h:r.Inv):Rd.St (r.ar (⟨#[102,110]⟩:SK)) (sX r).1:=(qR h).2.2.2.trans (Ia _ _ _ _ ((qR h).2.2.1.inv h))
def Aj(h:r.Inv):Rd.St (r.ar (⟨#[102,110]⟩:SK)) (l6 r):=(C9 h).trans (Rd.aQ ((C9 h).inv ((qR h).1.inv h)) _)
def yN(h:r.Inv):Rd.St (r.ar (⟨#[102,110]⟩:SK)) (mN r).1:=by
 unfold mN;split
 ·exact Aj h
 ·exact(Aj h).trans (Fc ((Aj h).inv ((qR h).1.inv h)))
def H7(h:r.Inv):Rd.St r (mY r).1/\(r.e=0->(mY r).1.rem+1<=r.rem):=by have h1:=(qR h).1.inv h;have s:=(yN h).trans (CH ((yN h).inv h1));refine⟨(qR h).1.trans s,fun he=>?_⟩;have:=(Rd.oj h he (⟨#[102,110]⟩:SK)).1;have:(oC (mN r).1).1.rem<=_:=s.rem;show(oC (mN r).1).1.rem+1<=_;omega
def Nr{e:Nat}(he:e<=s.size)(hj:a+j<e):eZ (s.extract a e) (j:Nat)=eZ s ((a+j:Nat):Int):=by unfold eZ;have h1:(s.extract a e).data=s.data.extract a e:=jE;rw[h1];simp only[Int.toNat_natCast];have hs:e<=s.data.size:=he;rw[Array.getElem?_extract];rw[jP]
def Rl(ha:a<s.size)(h:(ik s a).2.2=0):(ik s a).1.kind≠0/\((ik s a).1.kind=1->rC (ik s a).1.text):=by
 unfold ik at h ⊢;split at h<;>rename_i h1
 ·rw[if_pos h1];split at h<;>rename_i h2
  ·rw[if_pos h2];refine⟨fun e=>(by cases e),fun _=>?_⟩;have hb:=(vN (p:=j8) (s:=s) (i:=a) jB).2;have hp:=xE ha h1;have SY:(s.extract a (iL j8 s a)).size=iL j8 s a-a:=by rw[ByteArray.size_extract];omega
   refine⟨by show 0<(s.extract a (iL j8 s a)).size;omega,h2,fun j hj=>?_⟩;have hj:j<(s.extract a (iL j8 s a)).size:=hj;show j8 (eZ (s.extract a (iL j8 s a)) j)=true;rw[Nr hb jB];exact H6 (n:=s.size+1) (i:=a) jB (by show _<iL j8 s a;omega)
  ·cases h
 ·rw[if_neg h1];split at h<;>rename_i h2
  ·rw[if_pos h2];split at h<;>rename_i h3
   ·rw[if_pos h3];exact⟨fun e=>(by cases e),fun e=>(by cases e)⟩
   ·rw[if_neg h3];split at h<;>rename_i h4
    ·cases h
    ·rw[if_neg h4];exact⟨fun e=>(by cases e),fun e=>(by cases e)⟩
  ·rw[if_neg h2];split at h<;>rename_i h3
   ·rw[if_pos h3];exact⟨fun e=>(by cases e),fun e=>(by cases e)⟩
   ·rw[if_neg h3];split at h<;>rename_i h4
    ·cases h
    ·rw[if_neg h4];exact⟨fun e=>(by cases e),fun e=>(by cases e)⟩
def CA(t:cB):Prop:=t.kind≠0/\(t.kind=1->rC t.text)
theorem Em(s:SK):∀(n i:Nat) (out:List cB),s.size<n+i->i<=s.size->(mb s n i out).2.2=0->out.length<=i->(∀t∈out,CA t)->∃ts,(mb s n i out).1=ts++[⟨0,⟨#[]⟩,s.size⟩]/\ts.length<=s.size/\∀t∈ts,CA t
 |0,i,out,h1,h2,_,_,_=>by omega
 |n+1,i,out,h1,h2,he,hl,ho=>by
  unfold mb at he ⊢;split at he<;>rename_i hi
  ·rw[if_pos hi];split at he<;>rename_i h3
   ·rw[if_pos h3];obtain⟨e,h4,h5,h6⟩:=zC hi h3;rw[h4,Int.toNat_natCast]at he ⊢;have:=u6 (s:=s) (i:=e) h6;refine Em s n _ _ jB this.2 he (by rw[List.length_append];simp;omega) fun t ht=>?_
    rcases List.mem_append.1 ht with ht|ht
    ·exact ho t ht
    ·rw[List.mem_singleton.1 ht];exact Rl hi h3
   ·exact(h3 he).elim
  ·rw[if_neg hi];exact⟨out,rfl,jB,ho⟩
def QS(he:(kV s).2.2=0):s.size<=600/\∃ts,(kV s).1=ts++[⟨0,⟨#[]⟩,s.size⟩]/\ts.length<=s.size/\∀t∈ts,CA t:=by
 unfold kV at he ⊢;split at he<;>rename_i h
 ·cases he
 ·rw[if_neg h];have h0:=u6 (s:=s) (i:=0) (Nat.zero_le _);exact⟨jB,Em s (s.size+1) _ _ jB h0.2 he jE fun t ht=>by simp at ht⟩
def Lx[Inhabited α]{l m:List α}(h:k<l.length):nth (l++m) k=nth l k:=by simp only[nth,List.getD_eq_getElem?_getD,List.getElem?_append_left h]
def er[Inhabited α]{l:List α}(h:k<l.length):nth l k∈l:=by rw[dV h];exact List.getElem_mem h
def Ek(he:(kV s).2.2=0):(ou s).Inv:=by
 obtain⟨h0,ts,h1,h2,h3⟩:=QS he;have hl:(ou s).l=ts++[⟨0,⟨#[]⟩,s.size⟩]:=h1;have hn:(ou s).l.length=ts.length+1:=by rw[hl];simp
 have VK:nth (ts++[⟨0,⟨#[]⟩,s.size⟩]:List cB) ts.length=⟨0,⟨#[]⟩,s.size⟩:=by simp[nth]
 refine⟨by show s.size<=1000;omega,Int.le_refl _,by show(0:Int)<_;omega,jB,fun k hk Te=>?_,fun k hk Te=>?_,Int.le_refl _,by show(0:Int)<=17;decide,fun _=>by show(0:Int)<=16;decide,?_⟩
 ·rw[hl]at Te ⊢;by_cases e:k<ts.length
  ·rw[Lx e]at Te ⊢;exact(h3 _ (er e)).2 Te
  ·have:k=ts.length:=jB;subst this;rw[VK]at Te;cases Te
 ·by_cases e:k<ts.length
  ·omega
  ·have:k=ts.length:=jB;subst this;rw[hl,VK]at Te;exact(Te rfl).elim
 ·show((0:Nat):Int)+3*((ou s).l.length-0)+1<=8000;omega
end Go.Gd
namespace Go.Proofs.YtbjookcdpondlaaGreatDoor
open Go Go.Gd Tryz
@[go_sem] def qdy:dx prog 3=some 1/\eG prog 3=some false/\ff prog 3=some [.int .i64 0]/\ir prog 3=false/\rc prog 3=false/\xQ prog 3=false/\A9 prog 3=some .i64/\jY prog 3=8/\eG prog 4=some false/\ir prog 4=false/\rc prog 4=false/\xQ prog 4=true/\dx prog 9=some 1/\eG prog 9=some false/\ff prog 9=some [.string ⟨#[]⟩]/\uf prog 9=true/\jY prog 9=16/\dx prog 22=some 1/\eG prog 22=some false/\ff prog 22=some [.slice none 0 0]/\iT prog 22=some 3/\jj prog 22=some 1/\ir prog 22=true/\jY prog 22=24:=by and_intros<;>kernel_rfl
@[go_sem] def qcD:dx prog 24=some 1/\eG prog 24=some false/\iT prog 24=some 59/\jj prog 24=some 5/\ir prog 24=true/\dx prog 25=some 1/\eG prog 25=some false/\iT prog 25=some 73/\jj prog 25=some 5/\ir prog 25=true/\dx prog 27=some 2/\eG prog 27=some true/\ff prog 27=some [.slice none 0 0,.slice none 0 0]/\cK prog 27 0=some 0/\cK prog 27 1=some 1/\jg prog 27=some [(0,1),(1,1)]/\dx prog 29=some 6/\eG prog 29=some true/\ff prog 29=some [.slice none 0 0,.slice none 0 0,.slice none 0 0,.slice none 0 0,.slice none 0 0,.slice none 0 0]/\cK prog 29 0=some 0/\cK prog 29 1=some 2/\cK prog 29 2=some 3/\cK prog 29 3=some 4/\cK prog 29 4=some 5:=by and_intros<;>kernel_rfl
@[go_sem] def qco:jg prog 29=some [(0,2),(2,1),(3,1),(4,1),(5,1)]/\dx prog 30=some 1/\eG prog 30=some false/\rc prog 35=true/\dx prog 37=some 1/\eG prog 37=some false/\iT prog 37=some 76/\jj prog 37=some 3/\ir prog 37=true/\dx prog 38=some 1/\eG prog 38=some false/\iT prog 38=some 22/\jj prog 38=some 1/\ir prog 38=true/\dx prog 39=some 1/\eG prog 39=some false/\iT prog 39=some 9/\jj prog 39=some 1/\ir prog 39=true/\dx prog 41=some 7/\eG prog 41=some true/\ff prog 41=some [.slice none 0 0,.slice none 0 0,.int .i64 0,.slice none 0 0,.int .i64 0,.int .i64 0,.int .i64 0]/\cK prog 41 0=some 0/\cK prog 41 1=some 1:=by and_intros<;>kernel_rfl
@[go_sem] def j5H:cK prog 41 2=some 2/\cK prog 41 3=some 3/\cK prog 41 4=some 4/\cK prog 41 5=some 5/\cK prog 41 6=some 6/\jg prog 41=some [(0,1),(1,1),(2,1),(3,1),(4,1),(5,1),(6,1)]/\dx prog 44=some 1/\eG prog 44=some false/\iT prog 44=some 54/\jj prog 44=some 3/\ir prog 44=true/\dx prog 46=some 7/\eG prog 46=some true/\ff prog 46=some [.slice none 0 0,.slice none 0 0,.int .i64 0,.slice none 0 0,.int .i64 0,.int .i64 0,.int .i64 0]/\cK prog 46 0=some 0/\cK prog 46 1=some 1/\cK prog 46 2=some 2/\cK prog 46 3=some 3/\cK prog 46 4=some 4/\cK prog 46 5=some 5/\cK prog 46 6=some 6/\jg prog 46=some [(0,1),(1,1),(2,1),(3,1),(4,1),(5,1),(6,1)]/\dx prog 52=some 1/\eG prog 52=some false:=by and_intros<;>kernel_rfl
@[go_sem] def qbS:iT prog 52=some 82/\jj prog 52=some 3/\ir prog 52=true/\dx prog 54=some 3/\eG prog 54=some true/\ff prog 54=some [.int .i64 0,.int .i64 0,.slice none 0 0]/\cK prog 54 0=some 0/\cK prog 54 1=some 1/\cK prog 54 2=some 2/\jg prog 54=some [(0,1),(1,1),(2,1)]/\jY prog 54=40/\dx prog 59=some 5/\eG prog 59=some true/\ff prog 59=some [.int .i64 0,.int .i64 0,.int .i64 0,.string ⟨#[]⟩,.slice none 0 0]/\cK prog 59 0=some 0/\cK prog 59 1=some 1/\cK prog 59 2=some 2/\cK prog 59 3=some 3/\cK prog 59 4=some 4/\wz prog 59 4=some (22,4)/\jg prog 59=some [(0,1),(1,1),(2,1),(3,1),(4,1)]/\jY prog 59=64/\dx prog 60=some 1/\eG prog 60=some false:=by and_intros<;>kernel_rfl
@[go_sem] def qbT:iT prog 60=some 91/\jj prog 60=some 4/\ir prog 60=true/\dx prog 62=some 2/\eG prog 62=some true/\ff prog 62=some [.slice none 0 0,.slice none 0 0]/\cK prog 62 0=some 0/\cK prog 62 1=some 1/\jg prog 62=some [(0,1),(1,1)]/\dx prog 64=some 1/\eG prog 64=some false/\dx prog 66=some 1/\eG prog 66=some false/\iT prog 66=some 85/\jj prog 66=some 1/\ir prog 66=true/\ff prog 68=some [.slice none 0 0,.slice none 0 0,.slice none 0 0,.slice none 0 0,.slice none 0 0,.slice none 0 0,.slice none 0 0,.slice none 0 0,.slice none 0 0,.pointer none,.slice none 0 0,.int .i64 0,.int .i64 0,.int .i64 0,.int .i64 0]/\cK prog 68 0=some 0/\cK prog 68 1=some 6/\cK prog 68 2=some 8/\cK prog 68 3=some 9/\cK prog 68 4=some 10/\cK prog 68 5=some 11/\cK prog 68 6=some 12:=by and_intros<;>kernel_rfl
@[go_sem] def j6a:cK prog 68 7=some 13/\cK prog 68 8=some 14/\jg prog 68=some [(0,6),(6,2),(8,1),(9,1),(10,1),(11,1),(12,1),(13,1),(14,1)]/\dx prog 71=some 1/\eG prog 71=some false/\iT prog 71=some 142/\jj prog 71=some 2/\ir prog 71=true/\dx prog 73=some 5/\eG prog 73=some true/\ff prog 73=some [.string ⟨#[]⟩,.int .i64 0,.slice none 0 0,.int .i64 0,.int .i64 0]/\cK prog 73 0=some 0/\cK prog 73 2=some 2/\cK prog 73 3=some 3/\cK prog 73 4=some 4/\jg prog 73=some [(0,1),(1,1),(2,1),(3,1),(4,1)]/\jY prog 73=64/\dx prog 74=some 1/\eG prog 74=some false/\iT prog 74=some 94/\jj prog 74=some 2/\ir prog 74=true/\dx prog 76=some 3/\eG prog 76=some true:=by and_intros<;>kernel_rfl
@[go_sem] def qdh:ff prog 76=some [.int .i64 0,.slice none 0 0,.slice none 0 0]/\cK prog 76 0=some 0/\cK prog 76 1=some 1/\cK prog 76 2=some 2/\jg prog 76=some [(0,1),(1,1),(2,1)]/\jY prog 76=56/\dx prog 82=some 3/\eG prog 82=some true/\ff prog 82=some [.int .i64 0,.int .i64 0,.string ⟨#[]⟩]/\cK prog 82 0=some 0/\cK prog 82 1=some 1/\wz prog 82 1=some (3,1)/\cK prog 82 2=some 2/\jg prog 82=some [(0,1),(1,1),(2,1)]/\yA prog 82=some [.int .i64,.int .i64,.str]/\jY prog 82=32/\dx prog 85=some 1/\eG prog 85=some false/\ff prog 85=some [.pointer none]/\jY prog 85=8/\cK prog 87 0=some 0/\ff prog 89=some [.slice none 0 0,.int .i64 0,.int .i64 0,.int .i64 0,.slice none 0 0]/\cK prog 89 0=some 0/\cK prog 89 1=some 1:=by and_intros<;>kernel_rfl
@[go_sem] def j6p:cK prog 89 2=some 2/\cK prog 89 3=some 3/\cK prog 89 4=some 4/\jg prog 89=some [(0,1),(1,1),(2,1),(3,1),(4,1)]/\dx prog 91=some 4/\eG prog 91=some true/\ff prog 91=some [.int .i64 0,.int .i64 0,.int .i64 0,.string ⟨#[]⟩]/\cK prog 91 0=some 0/\cK prog 91 1=some 1/\cK prog 91 2=some 2/\cK prog 91 3=some 3/\jg prog 91=some [(0,1),(1,1),(2,1),(3,1)]/\jY prog 91=40/\dx prog 94=some 2/\eG prog 94=some true/\ff prog 94=some [.int .i64 0,.int .i64 0]/\cK prog 94 0=some 0/\cK prog 94 1=some 1/\jg prog 94=some [(0,1),(1,1)]/\jY prog 94=16/\dx prog 99=some 1/\eG prog 99=some false/\iT prog 99=some 134/\jj prog 99=some 3:=by and_intros<;>kernel_rfl
@[go_sem] def j9s:ff prog 104=some [.string ⟨#[]⟩,.slice none 0 0,.int .i64 0,.slice none 0 0,.int .i64 0,.int .i64 0,.int .i64 0]/\cK prog 104 0=some 0/\cK prog 104 1=some 1/\cK prog 104 2=some 2/\cK prog 104 3=some 3/\cK prog 104 4=some 4/\cK prog 104 5=some 5/\cK prog 104 6=some 6/\jg prog 104=some [(0,1),(1,1),(2,1),(3,1),(4,1),(5,1),(6,1)]/\dx prog 108=some 1/\eG prog 108=some false/\iT prog 108=some 146/\jj prog 108=some 3/\ir prog 108=true/\ff prog 110=some [.slice none 0 0,.slice none 0 0,.slice none 0 0,.slice none 0 0,.slice none 0 0,.slice none 0 0,.int .i64 0,.slice none 0 0,.int .i64 0,.int .i64 0,.int .i64 0]/\cK prog 110 0=some 0/\cK prog 110 1=some 6/\cK prog 110 2=some 7/\cK prog 110 3=some 8/\cK prog 110 4=some 9/\cK prog 110 5=some 10/\jg prog 110=some [(0,6),(6,1),(7,1),(8,1),(9,1),(10,1)]/\dx prog 113=some 7/\ff prog 113=some [.slice none 0 0,.slice none 0 0,.slice none 0 0,.slice none 0 0,.slice none 0 0,.slice none 0 0,.slice none 0 0]:=by and_intros<;>kernel_rfl
@[go_sem] def j4t:cK prog 113 0=some 0/\cK prog 113 1=some 6/\jg prog 113=some [(0,6),(6,1)]/\ff prog 116=some [.slice none 0 0,.slice none 0 0]/\cK prog 116 0=some 0/\cK prog 116 1=some 1/\jg prog 116=some [(0,1),(1,1)]/\dx prog 134=some 3/\eG prog 134=some true/\ff prog 134=some [.int .i64 0,.string ⟨#[]⟩,.int .i64 0]/\cK prog 134 0=some 0/\cK prog 134 1=some 1/\cK prog 134 2=some 2/\jg prog 134=some [(0,1),(1,1),(2,1)]/\jY prog 134=32/\dx prog 142=some 2/\ff prog 142=some [.string ⟨#[]⟩,.int .i64 0]/\cK prog 142 0=some 0/\cK prog 142 1=some 1/\jg prog 142=some [(0,1),(1,1)]/\jY prog 142=24/\dx prog 146=some 3/\ff prog 146=some [.string ⟨#[]⟩,.int .i64 0,.int .i64 0]/\cK prog 146 0=some 0:=by and_intros<;>kernel_rfl
@[go_sem] def j4D:cK prog 146 1=some 1/\cK prog 146 2=some 2/\jg prog 146=some [(0,1),(1,1),(2,1)]/\jY prog 146=32/\bn prog 4=true/\bn prog 5=true/\bn prog 6=true/\bn prog 7=true/\bn prog 8=true/\bn prog 9=true/\bn prog 10=true/\bn prog 11=true/\bn prog 12=true/\bn prog 13=true/\bn prog 14=true/\bn prog 15=true/\bn prog 16=true/\bn prog 17=true/\bn prog 18=true/\bn prog 19=true/\bn prog 20=true/\bn prog 21=true/\bn prog 22=true/\bn prog 23=true:=by and_intros<;>kernel_rfl
@[go_sem] def qas:bn prog 24=true/\bn prog 25=true/\bn prog 26=true/\bn prog 27=true/\bn prog 28=true/\bn prog 29=true/\bn prog 30=true/\bn prog 31=true/\bn prog 32=true/\bn prog 33=true/\bn prog 34=true/\bn prog 35=true/\bn prog 36=true/\bn prog 37=true/\bn prog 38=true/\bn prog 39=true/\bn prog 40=true/\bn prog 41=true/\bn prog 42=true/\bn prog 43=true/\bn prog 44=true/\bn prog 45=true/\bn prog 46=true/\bn prog 47=true:=by and_intros<;>kernel_rfl
@[go_sem] def qaQ:bn prog 48=true/\bn prog 49=true/\bn prog 50=true/\bn prog 51=true/\bn prog 52=true/\bn prog 53=true/\bn prog 54=true/\bn prog 55=true/\bn prog 56=true/\bn prog 57=true/\bn prog 58=true/\bn prog 59=true/\bn prog 60=true/\bn prog 61=true/\bn prog 62=true/\bn prog 63=true/\bn prog 64=true/\bn prog 65=true/\bn prog 66=true/\bn prog 67=true/\bn prog 68=true/\bn prog 69=true/\bn prog 70=true/\bn prog 71=true:=by and_intros<;>kernel_rfl
@[go_sem] def qbe:bn prog 72=true/\bn prog 73=true/\bn prog 74=true/\bn prog 75=true/\bn prog 76=true/\bn prog 77=true/\bn prog 78=true/\bn prog 79=true/\bn prog 80=true/\bn prog 81=true/\bn prog 82=true/\bn prog 83=true/\bn prog 84=true/\bn prog 85=true/\bn prog 86=true/\bn prog 87=true/\bn prog 88=true/\bn prog 89=true/\bn prog 90=true/\bn prog 91=true/\bn prog 92=true/\bn prog 93=true/\bn prog 94=true/\bn prog 95=true:=by and_intros<;>kernel_rfl
@[go_sem] def qbC:bn prog 96=true/\bn prog 97=true/\bn prog 98=true/\bn prog 99=true/\bn prog 100=true/\bn prog 101=true/\bn prog 102=true/\bn prog 103=true/\bn prog 104=true/\bn prog 105=true/\bn prog 106=true/\bn prog 107=true/\bn prog 108=true/\bn prog 109=true/\bn prog 110=true/\bn prog 111=true/\bn prog 112=true/\bn prog 113=true/\bn prog 114=true/\bn prog 115=true/\bn prog 116=true/\bn prog 117=true/\bn prog 118=true/\bn prog 119=true:=by and_intros<;>kernel_rfl
@[go_sem] def j7M:bn prog 120=true/\bn prog 121=true/\bn prog 122=true/\bn prog 123=true/\bn prog 124=true/\bn prog 125=true/\bn prog 126=true/\bn prog 128=true/\bn prog 129=true/\bn prog 130=true/\bn prog 131=true/\bn prog 132=true/\bn prog 133=true/\bn prog 134=true/\bn prog 135=true/\bn prog 136=true/\bn prog 137=true/\bn prog 138=true/\bn prog 139=true/\bn prog 140=true/\bn prog 142=true/\bn prog 144=true/\bn prog 145=true/\bn prog 146=true:=by and_intros<;>kernel_rfl
@[go_sem] def j8a:bn prog 147=true/\bn prog 148=true/\bn prog 149=true/\bn prog 154=true/\bn prog 155=true/\bn prog 156=true/\bn prog 157=true/\bn prog 163=true/\bn prog 164=true/\bn prog 167=true:=by and_intros<;>kernel_rfl
def mixed:prog.follows .mixedOrders=true:=jG
def jQ:qG prog 184=some (false,3):=jG
def rN:qG prog 188=some (true,3):=jG
end Go.Proofs.YtbjookcdpondlaaGreatDoor