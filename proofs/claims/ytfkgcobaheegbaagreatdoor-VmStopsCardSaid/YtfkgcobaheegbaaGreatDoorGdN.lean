/- Lemmas. No conditions. -/
import Derived.Test.YtfkgcobaheegbaaGreatDoorGdY
import Derived.ProofKit
import Derived.Deep.Slices
import Derived.Carry
import Derived.Laws.MakeOwn
import Derived.OpenShut
import Derived.MapKept
set_option linter.all false
namespace Go.Gd
open Go Go.ChangeShapes Go.WideShapes Go.ChangeAt Go.RowKit Go.Deep
@[reducible] def n0(w:World):NW:={ toWorld:=w,O:=fun _=>False,nm:=fun _ _=>none }
def q9(P:Program)(t:TypeId)(S:List AV->Prop):Prop:=
 ∀(T:Type) (enc:TypeId×Value->T) (w:World) (fuel:Nat) (cs:List Value) (x:DataW T×List MemPlace),
  DataW.trod enc P w 0 (fun _=>true) true fuel t cs=some x->∃us,S us/\cf (n0 w) us cs
section
variable {P:Program}{t:TypeId}
theorem q9.mono{S S':List AV->Prop}(h:q9 P t S)(hs:∀us,S us->S' us):q9 P t S':=fun T enc w fuel cs x hx=>by obtain⟨us,h1,h2⟩:=h T enc w fuel cs x hx;exact⟨us,hs us h1,h2⟩
theorem yG{w:NW}{a:AV}{v:Value}(h:aw w a v):cf w [a] [v]:=⟨rfl,fun i b u hb hu=>by
 cases i with
 |zero=>simp at hb hu;subst hb hu;exact h
 |succ i=>simp at hb⟩
theorem E8{w:NW}{a:AV}{v:Value}{us:List AV}{vs:List Value}(h:aw w a v)(hs:cf w us vs):cf w (a::us) (v::vs):=⟨by simp[hs.1],fun i b u hb hu=>by
 cases i with
 |zero=>simp at hb hu;subst hb hu;exact h
 |succ i=>exact hs.2 i b u (by simpa using hb) (by simpa using hu)⟩
theorem Q5{k:IntKind}(ht:P.underlying t=some (.int k)):q9 P t (fun us=>∃n:Int,(Lit.int k n).wf=true/\us=[.raw (.int k n)]):=fun T enc w fuel cs x hx=>by obtain⟨n,rfl,_,hwf⟩:=DataW.trod_int ht hx;exact⟨_,⟨n,hwf,rfl⟩,yG (.raw _)⟩
def NI(P:Program):List Field->List (List AV->Prop)->Prop
 |[],[]=>True
 |f::l,S::Ss=>q9 P f.type S/\NI P l Ss
 |_,_=>False
theorem PX{e:TypeId}{α:Type}[Inhabited α]{ok:α->Prop}{encA:α->List AV}{sz:Nat}(ht:P.underlying t=some (.slice e))(hc:P.cellsOf e=sz)(hsz:0<sz)(he:q9 P e (fun us=>∃a,ok a/\us=encA a))(hl:∀a,(encA a).length=sz) :
  q9 P t (fun us=>∃l:List α,((∀a∈l,ok a)/\l.length<=9223372036854775807)/\us=[bp encA sz l]):=fun T enc w fuel cs x hx=>by
 rcases open_slice ht hx with⟨rfl,_⟩|⟨a,len,cap,m,n,D,Pl,rfl,_,hlc,hcm,hm,_,hr⟩
 ·exact⟨_,⟨[],⟨jE,jE⟩,rfl⟩,yG (.gm _ _ _ _ jE)⟩
 ·simp only[if_true]at hm;obtain rfl:cap=m:=hm.symm;have hget:∀i,i<len->∃g:α,ok g/\∃cs',w.cells? 0 (a.add (i*sz)) sz=some cs'/\cf (n0 w) (encA g) cs':=fun i hi=>by
   obtain⟨cs',h1,h2⟩:=hr i jB;rw[hc]at h1;obtain⟨us,⟨g,hok,rfl⟩,hrel⟩:=he T enc w n cs' _ h2;exact⟨g,hok,cs',h1,hrel⟩
  obtain⟨g,hg⟩:∃g:Nat->α,∀i,i<len->ok (g i)/\∃cs',w.cells? 0 (a.add (i*sz)) sz=some cs'/\cf (n0 w) (encA (g i)) cs':=by
   classical
   exact⟨fun i=>if h:i<len then(hget i h).choose else default,fun i hi=>by simp only[dif_pos hi];exact(hget i hi).choose_spec⟩
  have hln:((List.range len).map g).length=len:=jE;refine⟨_,⟨(List.range len).map g,⟨fun y hy=>?_,by rw[hln];have:cap<=9223372036854775807:=hcm;omega⟩,rfl⟩,yG ?_⟩
  ·obtain⟨i,hi,rfl⟩:=List.mem_map.1 hy;exact(hg i (by simpa using hi)).1
  ·have hcl:(((List.range len).map g).map encA).length=len:=jE;have hn:∀i,i<len->(((List.range len).map g).map encA).getD i []=encA (g i):=fun i hi=>by simp[List.getD_eq_getElem?_getD,hi]
   by_cases h0:len=0
   ·subst h0;exact .gm _ _ _ _ jE
   ·have hcell:∀i j,i<len->j<sz->∃v,w.cell? (a.add (i*sz+j))=some v/\∀u,(encA (g i))[j]?=some u->aw (n0 w) u v:=fun i j hi hj=>by
     obtain⟨_,cs',h1,h2⟩:=hg i hi;obtain⟨_,hlen,hat⟩:=World.cells?_some h1;have hv:cs'[j]?=some cs'[j]:=List.getElem?_eq_getElem jB;refine⟨cs'[j],?_,fun u hu=>h2.2 j u _ hu hv⟩;rw[<-wh,hat j hj,hv]
    have:=aw.sl (w:=n0 w) (d:=encA default) false sz (((List.range len).map g).map encA) a cap (fun k=>(w.cell? (a.add k)).getD undef) jB jB jE (fun cs hcs=>by
     obtain⟨y,_,rfl⟩:=List.mem_map.1 hcs;exact hl y) (by
     obtain⟨_,cs',h1,_⟩:=hg 0 jB;have:=World.cells?_block h1 hsz;rwa [pA]at this) (fun h=>h) (fun i j hi hj=>by
     obtain⟨v,hv,_⟩:=hcell i j jB hj;rw[hv];rfl) (fun i j u hi hu=>by
     rw[hn i jB]at hu;have hj:j<sz:=by rw[<-hl (g i)];exact(List.getElem?_eq_some_iff.1 hu).1
     obtain⟨v,hv,hrel⟩:=hcell i j jB hj;rw[hv];exact hrel u hu)
    rw[hcl]at this;exact this
-- arguments
variable {T:Type}{enc:TypeId×Value->T}{w:World}{v:Value}{d:DataW T}{ps:List MemPlace}{base:Nat}
theorem IN{S:AV->Prop}(hd:q9 P t (fun us=>∃a,S a/\us=[a]))(hv:v.cells.toList=[v])(h:DataW.Trod enc P w 0 (fun _=>true) true t v d ps):∃a,S a/\aw (n0 w) a v:=by obtain⟨fuel,hf⟩:=h;rw[hv]at hf;obtain⟨us,⟨a,hs,rfl⟩,hr⟩:=hd T enc w fuel _ _ hf;exact⟨a,hs,hr.2 0 a v rfl rfl⟩
end
section
variable {P:Program}{T:Type}{enc:TypeId×Value->T}
theorem FQ(hl:laidOutB P=true){W W':World}(hb:Below W.heap.size W W'):∀(ts:List TypeId) (vs:List Value) (ds:List (DataW T)) (ps:List MemPlace),(∀t∈ts,P.readableRec t=true/\t<P.types.size)->
  DataW.TrodAll enc P W 0 (fun _=>true) true ts vs ds ps->(∀x∈ps,x.block<W.heap.size)->DataW.TrodAll enc P W' 0 (fun b=>decide (b<W.heap.size)) true ts vs ds ps
 |[],[],[],ps,_,h,_=>h
 |t::ts,v::vs,d::ds,ps,hr,h,hlt=>by obtain⟨p,q,h1,h2,rfl⟩:=h;exact⟨p,q,Below.trod hl (hr t jE).1 (hr t jE).2 h1 hb fun x hx=>hlt x (by simp[hx]),FQ hl hb ts vs ds q (fun t ht=>hr t (by simp[ht])) h2 fun x hx=>hlt x (by simp[hx]),rfl⟩
 |[],_::_,_,_,_,h,_=>h.elim
 |[],[],_::_,_,_,h,_=>h.elim
 |_::_,[],_,_,_,h,_=>h.elim
 |_::_,_::_,[],_,_,h,_=>h.elim
theorem OW{fn:Func}{s:ChangeSpec}{apart fresh handsOn:Bool}{W W':World}{args:Array Value}{ds:List (DataW T)}{before:List MemPlace}{tb:TypeId}(hW:DataW.Whole enc P fn.params.toList s.vars apart W args.toList ds [] before)
  (hx:Below W.heap.size W W') (hl:laidOutB P=true) (hr:∀t∈fn.params.toList,P.readableRec t=true/\t<P.types.size) (hrt:fn.resultTypes=#[tb]) (hb:P.underlying tb=some .bool) (hv:s.vars=[])
  (e1:(s.fn T (ds++[])).results=[.lit (.bool true)]) (e2:(s.fn T (ds++[])).args=ds) (e3:(s.fn T (ds++[])).vars=[]):s.post enc P fn apart fresh handsOn false W args (.bool true) W':=by
 have hW':=hW;obtain⟨p,q,hA,hV,rfl,hfz,hnd⟩:=hW;rw[hv]at hV;have hq:q=[]:=hV;subst hq;refine⟨ds,[],_,[],p,[],hW',?_,?_,?_,hx.frame _,fun h=>by cases h⟩
 ·rw[hrt,e1];exact trodAll_mk1 (shut_bool hb true)
 ·rw[e2];exact FQ hl hx _ _ _ _ hr hA fun x hx'=>by simpa using hW'.lt x (by simpa using hx')
 ·rw[hv,e3];exact rfl
theorem Rg(W:World)(hg:lD (n0 W)):aO (n0 W) (entry []):={
 cn:=hg
 rows:=fun i r h=>(by cases h)
 dO:=fun i m z h=>(by cases h)
 inj:=fun i m j n b t s t' s' h _=>(by cases h)
 own:=fun i m b t s h=>(by cases h)
 fin:=fun b h=>h.elim }
theorem Me{f:FuncId}{avs:List AV}{args:Array Value}{W:World}(hg:lD (n0 W))(h:eG P f avs (.raw (.bool true)))(ha:cf (n0 W) avs args.toList):Calls P f args W fun e W'=>e=.returned (.bool true)/\Below W.heap.size W W':=by refine(h (n0 W) args (Rg W hg) ⟨by rw[ha.1];simp,fun i a v h1 h2=>ha.2 i a v h1 (by rw[Array.getElem?_toList];exact h2)⟩).mono ?_;rintro e w' ⟨v,r,H',w2,rfl,rfl,⟨rfl,_⟩,_,g2,g3⟩;have:=dm g2;subst this;exact⟨rfl,⟨g3.os,g3.tape,g3.output,g3.size,fun k hk=>(g3.free k hk (fun h=>h)).1⟩⟩
end
section
variable {P:Program}{f:FuncId}{args cs:List AV}{H:Hp}{K:AV->Hp->Prop}{q:Prop}
theorem cl{l l0:List (Nat×Row)}{r0:AV}(hc:aj P f (args++cs) l fun r l'=>r=r0/\l'=l0)(k:q)(h1:fits l H:=by exact dj)(h0:bz P f=true:=by exact dj)(h2:aW (fun i=>(ids l).contains i) (args++cs)=true:=by exact dj)(h3:sQ (fun i=>(ids l).contains i) l:=by exact dj)
 (h4:fresh (ids l) H l0:=by exact dj) (h5:(ids l0).Nodup:=by exact dj) (e:K r0 ⟨H.B,gZ H.l l0⟩=q:=by exact eJ):fI P (.fQ f cs) args H K:=JB h0 (xD hc h1 h2 h3 h4 h5 (e ▸ k))
theorem cq{R:AV->Prop}{r0:AV}(hc:eG P f args r0)(k:q)(h0:bz P f=true:=by exact dj)(h2:aW dY args=true:=by exact dj)(e:R r0=q:=by exact eJ) :
  ∃r,(fI P (.raw (.func (.func f) #[] #[])) args H fun r' H'=>r'=r/\H'=H)/\R r:=⟨r0,o7 h0 (y5 hc h2 ⟨rfl,rfl⟩),e ▸ k⟩
end
def Sub(a' a:AV):Prop:=∀(w:NW) v,aw w a' v->aw w a v
def rp:List AV->List AV->Prop
 |[],[]=>True
 |a::l,b::m=>Sub a b/\rp l m
 |_,_=>False
theorem Sub.refl(a:AV):Sub a a:=fun _ _ h=>h
theorem Sub.nil(sz:Nat)(d:List AV):Sub (.raw (.slice none 0 0)) (.sl false sz [] d):=fun w v h=>by have:=dm h;subst this;exact .gm _ _ _ _ jE
theorem Sub.lit(sz:Nat)(css:List (List AV))(d d':List AV):Sub (.sl true sz css d) (.sl false sz css d'):=fun w v h=>by
 cases h with
 |gm _ _ A c _=>exact .gm _ _ _ _ jE
 |sl _ _ _ a c vs hn hc hx hsz hb hH hcell h=>exact .sl false sz css a c vs hn hc jE hsz hb hH hcell h
theorem rp.get:∀{l m:List AV},rp l m->l.length=m.length/\∀(i:Nat) a b,l[i]?=some a->m[i]?=some b->Sub a b
 |[],[],_=>⟨rfl,fun i a b h=>by simp at h⟩
 |x::l,y::m,h=>by
  have ih:=rp.get h.2;refine⟨by simp[ih.1],fun i a b ha hb=>?_⟩;cases i with
  |zero=>simp at ha hb;subst ha hb;exact h.1
  |succ i=>exact ih.2 i a b (by simpa using ha) (by simpa using hb)
 |[],_::_,h=>h.elim
 |_::_,[],h=>h.elim
end Go.Gd
namespace Go.Gd
open Go
variable{zs:List Value}
theorem Pv{w:NW}{z:Array Value}{n sz:Nat}(hz:z.toList=zs)(hl:zs.length=sz)(h0:0<sz)(k:Nat)(a:AV)(v:Value)(ha:(List.replicate n (zs.map AV.raw)).flatten[k]?=some a)(hv:(madeCells z (n*sz))[k]?=some v):aw w a v:=by
 have hzs:z.size=sz:=by rw[<-hl,<-hz];simp
 have hk:k<n*sz:=by have:=(Array.getElem?_eq_some_iff.1 hv).1;rwa [size_madeCells]at this
 obtain⟨i,j,hi,hj,rfl⟩:=uL hk;have hcs:∀cs∈List.replicate n (zs.map AV.raw),cs.length=sz:=fun cs hcs=>by rw[(List.mem_replicate.1 hcs).2];simpa using hl
 have hg:=qp hcs (i:=i) (j:=j) (by simpa using hi) hj;rw[hg]at ha;have:(List.replicate n (zs.map AV.raw)).getD i []=zs.map AV.raw:=by simp[List.getD_eq_getElem?_getD,hi]
 rw[this]at ha;simp only[List.getElem?_map,Option.map_eq_some_iff]at ha;obtain⟨x,hx,rfl⟩:=ha;have e:(i*sz+j) % sz=j:=by rw[Nat.add_comm,Nat.add_mul_mod_self_right];exact Nat.mod_eq_of_lt hj
 have:v=x:=by
  have hv2:(madeCells z (n*sz))[i*sz+j]?=some (z[(i*sz+j) % z.size]!):=by simp[madeCells,hk]
  rw[hv2]at hv;have hv:=Option.some.inj hv;rw[<-hv,hzs,e];have hjz:j<z.size:=jB;rw[getElem!_pos z j hjz];have hx':z.toList[j]?=some x:=by rw[hz];exact hx
  rw[Array.getElem?_toList]at hx';exact Option.some.inj ((Array.getElem?_eq_getElem hjz).symm.trans hx')
 subst this;exact .raw _
theorem Oe{P:Program}{ev:Operand->AV}{H:Hp}{ty:TypeId}{K:AV->Hp->Prop}{q:Prop}(i:Nat){t et:TypeId}{sz n:Nat}{l c:Operand}(k:q)(hl:ev l=.raw (.int .i64 (n:Int)):=by rfl)(hc:ev c=.raw (.int .i64 (n:Int)):=by rfl)(ht:iH P t=some et:=by(simp only[go_sem];rfl))(hs:dc P et=some sz:=by(simp only[go_sem];rfl))(hz:eT P et=some zs:=by(simp only[go_sem];rfl))(hzl:zs.length=sz:=by rfl)(h0:0<sz:=by decide)(hr:room (ju P et) n:=by(simp only[go_sem];omega))(hi:H.get i=none:=by rfl)
  (e:K (.rs i n sz n) (H.put i (.aL et sz (List.replicate n (zs.map .raw))))=q:=by exact eJ):js P (.makeSlice t l c) ty ev H K:=fun w ρ dst pos after guard hw hρ=>by
 have h1:=hρ l (by simp[Op.operands]);have h2:=hρ c (by simp[Op.operands]);rw[hl]at h1;rw[hc]at h2;have e1:=dm h1;have e2:=dm h2;have hu:P.underlying t=some (.slice et):=Ak ht;unfold dc at hs;cases hf:P.info? et with
 |none=>rw[hf]at hs;cases hs
 |some inf=>
  rw[hf]at hs;have hsz:inf.size=sz:=by simpa using hs
  have hz':=hz;unfold eT at hz';rw[hf]at hz';simp only[Option.bind_some,Option.map_eq_some_iff]at hz';obtain⟨z,hzz,hzl'⟩:=hz';have hby:ju P et=inf.bytes:=by unfold ju;rw[hf];rfl
  obtain⟨r1,r2⟩:=hr;rw[hby]at r1;have hrun:=run_make (P:=P) w.toWorld t et inf z hu hf hzz .i64 .i64 (n:Int) (n:Int) jB jB (by have h:((n*inf.bytes:Nat):Int)<=140737488355328:=jB;rw[Int.natCast_mul,Int.mul_comm]at h;omega) jB
  simp only[Int.toNat_natCast]at hrun;rw[hsz]at hrun;have hcs:∀cs∈List.replicate n (zs.map AV.raw),cs.length=sz:=fun cs hcs=>by rw[(List.mem_replicate.1 hcs).2];simpa using hzl
  have hfl:=kK hcs;simp only[List.length_replicate]at hfl;obtain⟨q1,q2⟩:=vg (row:=.aL et sz (List.replicate n (zs.map AV.raw))) hw (hw.none hi _) (fun r' hr=>by rw[hi]at hr;cases hr) ⟨h0,hcs⟩ (madeCells z.cells (n*sz)) ⟨rfl,by show(List.replicate n (zs.map AV.raw)).flatten.length<=_;rw[hfl,size_madeCells];exact Nat.le_refl _⟩ (fun k a v ha hv=>Pv hzl' hzl h0 k a v ha hv);refine⟨_,_,.rs i n sz n,e ▸ k,q1,q2,.inl ⟨.slice (some ⟨w.heap.size,0,none⟩) n n,?_,?_⟩⟩
  ·simp only[execOp,e1,e2];simp[hrun];rfl
  ·have hnm:(((w.to (w.alloc (.cells (madeCells z.cells (n*sz)) et))).fV w.heap.size).name i n (.at w.heap.size (n*sz) sz)).nm i n=some (.at w.heap.size (n*sz) sz):=NW.ca _ _ _ _;have:=aw.rs (w:=((w.to (w.alloc (.cells (madeCells z.cells (n*sz)) et))).fV w.heap.size).name i n (.at w.heap.size (n*sz) sz)) i n sz n w.heap.size (n*sz) n hnm rfl jl h0;have e3:(Row.aL et sz (List.replicate n (zs.map AV.raw))).fP=n:=by show(List.replicate n (zs.map AV.raw)).length=n;simp
   have e4:(madeCells z.cells (n*sz)).size=n*sz:=size_madeCells _ _;rw[e3,e4];exact this
open Go.ChangeShapes Go.WideShapes Go.ChangeAt Go.RowKit
end Go.Gd
namespace Go.Gd
open Go
def bY(a k:Nat):Nat:=1000+(8*k+a)
theorem o6(a k:Nat):1000<=bY a k:=by unfold bY;omega
theorem ry{a b k j:Nat}(ha:a<8)(hb:b<8)(h:bY a k=bY b j):a=b/\k=j:=by unfold bY at h;omega
@[go_sem] theorem j4W(a k n:Nat)(h:n<1000):(bY a k=n)=False:=by have:=o6 a k;simp;omega
@[go_sem] theorem j5F(a k n:Nat)(h:n<1000):(n=bY a k)=False:=by have:=o6 a k;simp;omega
@[go_sem] theorem Lg(a b k j:Nat)(ha:a<8)(hb:b<8)(h:a≠b):(bY a k=bY b j)=False:=by simp;intro e;exact h (ry ha hb e).1
def fX(a:Nat)(f:Nat->Row):Nat->Nat->List (Nat×Row)->List (Nat×Row)
 |_,0,l=>l
 |k,n+1,l=>(bY a k,f k)::fX a f (k+1) n l
def cK(a n:Nat)(f:Nat->Row)(l:List (Nat×Row)):List (Nat×Row):=fX a f 0 n l
theorem AQ(a:Nat)(ha:a<8)(f:Nat->Row)(l:List (Nat×Row)):∀(n k j:Nat),av (fX a f k n l) (bY a j)=if k<=j/\j<k+n then some (f j)else av l (bY a j)
 |0,k,j=>by unfold fX;rw[jN]
 |n+1,k,j=>by
  show(if bY a j=bY a k then some (f k)else av (fX a f (k+1) n l) (bY a j))=_;by_cases e:j=k
  ·subst e;rw[if_pos rfl,jP]
  ·rw[if_neg (fun h=>e (ry ha ha h).2),AQ a ha f l n (k+1) j];by_cases h:k+1<=j/\j<k+1+n
   ·rw[if_pos h,jP]
   ·rw[if_neg h,jN]
theorem yK(a:Nat)(f:Nat->Row)(l:List (Nat×Row))(i:Nat)(hi:∀k,i≠bY a k):∀(n k:Nat),av (fX a f k n l) i=av l i
 |0,k=>rfl
 |n+1,k=>by show(if i=bY a k then some (f k)else av (fX a f (k+1) n l) i)=_;rw[if_neg (hi k)];exact yK a f l i hi n (k+1)
@[go_sem] theorem rc(a n:Nat)(f:Nat->Row)(l:List (Nat×Row))(i:Nat)(h:i<1000):av (cK a n f l) i=av l i:=yK a f l i (fun k e=>by have:=o6 a k;omega) n 0
@[go_sem] theorem oU(a n:Nat)(f:Nat->Row)(l:List (Nat×Row))(b k:Nat)(ha:a<8)(hb:b<8)(h:a≠b):av (cK a n f l) (bY b k)=av l (bY b k):=yK a f l _ (fun j e=>h (ry hb ha e).1.symm) n 0
@[go_sem] theorem tA(a n:Nat)(f:Nat->Row)(l:List (Nat×Row))(k:Nat)(ha:a<8)(h:k<n):av (cK a n f l) (bY a k)=some (f k):=by unfold cK;rw[AQ a ha,jP]
@[go_sem] theorem O7(a n:Nat)(f:Nat->Row)(l:List (Nat×Row))(k:Nat)(ha:a<8)(h:n<=k):av (cK a n f l) (bY a k)=av l (bY a k):=by unfold cK;rw[AQ a ha,jN]
theorem CC(a:Nat)(f:Nat->Row)(l:List (Nat×Row))(i:Nat)(r:Row)(hi:∀k,i≠bY a k):∀(n k:Nat),br (fX a f k n l) i r=fX a f k n (br l i r)
 |0,k=>rfl
 |n+1,k=>by unfold fX;show(if i=bY a k then _ else _)=_;rw[if_neg (hi k),CC a f l i r hi n (k+1)]
theorem IA(a:Nat)(ha:a<8)(f:Nat->Row)(l:List (Nat×Row))(j:Nat)(r:Row):∀(n k:Nat),br (fX a f k n l) (bY a j) r=if k<=j/\j<k+n then fX a (fun q=>if q=j then r else f q) k n l else fX a f k n (br l (bY a j) r)
 |0,k=>by unfold fX;rw[jN]
 |n+1,k=>by
  have ih:=IA a ha f l j r n (k+1);show(if bY a j=bY a k then _ else _)=_;by_cases e:j=k
  ·subst e;rw[if_pos rfl,jP];show _::_=(bY a j,if j=j then r else f j)::fX a _ (j+1) n l;rw[if_pos rfl];have:∀(n k:Nat),j<k->fX a f k n l=fX a (fun q=>if q=j then r else f q) k n l:=by
    intro n;induction n with
    |zero=>intro k _;rfl
    |succ n ih=>intro k hk;unfold fX;rw[ih (k+1) jB,jN]
   rw[this n (j+1) jB]
  ·rw[if_neg (fun h=>e (ry ha ha h).2),ih];by_cases h:k+1<=j/\j<k+1+n
   ·rw[if_pos h,jP];show _=(bY a k,if k=j then r else f k)::_;rw[if_neg (fun h=>e h.symm)]
   ·rw[if_neg h,jN];rfl
@[go_sem] theorem jwL(a n:Nat)(f:Nat->Row)(l:List (Nat×Row))(i:Nat)(r:Row)(h:i<1000):br (cK a n f l) i r=cK a n f (br l i r):=CC a f l i r (fun k e=>by have:=o6 a k;omega) n 0
@[go_sem] theorem jyE(a n:Nat)(f:Nat->Row)(l:List (Nat×Row))(b k:Nat)(r:Row)(ha:a<8)(hb:b<8)(h:a≠b):br (cK a n f l) (bY b k) r=cK a n f (br l (bY b k) r):=CC a f l _ r (fun j e=>h (ry hb ha e).1.symm) n 0
@[go_sem] theorem jwM(a n:Nat)(f:Nat->Row)(l:List (Nat×Row))(k:Nat)(r:Row)(ha:a<8)(h:n<=k):br (cK a n f l) (bY a k) r=cK a n f (br l (bY a k) r):=by unfold cK;rw[IA a ha,jN]
theorem Er(a:Nat){f g:Nat->Row}(l:List (Nat×Row)):∀(n k:Nat),(∀j,k<=j->j<k+n->f j=g j)->fX a f k n l=fX a g k n l
 |0,k,_=>rfl
 |n+1,k,h=>by unfold fX;rw[h k jB jB,Er a l n (k+1) fun j h1 h2=>h j jB jB]
variable{n:Nat}{l l':List (Nat×Row)}
theorem MO{a m:Nat}{f g:Nat->Row}(hn:n=m)(h:∀j,j<n->f j=g j)(hl:l=l'):cK a n f l=cK a m g l':=by subst hn hl;exact Er a l n 0 fun j _ h2=>h j jB
theorem uv(a n:Nat)(ha:a<8)(f:Nat->Row)(l:List (Nat×Row))(i:Nat):(∃k,k<n/\i=bY a k/\av (cK a n f l) i=some (f k))\/((∀k,k<n->i≠bY a k)/\av (cK a n f l) i=av l i):=by
 by_cases h:∃k,i=bY a k
 ·obtain⟨k,rfl⟩:=h;by_cases hk:k<n
  ·exact .inl ⟨k,hk,rfl,tA a n f l k ha hk⟩
  ·exact .inr ⟨fun j hj e=>hk ((ry ha ha e).2 ▸ hj),O7 a n f l k ha jB⟩
 ·exact .inr ⟨fun k _ e=>h ⟨k,e⟩,yK a f l i (fun k e=>h ⟨k,e⟩) n 0⟩
def iy{α:Type}(n:Nat)(f:Nat->α):List α:=(List.range n).map f
@[go_sem] theorem Qv{α:Type}(n:Nat)(f:Nat->α):(iy n f).length=n:=by simp[iy]
variable{f:Nat->List AV}
theorem O0{l:List (List AV)}(hl:l.length=n)(h:∀k,k<n->l.getD k []=f k):l=iy n f:=by apply List.ext_getElem (by rw[hl,Qv]);intro i h1 h2;have:=h i jB;rw[List.getD_eq_getElem?_getD,List.getElem?_eq_getElem h1]at this;simpa[iy]using this
@[go_sem] theorem j4k(n:Nat)(f:Nat->List AV)(c:List AV):iy n f++[c]=iy (n+1) (fun q=>if q=n then c else f q):=by
 refine O0 (by simp[iy]) fun j hj=>?_
 rw[List.getD_eq_getElem?_getD];by_cases e:j=n
 ·subst e;rw[if_pos rfl];simp[iy]
 ·rw[if_neg e,List.getElem?_append_left (by simp[iy];omega)];simp[iy,show j<n from jB]
theorem DQ{α:Type}{m:Nat}{f g:Nat->α}(hn:n=m)(h:∀j,j<n->f j=g j):iy n f=iy m g:=by subst hn;unfold iy;exact List.map_congr_left fun j hj=>h j (by simpa using hj)
theorem we{q:Nat->Bool}(h:∀k,k<n->aW q (f k)=true):QL q (iy n f):=fun c hc=>by obtain⟨k,hk,rfl⟩:=List.mem_map.1 hc;exact h k (by simpa using hk)
variable{B:List Nat}
theorem Bb{r:AV}(l':List (Nat×Row))(h:∀i,av l i=av l' i):hZ r ⟨B,l⟩ r ⟨B,l'⟩:=fun w v h1 h2=>by
 have hg:∀i,(Hp.mk B l').get i=(Hp.mk B l).get i:=fun i=>(h i).symm
 exact⟨w,rfl,{ rows:=fun i r hi=>h1.rows i r ((hg i) ▸ hi),dO:=fun i m z hz=>by rw[hg];exact h1.dO i m z hz,inj:=h1.inj,own:=h1.own,fin:=h1.fin,cn:=h1.cn },h2,{ ExtQ.refl _ w with base:=rfl }⟩
theorem OK{w:NW}(h:∀i,av l i=av l' i)(h1:aO w ⟨B,l⟩):aO w ⟨B,l'⟩:=by
 have hg:∀i,(Hp.mk B l').get i=(Hp.mk B l).get i:=fun i=>(h i).symm
 exact{ rows:=fun i r hi=>h1.rows i r ((hg i) ▸ hi),dO:=fun i m z hz=>by rw[hg];exact h1.dO i m z hz,inj:=h1.inj,own:=h1.own,fin:=h1.fin,cn:=h1.cn }
structure Lays(E:List (Nat×Row)->List (Nat×Row))(tl:List (Nat×Row)):Prop where
 get:∀i,av (E tl) i=(av (E []) i).or (av tl i)
 apart:∀i r,av tl i=some r->av (E []) i=none
variable{K:AV->Hp->Prop}
theorem D6{P:Program}{f:FuncId}{args:List AV}{tl:List (Nat×Row)}{E E':List (Nat×Row)->List (Nat×Row)}{r0:AV}(hc:aj P f args (E []) fun r l'=>r=r0/\l'=E' [])(h1:Lays E tl)(h2:Lays E' tl)(h3:(ids (E' [])).Nodup)
  (ha:aW (fun i=>(ids (E [])).contains i) args=true) (hr:∀i r,av (E []) i=some r->aW (fun i=>(ids (E [])).contains i) r.cells=true) (hk:K r0 ⟨B,E' tl⟩) (h4:∀i,av (E []) i≠none->av (E' []) i≠none):eW P f args ⟨B,E tl⟩ K:=fun w vs hw hv=>by
 refine(zZ (H:=⟨B,E tl⟩) (K:=fun r H'=>r=r0/\∃l',H'=⟨B,l'⟩/\∀i,av l' i=av (E' tl) i) hc (fun i r hi=>?_) ha hr (fun r l' ⟨e1,e2⟩=>⟨fun i s hs=>?_,by rw[e2];exact h3,e1,_,rfl,fun i=>?_⟩) hw hv).mono ?_
 ·show av (E tl) i=some r;rw[h1.get,hi];rfl
 ·cases e:av (E []) i with
  |some x=>exact .inl (wu e)
  |none=>
   right
   show av (E tl) i=none;rw[h1.get,e,Option.none_or];cases e':av tl i with
   |none=>rfl
   |some y=>rw[e2]at hs;have:=h2.apart i y e';rw[this]at hs;cases hs
 ·rw[e2,xA _ _ _ (fun _ _ _=>trivial) h3,h2.get,h1.get];cases e:av (E' []) i with
  |some x=>rfl
  |none=>
   have:av (E []) i=none:=Classical.byContradiction fun h=>h4 i h e
   rw[this];rfl
 ·rintro e W ⟨v,r,H',w',rfl,rfl,⟨rfl,l',rfl,hl⟩,g1,g2,g3⟩;exact⟨v,_,⟨B,E' tl⟩,w',rfl,rfl,hk,OK hl g1,g2,{ g3 with base:=rfl }⟩
variable{t:TypeId}{zs:List Value}{q:Prop}
theorem kj{P:Program}(i:Nat){H:Hp}(k:q)(hi:H.get i=none:=by first|rfl|exact dj)(hz:eT P t=some zs:=by(simp only[go_sem];rfl))(e:K (.pt i 0 0 0) (H.put i (.var t (zs.map .raw)))=q:=by exact eJ):nP P H t K:=yh i hz hi (e ▸ k)
theorem fa(i:Nat){x:AV}{H:Hp}(k:q)(hi:H.get i=none:=by first|rfl|exact dj)(ho:da x.cells=true:=by simp only[go_sem])(e:K (.pt i 0 0 0) (H.put i (.var t x.cells))=q:=by exact eJ):rm H t x K:=yk i ho hi (e ▸ k)
section
variable {α:Type}[DecidableEq α]
def pr(n:α):List α->List AV->Option AV
 |k::ks,v::vs=>if n=k then some v else pr n ks vs
 |_,_=>none
def mZ(n:α)(x:AV):List α->List AV->List AV
 |k::ks,v::vs=>if n=k then x::vs else v::mZ n x ks vs
 |_,_=>[x]
def mL(n:α):List α->List α
 |k::ks=>if n=k then k::ks else k::mL n ks
 |[]=>[n]
theorem F0(n:α)(x:AV):∀(ks:List α) (vs:List AV),ks.length=vs.length->(mL n ks).length=(mZ n x ks vs).length
 |[],[],_=>rfl
 |[],_::_,h=>by simp at h
 |_::_,[],h=>by simp at h
 |k::ks,v::vs,h=>by
  have h:ks.length=vs.length:=by simpa using h
  unfold mL mZ;split
  ·simp[h]
  ·simp[F0 n x ks vs h]
structure j5(P:Program)(kt:TypeId)(enc:α->Value):Prop where
 NS:∃d,P.underlying kt=some d/\∀a b,Instr.sameNow d (enc a) (enc b)=some (decide (a=b))
 zj:∀(w:World) a e,(Instr.checkKey e 10000 kt (enc a)).run P w=.ok () w
 bits:∀a,Instr.sameBits 10000 (enc a) (enc a)=true
variable{P:Program}{kt:TypeId}
theorem Pp(h:P.underlying kt=some (.int .i64)):j5 P kt (Value.int .i64):=⟨⟨_,h,fun a b=>by simp[Instr.sameNow];rfl⟩,fun w a e=>MapKept.run_checkKey h (by simp[MapKept.IsKey]) e 9999,fun a=>by unfold Instr.sameBits;simp⟩
theorem I7(h:P.underlying kt=some .string):j5 P kt Value.string:=⟨⟨_,h,fun a b=>by
 have:(a == b)=decide (a=b):=by rw[Bool.eq_iff_iff,MapKept.bytes_beq];simp
 simp only[Instr.sameNow,this]⟩,fun w a e=>MapKept.run_checkKey h (by simp[MapKept.IsKey]) e 9999,fun a=>by unfold Instr.sameBits;exact(MapKept.bytes_beq a a).2 rfl⟩
def nH(n:α):List α->List Value->Nat->Option (Nat×Value)
 |k::ks,v::vs,i=>if n=k then some (i,v)else nH n ks vs (i+1)
 |_,_,_=>none
theorem Fh{d:TypeDesc}{enc:α->Value}(h:∀a b,Instr.sameNow d (enc a) (enc b)=some (decide (a=b)))(n:α):∀(ks:List α) (vs:List Value) (b i:Nat),Instr.findNow d (enc n) (iM b (ks.map enc) vs) i=some (nH n ks vs i)
 |[],vs,b,i=>by simp[iM,nH,Instr.findNow]
 |k::ks,[],b,i=>by simp[iM,nH,Instr.findNow]
 |k::ks,v::vs,b,i=>by
  simp only[List.map_cons,iM,nH,Instr.findNow,h];by_cases e:n=k
  ·simp[e]
  ·simp[e,Fh h n ks vs (b+1) (i+1)]
theorem Ad{n:α}:∀{ks:List α} {vs:List Value} {i j:Nat} {v:Value},nH n ks vs i=some (j,v)->∃k,j=i+k/\vs[k]?=some v/\ks[k]?=some n/\k<ks.length/\
  (∀as:List AV,as.length=ks.length->pr n ks as=as[k]?/\(∀x,mZ n x ks as=as.set k x))/\mL n ks=ks
 |[],_,_,_,_,h=>by simp[nH]at h
 |_::_,[],_,_,_,h=>by simp[nH]at h
 |k::ks,v'::vs,i,j,v,h=>by
  unfold nH at h;split at h
  ·rename_i e;cases h;refine⟨0,rfl,rfl,by simp[e],jE,fun as hl=>?_,by simp[mL,e]⟩;cases as with
   |nil=>simp at hl
   |cons a as=>exact⟨by simp[pr,e],fun x=>by simp[mZ,e]⟩
  ·rename_i e;obtain⟨q,h1,h2,h3,h5,h4,h6⟩:=Ad h;refine⟨q+1,jB,by simpa using h2,by simpa using h3,by simpa using h5,fun as hl=>?_,by unfold mL;rw[if_neg e,h6]⟩;cases as with
   |nil=>simp at hl
   |cons a as=> obtain⟨g1,g2⟩:=h4 as (by simpa using hl);exact⟨by unfold pr;rw[if_neg e,g1];rfl,fun x=>by unfold mZ;rw[if_neg e,g2];rfl⟩
theorem BR{n:α}:∀{ks:List α} {vs:List Value} {i:Nat},ks.length=vs.length->nH n ks vs i=none->(∀as:List AV,as.length=ks.length->pr n ks as=none/\∀x,mZ n x ks as=as++[x])/\mL n ks=ks++[n]
 |[],_,_,_,_=>⟨fun as hl=>by
   have:as=[]:=by simpa using hl
   subst this;exact⟨rfl,fun x=>rfl⟩,rfl⟩
 |_::_,[],_,h,_=>by simp at h
 |k::ks,v'::vs,i,hl,h=>by
  unfold nH at h;split at h
  ·cases h
  ·rename_i e;obtain⟨g1,g2⟩:=BR (by simpa using hl) h;refine⟨fun as hla=>?_,by unfold mL;rw[if_neg e,g2];rfl⟩;cases as with
   |nil=>simp at hla
   |cons a as=> obtain⟨q1,q2⟩:=g1 as (by simpa using hla);exact⟨by unfold pr;rw[if_neg e,q1],fun x=>by unfold mZ;rw[if_neg e,q2];rfl⟩
theorem Gi:∀(b:Nat) (ks vs:List Value) (k v:Value),ks.length=vs.length->iM b (ks++[k]) (vs++[v])=iM b ks vs++[⟨k,v,b+ks.length⟩]
 |b,[],[],k,v,_=>by simp[iM]
 |b,[],_::_,k,v,h=>by simp at h
 |b,_::_,[],k,v,h=>by simp at h
 |b,k'::ks,v'::vs,k,v,h=>by have:=Gi (b+1) ks vs k v (by simpa using h);simp only[List.cons_append,iM,this,List.length_cons];rw[show b+1+ks.length=b+(ks.length+1) from jB]
theorem D1:∀(b:Nat) (ks vs:List Value) (j:Nat) (k v:Value),ks[j]?=some k->vs[j]?=some v->(iM b ks vs)[j]?=some ⟨k,v,b+j⟩
 |b,[],_,j,k,v,h,_=>by simp at h
 |b,_::_,[],j,k,v,_,h=>by simp at h
 |b,k'::ks,v'::vs,0,k,v,h1,h2=>by simp at h1 h2;subst h1 h2;rfl
 |b,k'::ks,v'::vs,j+1,k,v,h1,h2=>by have:=D1 (b+1) ks vs j k v (by simpa using h1) (by simpa using h2);simp only[iM,List.getElem?_cons_succ,this];rw[show b+1+j=b+(j+1) from jB]
theorem GX:∀(b:Nat) (ks vs:List Value) (j:Nat) (k v:Value),ks[j]?=some k->j<vs.length->iM b ks (vs.set j v)=(iM b ks vs).modify j fun e=>{ e with key:=k,val:=v }
 |b,[],_,j,k,v,h,_=>by simp at h
 |b,_::_,[],j,k,v,_,h=>by simp at h
 |b,k'::ks,v'::vs,0,k,v,h1,_=>by simp at h1;subst h1;simp[iM]
 |b,k'::ks,v'::vs,j+1,k,v,h1,h2=>by have:=GX (b+1) ks vs j k v (by simpa using h1) (by simpa using h2);simp[iM,this]
theorem Gq{enc:α->Value}(K:j5 P kt enc)(w:World)(n:α)(ks:List α)(vs:List Value)(b:Nat):(Instr.findKey kt (enc n) (iM b (ks.map enc) vs)).run P w=.ok (nH n ks vs 0) w:=by obtain⟨d,h1,h2⟩:=K.NS;simp[Instr.findKey,run_underlying h1,Fh h2,Result.andThen]
end
section
variable {P:Program}{H:Hp}{α:Type}[DecidableEq α]
variable{i:Nat}{vs:List AV}
theorem H7{w:NW}(hw:aO w H){ks:List Value}{b t s:Nat}(hi:H.get i=some (.mp ks vs))(hn:w.nm i 0=some (.at b t s)) :
  s=0/\ks.length=vs.length/\∃cur:Array Value,w.heap[b]?=some (.map (iM 0 ks cur.toList).toArray ks.length)/\cur.size=vs.length/\∀(k:Nat) a v,vs[k]?=some a->cur[k]?=some v->aw w a v:=by
 obtain⟨hok,z,hz,hrow⟩:=hw.rows _ _ hi;have:z=.at b t s:=by have hz:w.nm i 0=some z:=hz;rw[hn]at hz;cases hz;rfl
 subst this;obtain⟨h1,cur,hh,hfit,hr⟩:=hrow;exact⟨h1,hok,cur,hh,hfit,hr⟩
variable{ty t:TypeId}{K:AV->Hp->Prop}{q:Prop}
theorem uh(i:Nat){ev:Operand->AV}(k:q)(hi:H.get i=none:=by first|rfl|exact dj)(e:K (.mr i) (H.put i (.mp [] []))=q:=by exact eJ):js P (.makeMap t none) ty ev H K:=fun w ρ dst pos after guard hw hρ=>by
 obtain⟨q1,q2⟩:=vg (row:=.mp [] []) hw (hw.none hi _) (fun r' hr=>by rw[hi]at hr;cases hr) rfl #[] rfl (fun k a v ha hv=>by have ha:([]:List AV)[k]?=some a:=ha;simp at ha)
 refine⟨_,_,.mr i,e ▸ k,q1,q2,.inl ⟨.map (some w.heap.size),?_,.mr _ _ _ _ (NW.ca _ _ _ _)⟩⟩;simp[execOp,Instr.makeMap,newObj,Result.andThen];rfl
variable{et:TypeId}{om ox:Operand}{op:Op}{enc:α->Value}
theorem HU{ev:Operand->AV}{kt:TypeId}{ok:Operand}{ks:List α}{n:α}{x:AV}(hop:op=.insert t om ok ox\/op=.mapUpdate t om ok ox)(hK:j5 P kt enc)(ht:P.underlying t=some (.map kt et))
  (hm:ev om=.mr i) (hk:ev ok=.raw (enc n)) (hx:ev ox=x) (hi:H.get i=some (.mp (ks.map enc) vs)) (k:q) (e:K .any (H.put i (.mp ((mL n ks).map enc) (mZ n x ks vs)))=q):js P op ty ev H K:=fun w ρ dst pos after guard hw hρ=>by
 have ho:om∈op.operands.toList/\ok∈op.operands.toList/\ox∈op.operands.toList:=by rcases hop with rfl|rfl<;>simp[Op.operands]
 have h1:=hρ om ho.1;have h2:=hρ ok ho.2.1;have h3:=hρ ox ho.2.2;rw[hm]at h1;rw[hk]at h2;rw[hx]at h3;have e2:=dm h2;cases e1:ρ om with
 |map r=>
  rw[e1]at h1;cases h1 with
  |mr _ b u s hn=>
  obtain⟨rfl,hl,cur,hh,hsz,hr⟩:=H7 hw hi hn;have hl:ks.length=vs.length:=by simpa using hl
  have hcl:ks.length=cur.toList.length:=by simp;omega
  have hb:b<w.heap.size:=hw.lt hn;have run:∀(vs':List Value) (ks':List α),ks'.length=vs'.length->(mZ n x ks vs).length=vs'.length->mL n ks=ks'->
    (Instr.mapUpdate t (ρ om) (ρ ok) (ρ ox)).run P w.toWorld=.ok () { w.toWorld with heap:=w.heap.setIfInBounds b (.map (iM 0 (ks'.map enc) vs').toArray ks'.length) }->
    (∀(k:Nat) a v,(mZ n x ks vs)[k]?=some a->vs'[k]?=some v->aw w a v)->∃(w':NW) (H':Hp) (r:AV),K r H'/\aO w' H'/\Ext w H w' H'/\((∃v,(execOp ρ ⟨dst,op,ty,pos,after,guard⟩).run P w.toWorld=.ok (.value v) w'.toWorld/\aw w' r v)\/((execOp ρ ⟨dst,op,ty,pos,after,guard⟩).run P w.toWorld=.ok .skip w'.toWorld/\r=.any)):=fun vs' ks' hl' hl2 hkk hrun hrel=>by
   obtain⟨g1,g2⟩:=Hs (W:={ w.toWorld with heap:=w.heap.setIfInBounds b (.map (iM 0 (ks'.map enc) vs').toArray ks'.length) }) (row:=.mp (ks.map enc) vs) (row':=.mp ((mL n ks).map enc) (mZ n x ks vs)) hw hi hn rfl jl (by show((mL n ks).map enc).length=_;rw[List.length_map];exact F0 n x ks vs hl) rfl rfl rfl jE (fun c hc=>by
    show(w.heap.setIfInBounds b _)[c]?=_;rw[Array.getElem?_setIfInBounds,if_neg (fun h=>hc h.symm)]) vs'.toArray (by
    show(w.heap.setIfInBounds b _)[b]?=_;rw[Array.getElem?_setIfInBounds,if_pos rfl,if_pos hb,hkk];simp[Row.obj]) (by show vs'.toArray.size=_;simp;omega) (fun k a v ha hv=>hrel k a v ha (by simpa using hv))
   refine⟨_,_,.any,e ▸ k,g1,g2,.inr ⟨?_,rfl⟩⟩;rcases hop with rfl|rfl
   ·simp only[execOp,hrun];simp[hrun,Result.andThen];rfl
   ·simp only[execOp,hrun];simp[hrun,Result.andThen];rfl
  have hfind:=Gq hK w.toWorld n ks cur.toList 0;cases hf:nH n ks cur.toList 0 with
  |none=>
   obtain⟨f1,f2⟩:=BR hcl hf;obtain⟨f3,f4⟩:=f1 vs jB;refine run (cur.toList++[ρ ox]) (ks++[n]) jF (by rw[f4];simp;omega) f2 ?_ ?_
   ·rw[e1,e2];have es:=Gi 0 (ks.map enc) cur.toList (enc n) (ρ ox) (by simpa using hcl);rw[Nat.zero_add,List.length_map]at es;rw[List.map_append,List.map_singleton,es];simp[Instr.mapUpdate,run_underlying ht,MapKept.run_getObj_map hh,hK.zj,hfind,hf,MapKept.run_setObj_map _ hh,Result.andThen]
   ·intro k a v ha hv;rw[f4]at ha;rcases Nat.lt_or_ge k vs.length with h|h
    ·rw[List.getElem?_append_left h]at ha;rw[List.getElem?_append_left jF]at hv;exact hr k a v ha (by simpa using hv)
    ·rw[List.getElem?_append_right h]at ha;rw[List.getElem?_append_right jF]at hv;have hk0:k-vs.length=0:=by
      have:=(List.getElem?_eq_some_iff.1 ha).1;simp at this;omega
     rw[hk0]at ha;rw[show k-cur.toList.length=0 by simp;omega]at hv;simp at ha hv;subst ha hv;exact h3
  |some jv=>
   obtain⟨j,v0⟩:=jv;obtain⟨k0,rfl,f2,f3,f5,f4,f6⟩:=Ad hf;rw[Nat.zero_add]at hf;obtain⟨f7,f8⟩:=f4 vs jB;refine run (cur.toList.set k0 (ρ ox)) ks jF (by rw[f8];simp;omega) f6 ?_ ?_
   ·rw[e1,e2];have hke:(ks.map enc)[k0]?=some (enc n):=by simp[f3]
    have es:=GX 0 (ks.map enc) cur.toList k0 (enc n) (ρ ox) hke jB;have eg:=D1 0 (ks.map enc) cur.toList k0 (enc n) v0 hke f2;rw[es];have hmod:∀g,(iM 0 (ks.map enc) cur.toList).toArray.modify k0 g=((iM 0 (ks.map enc) cur.toList).modify k0 g).toArray:=fun g=>jE
    simp[Instr.mapUpdate,run_underlying ht,MapKept.run_getObj_map hh,hK.zj,hfind,hf,MapKept.run_setObj_map _ hh,Result.andThen,eg,Instr.keyThatStays,hK.bits]
   ·intro k a v ha hv;rw[f8,List.getElem?_set]at ha;rw[List.getElem?_set]at hv;by_cases hk':k0=k
    ·rw[if_pos hk']at ha hv;split at ha
     ·split at hv
      ·cases ha;cases hv;exact h3
      ·cases hv
     ·cases ha
    ·rw[if_neg hk']at ha hv;exact hr k a v ha (by simpa using hv)
 |_=>rw[e1]at h1;cases h1
def oC(n:α)(ks:List α)(vs:List AV)(z:AV)(ok:Bool):AV:=if ok=true then(match pr n ks vs with|some v=>.bj [v,.raw (.bool true)]|none=>.bj [z,.raw (.bool false)])else(pr n ks vs).getD z
theorem Ea{ev:Operand->AV}{kt:TypeId}{c:Bool}{ks:List α}{n:α}{z:Value}(hK:j5 P kt enc)(ht:P.underlying t=some (.map kt et))(hz:(P.info? et).bind (·.zero)=some z)
  (hm:ev om=.mr i) (hk:ev ox=.raw (enc n)) (hi:H.get i=some (.mp (ks.map enc) vs)) (k:q) (e:K (oC n ks vs (.raw z) c) H=q):js P (.lookup t om ox c) ty ev H K:=fun w ρ dst pos after guard hw hρ=>by
 have h1:=hρ om (by simp[Op.operands]);have h2:=hρ ox (by simp[Op.operands]);rw[hm]at h1;rw[hk]at h2;have e2:=dm h2;cases e1:ρ om with
 |map r=>
  rw[e1]at h1;cases h1 with
  |mr _ b u s hn=>
  obtain⟨rfl,hl,cur,hh,hsz,hr⟩:=H7 hw hi hn;have hl:ks.length=vs.length:=by simpa using hl
  have hcl:ks.length=cur.toList.length:=by simp;omega
  have hfind:=Gq hK w.toWorld n ks cur.toList 0;have hzr:(zeroValue et).run P w.toWorld=.ok z w.toWorld:=by
   cases hti:P.info? et with
   |none=>rw[hti]at hz;cases hz
   |some ti=>rw[hti]at hz;simp only[Option.bind_some]at hz;simp[zeroValue,typeInfo,hti,hz]
  cases hf:nH n ks cur.toList 0 with
  |none=>
   obtain⟨f1,f2⟩:=BR hcl hf;obtain⟨f3,_⟩:=f1 vs jB;refine⟨w,H,_,e ▸ k,hw,Ext.refl w H,.inl ⟨if c=true then .tuple #[z,.bool false]else z,?_,?_⟩⟩
   ·simp only[execOp,e1,e2];cases c<;>simp[Instr.lookup,run_underlying ht,MapKept.run_getObj_map hh,hK.zj,hfind,hf,hzr,Result.andThen]
   ·unfold oC;rw[f3];cases c
    ·exact .raw _
    ·exact .bj _ _ rfl fun i a v ha hv=>by
      match i with
      |0=>simp at ha hv;subst ha hv;exact .raw _
      |1=>simp at ha hv;subst ha hv;exact .raw _
      |i+2=>simp at ha
  |some jv=>
   obtain⟨j,v0⟩:=jv;obtain⟨k0,rfl,f2,f3,f5,f4,f6⟩:=Ad hf;obtain⟨f7,_⟩:=f4 vs jB;have hk0:k0<vs.length:=jB;have hv0:aw w vs[k0] v0:=hr k0 _ v0 (List.getElem?_eq_getElem hk0) (by simpa using f2);refine⟨w,H,_,e ▸ k,hw,Ext.refl w H,.inl ⟨if c=true then .tuple #[v0,.bool true]else v0,?_,?_⟩⟩
   ·simp only[execOp,e1,e2];cases c<;>simp[Instr.lookup,run_underlying ht,MapKept.run_getObj_map hh,hK.zj,hfind,hf,Result.andThen]
   ·unfold oC;rw[f7,List.getElem?_eq_getElem hk0];cases c
    ·exact hv0
    ·exact .bj _ _ rfl fun i a v ha hv=>by
      match i with
      |0=>simp at ha hv;subst ha hv;exact hv0
      |1=>simp at ha hv;subst ha hv;exact .raw _
      |i+2=>simp at ha
 |_=>rw[e1]at h1;cases h1
def pZ(P:Program)(t:TypeId):Option (Bool×TypeId):=match P.underlying t with
 |some (.map k e)=>match P.underlying k with
  |some .string=>some (true,e)
  |some (.int .i64)=>some (false,e)
  |_=>none
 |_=>none
theorem ED{e:TypeId}(h:pZ P t=some (true,e)):∃k,P.underlying t=some (.map k e)/\j5 P k Value.string:=by
 unfold pZ at h;split at h
 ·rename_i k e' h1;split at h
  ·rename_i h2;cases h;exact⟨k,h1,I7 h2⟩
  ·cases h
  ·cases h
 ·cases h
theorem Gg{e:TypeId}(h:pZ P t=some (false,e)):∃k,P.underlying t=some (.map k e)/\j5 P k (Value.int .i64):=by
 unfold pZ at h;split at h
 ·rename_i k e' h1;split at h
  ·cases h
  ·rename_i h2;cases h;exact⟨k,h1,Pp h2⟩
  ·cases h
 ·cases h
theorem la{ev:Operand->AV}{ok:Operand}{n:Int}(ks:List Int)(hm0:pZ P t=some (false,et))(k:q)(hop:op=.insert t om ok ox\/op=.mapUpdate t om ok ox:=by first|exact Or.inl rfl|exact Or.inr rfl)
  (hm:ev om=.mr i:=by rfl) (hk:ev ok=.raw (.int .i64 n):=by rfl) (hi:H.get i=some (.mp (ks.map (Value.int .i64)) vs):=by first|rfl|exact dj) (e:K .any (H.put i (.mp ((mL n ks).map (Value.int .i64)) (mZ n (ev ox) ks vs)))=q:=by exact eJ):js P op ty ev H K:=by
 obtain⟨kt,h1,h2⟩:=Gg hm0;exact HU hop h2 h1 hm hk rfl hi k e
theorem uX{ev:Operand->AV}{ok:Operand}{n:ByteArray}(ks:List ByteArray)(hm0:pZ P t=some (true,et))(k:q)(hop:op=.insert t om ok ox\/op=.mapUpdate t om ok ox:=by first|exact Or.inl rfl|exact Or.inr rfl)
  (hm:ev om=.mr i:=by rfl) (hk:ev ok=.raw (.string n):=by rfl) (hi:H.get i=some (.mp (ks.map Value.string) vs):=by first|rfl|exact dj) (e:K .any (H.put i (.mp ((mL n ks).map Value.string) (mZ n (ev ox) ks vs)))=q:=by exact eJ):js P op ty ev H K:=by
 obtain⟨kt,h1,h2⟩:=ED hm0;exact HU hop h2 h1 hm hk rfl hi k e
theorem xS{ev:Operand->AV}{c:Bool}{n:Int}(ks:List Int)(z:Value)(r:AV)(hm0:pZ P t=some (false,et))(hz:(P.info? et).bind (·.zero)=some z)(hr:oC n ks vs (.raw z) c=r)(k:q)
  (hm:ev om=.mr i:=by rfl) (hk:ev ox=.raw (.int .i64 n):=by rfl) (hi:H.get i=some (.mp (ks.map (Value.int .i64)) vs):=by first|rfl|exact dj) (e:K r H=q:=by exact eJ):js P (.lookup t om ox c) ty ev H K:=by
 obtain⟨kt,h1,h2⟩:=Gg hm0;exact Ea h2 h1 hz hm hk hi k (hr ▸ e)
theorem pg{ev:Operand->AV}{c:Bool}{n:ByteArray}(ks:List ByteArray)(z:Value)(r:AV)(hm0:pZ P t=some (true,et))(hz:(P.info? et).bind (·.zero)=some z)(hr:oC n ks vs (.raw z) c=r)(k:q)
  (hm:ev om=.mr i:=by rfl) (hk:ev ox=.raw (.string n):=by rfl) (hi:H.get i=some (.mp (ks.map Value.string) vs):=by first|rfl|exact dj) (e:K r H=q:=by exact eJ):js P (.lookup t om ox c) ty ev H K:=by
 obtain⟨kt,h1,h2⟩:=ED hm0;exact Ea h2 h1 hz hm hk hi k (hr ▸ e)
@[go_sem] theorem j0G{ev:Operand->AV}(t:TypeId)(r:Option Operand):vc P ev H ty K (.makeMap t r)=js P (.makeMap t r) ty ev H K:=by simp[vc,dh]
@[go_sem] theorem j2Z{ev:Operand->AV}(t:TypeId)(m k x:Operand):vc P ev H ty K (.insert t m k x)=js P (.insert t m k x) ty ev H K:=by simp[vc,dh]
@[go_sem] theorem j20{ev:Operand->AV}(t:TypeId)(m k:Operand)(c:Bool):vc P ev H ty K (.lookup t m k c)=js P (.lookup t m k c) ty ev H K:=by simp[vc,dh]
end
attribute [go_sem] mZ mL
-- what is new, in regions that leave their order open
section
variable {P:Program}{A:AS}{ev:Operand->AV}{H:Hp}
variable{K:AV->Hp->Prop}
@[go_sem] theorem j50(t:TypeId)(n:Nat)(ps:Array (Nat×Operand)):sf P A ev H K (.buildSlice t n ps)=nq P H t n (ps.toList.map fun p=>(p.1,ev p.2)) (AP (fun r H'=>dI A H H'/\K r H') .mk):=(rfl)
@[go_sem] theorem j4t(t:TypeId)(l c:Operand):sf P A ev H K (.makeSlice t l c)=js P (.makeSlice t l c) 0 ev H (AP (fun r H'=>dI A H H'/\K r H') .mk):=(rfl)
@[go_sem] theorem j0D(t:TypeId)(a x:Operand):sf P A ev H K (.call ⟨.builtin .append,#[a,x],#[t,t]⟩)=pT P t t (ev a) (ev x) H (AP (fun r H'=>dI A H H'/\K r H') .mk):=(rfl)
variable{t:TypeId}{sz:Nat}{zs:List Value}{f:AV->Hp->Prop}{q:Prop}
theorem Q7(i:Nat){e:TypeId}{b:Bool}{x:AV}{c:Prop}{ys:List (List AV)}{d:gb fun r H'=>dI A H H'/\f r H'}(k:q)(ht:iH P t=some e:=by(simp only[go_sem];rfl))(hs:dc P e=some sz:=by first|(simp only[go_sem];done)|(simp only[go_sem];rfl))(hz:eT P e=some zs:=by(simp only[go_sem];rfl))(hzl:zs.length=sz:=by rfl)(h0:0<sz:=by decide)
  (hx:tj H x=some (c,ys):=by first|rfl|exact dj) (hc:c:=by first|trivial|exact dj) (hg:lA sz ys:=by first|exact Hk _ _ (fun _=>rfl)|exact dj) (hr:room (ju P e) ys.length:=by(simp only[go_sem];omega)) (hi:H.get i=none:=by first|rfl|exact dj)
  (e:f (.rs i ys.length sz ys.length) (H.put i (.aL e sz ys))=q:=by exact eJ):pT P t t (.sl true sz [] []) x H (AP (fun r H'=>dI A H H'/\f r H') d):=by
 refine DG ?_;unfold wS;rw[ht];simp only[hs,hz,hx];refine⟨⟨hzl,h0,hc,hg⟩,⟨rfl,by simpa using hr,.inl rfl⟩,i,hi,dI.put (by simpa using hi),?_⟩;simp only[List.length_nil,Nat.zero_add,List.nil_append];exact e ▸ k
variable{css:List (List AV)}
theorem qy(i:Nat)(k:q)(h0:0<sz:=by decide)(hi:H.get i=none:=by first|rfl|exact dj)(e:K (.rs i css.length sz css.length) (H.put i (.aL t sz css))=q:=by exact eJ):qC t sz css H K:=B1 i h0 hi (e ▸ k)
theorem II(i:Nat){d:gb fun r H'=>dI A H H'/\f r H'}(k:q)(h0:0<sz:=by decide)(hi:H.get i=none:=by first|rfl|exact dj)(e:f (.rs i css.length sz css.length) (H.put i (.aL t sz css))=q:=by exact eJ) :
  qC t sz css H (AP (fun r H'=>dI A H H'/\f r H') d):=B1 i h0 hi ⟨dI.put hi,e ▸ k⟩
theorem OE(i:Nat){et:TypeId}{n:Nat}{l c:Operand}{d:gb fun r H'=>dI A H H'/\f r H'}(k:q)(hl:ev l=.raw (.int .i64 (n:Int)):=by rfl)(hc:ev c=.raw (.int .i64 (n:Int)):=by rfl)(ht:iH P t=some et:=by(simp only[go_sem];rfl))(hs:dc P et=some sz:=by(simp only[go_sem];rfl))(hz:eT P et=some zs:=by(simp only[go_sem];rfl))(hzl:zs.length=sz:=by rfl)(h0:0<sz:=by decide)(hr:room (ju P et) n:=by(simp only[go_sem];omega))(hi:H.get i=none:=by first|rfl|exact dj)
  (e:f (.rs i n sz n) (H.put i (.aL et sz (List.replicate n (zs.map .raw))))=q:=by exact eJ):js P (.makeSlice t l c) 0 ev H (AP (fun r H'=>dI A H H'/\f r H') d):=
 Oe (K:=AP (fun r H'=>dI A H H'/\f r H') d) (q:=dI A H (H.put i (.aL et sz (List.replicate n (zs.map .raw))))/\q) i ⟨dI.put hi,k⟩ hl hc ht hs hz hzl h0 hr hi (by show(dI A H _/\f _ _)=_;rw[e])
variable{l0:List (Nat×Row)}
theorem Jz(h4:fresh [] H l0)(h5:(ids l0).Nodup):dI A H ⟨H.B,gZ H.l l0⟩:=fun i r _ hi=>by
 left
 show av (gZ H.l l0) i=some r;rw[xA _ _ _ (fun _ _ _=>trivial) h5];cases e:av l0 i with
 |none=>exact hi
 |some x=>
  rcases BS h4 i x e with h|h
  ·simp at h
  ·rw[hi]at h;cases h
theorem cN{f:FuncId}{args:List AV}{g:AV->Hp->Prop}{d:gb fun r H'=>dI A H H'/\g r H'}{r0:AV}(hc:aj P f args [] fun r l'=>r=r0/\l'=l0)(k:q)(h0:bz P f=true:=by exact dj)(h2:aW dY args=true:=by exact dj)
 (h4:fresh [] H l0:=by exact dj) (h5:(ids l0).Nodup:=by exact dj) (e:g r0 ⟨H.B,gZ H.l l0⟩=q:=by exact eJ):fI P (.raw (.func (.func f) #[] #[])) args H (AP (fun r H'=>dI A H H'/\g r H') d):=
 o7 h0 (xD (K:=AP (fun r H'=>dI A H H'/\g r H') d) hc trivial (by simpa[ids]using h2) trivial h4 h5 ⟨Jz h4 h5,e ▸ k⟩)
end
attribute [go_sem] xP
-- calls under guards, that change things
def DN(D:List Nat):Option Tmp->Bool
 |some t=>D.contains t
 |none=>false
def Iy(P:Program)(ev:Operand->AV)(H:Hp)(K:AV->Hp->Prop):Op->Prop
 |.call { callee:=.value f,args,.. }=>fI P (ev f) (args.toList.map ev) H K
 |_=>False
def jQ(D:List Nat)(P:Program)(ops:Array Oper)(K:List AV->Hp->Prop):List Oper->List AV->Hp->Prop
 |[],F,H=>K F H
 |o::rest,F,H=>match o.guard with
  |none=>vc P (cc F) H o.type (fun r H'=>jQ D P ops K rest (cA F o.dst r) H') o.op
  |some (j,want)=>match mq ops F j want with
   |some b=>if(DN D o.dst && k9 o.op)=true then(b=true->gv F o.op=true/\Iy P (bS F) H (fun r H'=>jQ D P ops K rest (cA F o.dst r) H') o.op)/\(b=false->jQ D P ops K rest (cA F o.dst (.gd false (.raw (.bool false)))) H)
    else if k9 o.op || iB o.op then eQ P F H b (fun r=>jQ D P ops K rest (cA F o.dst r) H) o.op
    else(b=true->vc P (cc F) H o.type (fun r H'=>jQ D P ops K rest (cA F o.dst r) H') o.op)/\(b=false->jQ D P ops K rest (cA F o.dst .any) H)
   |none=>False
section
variable {P:Program}{ops:Array Oper}
theorem wo{D:List Nat}{K:List AV->Hp->Prop}:∀(l:List Oper) (F:List AV) (H:Hp),jQ D P ops K l F H->uD P ops K l F H
 |[],F,H,h=>EW h
 |o::rest,F,H,h=>by
  refine Fk ?_;simp only[jQ]at h;split at h
  ·rename_i hg;exact(oP (K:=fun F' H'=>jQ D P ops K rest F' H') hg h).mono fun F' H' hk=>wo rest F' H' hk
  ·rename_i j want hg;split at h
   ·rename_i b hb;split at h
    ·rename_i hd;refine lZ.mono (K:=fun F' H'=>jQ D P ops K rest F' H') ?_ fun F' H' hk=>wo rest F' H' hk
     obtain⟨dst,op,ty,pos,after,guard⟩:=o;have hc:k9 op=true:=by simp only[Bool.and_eq_true]at hd;exact hd.2
     cases op<;>first|(cases hc;done)|skip
     rename_i c;obtain⟨callee,args,ts⟩:=c;cases callee<;>first|(cases hc;done)|skip
     rename_i f;refine qe hg hb (fun hbw w tm Q next h1 h2 hn=>?_) (fun hbw=>⟨.gd false (.raw (.bool false)),sU rfl,h.2 hbw⟩);obtain⟨ok,hcall⟩:=h.1 hbw;have hcg:=sN ok;have e1:mA F f=bS F f:=hcg f (by simp[Op.operands,Call.operands]);have e2:args.toList.map (mA F)=args.toList.map (bS F):=List.map_congr_left fun x hx=>hcg x (by simp[Op.operands,Call.operands]at hx ⊢;exact .inr hx)
     refine wi (ev:=mA F) e1 e2 hcall h1 (uJ h2) fun v r' w' H' hR g1 g2 g3=>?_
     rw[Act.put_eq];exact hn _ w' _ H' hR g1 ((h2.ext g3).put dst g2 []) g3
    split at h
    ·refine lZ.mono (K:=fun F' H'=>jQ D P ops K rest F' H') ?_ fun F' H' hk=>wo rest F' H' hk
     obtain⟨dst,op,ty,pos,after,guard⟩:=o;unfold eQ at h;split at h
     ·rename_i f args argTypes heq;cases heq;obtain⟨r,hc,hk⟩:=h;refine qe hg hb (fun hbw w tm Q next h1 h2 hn=>?_) (fun hbw=>⟨_,sU hbw,hk⟩);obtain⟨ok,hcall⟩:=hc hbw;have hcg:=sN ok;have e1:mA F f=bS F f:=hcg f (by simp[Op.operands,Call.operands]);have e2:args.toList.map (mA F)=args.toList.map (bS F):=List.map_congr_left fun x hx=>hcg x (by simp[Op.operands,Call.operands]at hx ⊢;exact .inr hx)
      refine wi (ev:=mA F) e1 e2 hcall h1 (uJ h2) fun v r' w' H' hR g1 g2 g3=>?_
      obtain⟨rfl,rfl⟩:=hR;rw[Act.put_eq];exact hn _ w' _ H' hk g1 ((h2.ext g3).put dst (uE hbw g2) []) g3
     ·rename_i c x y heq;simp only at heq;subst heq;obtain⟨hs,hk⟩:=h;refine qe hg hb (fun hbw w tm Q next h1 h2 hn=>?_) (fun hbw=>⟨_,sU hbw,hk⟩);obtain⟨ok,hq⟩:=hs hbw;obtain⟨v,hrun,hv⟩:=G3 (P:=P) (ρ:=(Act.mk tm []).eval) (dst:=dst) (ty:=ty) (pos:=pos) (after:=after) (guard:=guard) (Bw h2 c ok) (h2.eval [] x) (h2.eval [] y) hq;simp only[Oper.wp,hrun,Oper.upon];rw[Act.put_eq];exact hn _ w _ H hk h1 (h2.put dst (uE hbw hv) []) (Ext.refl w H)
     ·split at h
      ·obtain⟨hs,hk⟩:=h;refine qe hg hb (fun hbw w tm Q next h1 h2 hn=>?_) (fun hbw=>⟨_,sU hbw,hk⟩);obtain⟨ok,hq⟩:=hs hbw;rw[<-tv _ (sN ok)]at hq;obtain⟨v,hrun,hv⟩:=zk (ρ:=(Act.mk tm []).eval) ⟨dst,op,ty,pos,after,guard⟩ h1 (uJ h2) hq;simp only[Oper.wp,hrun,Oper.upon];rw[Act.put_eq];rw[tv _ (sN ok)]at hv;exact hn _ w _ H hk h1 (h2.put dst (uE hbw hv) []) (Ext.refl w H)
      ·exact h.elim
    ·refine lZ.mono (K:=fun F' H'=>jQ D P ops K rest F' H') ?_ fun F' H' hk=>wo rest F' H' hk
     refine qe hg hb (fun hbw w tm Q next h1 h2 hn=>?_) (fun hbw=>⟨_,fun w=>.any _,h.2 hbw⟩);exact BG (h.1 hbw) h1 h2 (fun x=>h2.eval [] x) hn
   ·exact h.elim
end
section
variable {D:List Nat}{P:Program}{ops:Array Oper}{K:List AV->Hp->Prop}
@[go_sem] theorem j4C(F:List AV)(H:Hp):jQ D P ops K [] F H=K F H:=(rfl)
@[go_sem] theorem j22(dst:Option Tmp)(op:Op)(ty:TypeId)(pos:String)(after:Array Edge)(rest:List Oper)(F:List AV)(H:Hp) :
  jQ D P ops K (⟨dst,op,ty,pos,after,none⟩::rest) F H=vc P (cc F) H ty (AP (fun r H'=>jQ D P ops K rest (cA F dst r) H') .mk) op:=(rfl)
def Az(P:Program)(F:List AV)(H:Hp)(K:AV->Hp->Prop):Op->Prop
 |.call { callee:=.value f,args,.. }=>((lR (cc F f)).1=true/\rK F args.toList)/\fI P (bS F f) (args.toList.map (bS F)) H K
 |_=>False
@[go_sem] theorem j2W{F:List AV}{H:Hp}{K:AV->Hp->Prop}(f:Operand)(as:Array Operand)(ts:Array TypeId):Az P F H K (.call ⟨.value f,as,ts⟩)=(((lR (cc F f)).1=true/\rK F as.toList)/\fI P (bS F f) (as.toList.map (bS F)) H K):=(rfl)
theorem M0{F:List AV}{H:Hp}{K:AV->Hp->Prop}{op:Op}(h:k9 op=true):(gv F op=true/\Iy P (bS F) H K op)=Az P F H K op:=by
 cases op<;>first|(cases h;done)|skip
 rename_i c;obtain⟨callee,args,ts⟩:=c;cases callee<;>first|(cases h;done)|skip
 rename_i f;rw[LQ];rfl
@[go_sem] theorem j0L(t:Nat)(op:Op)(ty:TypeId)(pos:String)(after:Array Edge)(j:Nat)(want:Bool)(rest:List Oper)(F:List AV)(H:Hp) :
  jQ D P ops K (⟨some t,op,ty,pos,after,some (j,want)⟩::rest) F H=tB (mq ops F j want) (fun b=>qb (D.contains t && k9 op)
   (tE b (Az P F H (AP (fun r H'=>jQ D P ops K rest (cA F (some t) r) H') .mk) op) (jQ D P ops K rest (cA F (some t) (.gd false (.raw (.bool false)))) H) .mk .mk)
   (qb (k9 op || iB op) (eQ P F H b (wB (fun r=>jQ D P ops K rest (cA F (some t) r) H) .mk) op)
    ((b=true->vc P (cc F) H ty (AP (fun r H'=>jQ D P ops K rest (cA F (some t) r) H') .mk) op)/\(b=false->jQ D P ops K rest (cA F (some t) .any) H)) .mk .mk) .mk .mk) .mk:=by
 conv=>lhs;unfold jQ
 simp only;unfold tB qb tE DN;cases mq ops F j want with
 |none=>rfl
 |some b=>
  simp only;by_cases hc:(D.contains t && k9 op)=true
  ·rw[if_pos hc,if_pos hc];have hv:k9 op=true:=by simp only[Bool.and_eq_true]at hc;exact hc.2
   rw[<-M0 hv];rfl
  ·rw[if_neg hc,if_neg hc];rfl
end
theorem sS{P:Program}{id:Nat}{l:List Oper}{Q:Exit->List AV->Hp->Prop}{F:List AV}{H:Hp}(D:List Nat)(h:q)(e:jQ D P l.toArray (Q .normal) l F H=q:=by exact eJ):dH P (.region id l.toArray false) Q F H:=
 Dx (by simpa using wo l F H (e ▸ h))
theorem uf{b:Bool}{X Y X' Y' pt pf:Prop}{d:gb X}{d':gb Y}(ht:pt->X')(hf:pf->Y')
 (et:(b=true)=pt:=by first|(simp only[Int.reduceEq,Int.reduceLE,Int.reduceLT,Int.reduceNe,false_and,and_false,true_and,and_true,or_false,false_or,true_or,or_true,Bool.false_eq_true,Bool.true_eq_false,eq_self,reduceCtorEq,Bool.not_true,Bool.not_false,Bool.and_eq_true,Bool.or_eq_true,Bool.and_eq_false_iff,Bool.or_eq_false_iff,decide_eq_true_eq,decide_eq_false_iff_not,Bool.not_eq_true',Bool.not_eq_false',Int.not_lt,Int.not_le];rfl)|rfl) (ef:(b=false)=pf:=by first|(simp only[Int.reduceEq,Int.reduceLE,Int.reduceLT,Int.reduceNe,false_and,and_false,true_and,and_true,or_false,false_or,true_or,or_true,Bool.false_eq_true,Bool.true_eq_false,eq_self,reduceCtorEq,Bool.not_true,Bool.not_false,Bool.and_eq_true,Bool.or_eq_true,Bool.and_eq_false_iff,Bool.or_eq_false_iff,decide_eq_true_eq,decide_eq_false_iff_not,Bool.not_eq_true',Bool.not_eq_false',Int.not_lt,Int.not_le];rfl)|rfl) (eX:X=X':=by exact eJ) (eY:Y=Y':=by exact eJ):tE b X Y d d':=⟨fun h=>eX ▸ ht (et ▸ h),fun h=>eY ▸ hf (ef ▸ h)⟩
variable {P:Program}{H:Hp}
theorem I2{e:TypeId}{sz d:Nat}{x:AV}{c:Prop}{css ys:List (List AV)}(k:q)(hd:H.get d=some (.aL e sz css):=by(simp(disch:=first|omega|assumption|fail) only[go_sem,rN,↓reduceIte,Int.reduceEq,Int.reduceLE,Int.reduceLT,Int.reduceNe,Int.reduceToNat,Nat.reduceMul,Nat.reduceAdd,Nat.reduceLeDiff,Nat.reduceSub,Nat.reduceEqDiff,Nat.reduceBEq,List.nodup_cons,List.nodup_nil,List.mem_cons,List.not_mem_nil,List.mem_nil_iff];first|rfl|exact⟨rfl,rfl⟩|exact⟨rfl,rfl,rfl⟩))(ht:iH P t=some e:=by first|(simp only[go_sem];done)|(simp only[go_sem];rfl))(hse:dc P e=some sz:=by(simp only[go_sem];done))(hze:eT P e=some zs:=by first|(simp only[go_sem];done)|(simp only[go_sem];rfl))(hzl:zs.length=sz:=by rfl)(h0:0<sz:=by decide)(hn:css.length=n:=by first|rfl|exact List.length_replicate|exact dj)(hsrc:tj H x=some (c,ys):=by rfl)(hc:c:=by trivial)(hg:lA sz ys:=by exact dj)(hle':ys.length<=n:=by first|assumption|(simp only[List.length_map];omega)|exact dj)
  (he:K (.raw (.int .i64 (ys.length:Nat))) (H.put d (.aL e sz (iD css 0 ys)))=q:=by exact eJ):sy P .copy [t,t] [.rs d n sz n,x] H K:=by
 subst hn;have hk:=he ▸ k;intro w vs ty cs hw hr;obtain⟨vd,vx,rfl⟩:∃vd vx,vs=[vd,vx]:=by
  have:=hr.1;match vs,this with
  |[vd,vx],_=>exact⟨vd,vx,rfl⟩
 have hu:=Ak ht;obtain⟨i,z,hi,hisz,hiz,hzs,hby⟩:=Ca hse hze hzl;obtain⟨A',cx,news,rfl,hnews,haddr⟩:=FF hw (hr.2 1 _ vx rfl rfl) hsrc hc hg;have hra:aw w (.rs d css.length sz css.length) vd:=hr.2 0 _ vd rfl rfl;have hfl:ys.flatten.length=ys.length*sz:=kK fun y hy=>(hg y hy).1
 have hnl:news.length=ys.length*sz:=by rw[<-hnews.1,hfl]
 have hones:da ys.flatten=true:=by simp only[da,List.all_eq_true];intro u hu';obtain⟨y,hy,huy⟩:=List.mem_flatten.1 hu';have:=(hg y hy).2;simp only[da,List.all_eq_true]at this;exact this u huy
 have hf:(Builtin.firstCells i.size ys.length (.slice A' ys.length cx)).run P w.toWorld=.ok news.toArray w.toWorld:=by
  by_cases h0:ys.length=0
  ·have:news=[]:=by have:=hnl;rw[h0,Nat.zero_mul]at this;simpa using this
   subst this;rw[h0];cases A'<;>simp[Builtin.firstCells,loadCells,loadCellsFrom]
  ·obtain⟨ad,rfl,hcell⟩:=haddr jB;exact run_firstCells_some (P:=P) w.toWorld i.size ys.length ad ys.length cx news (by rw[hisz];exact hnl) hcell
 rw[hisz]at hf;have hok:=(hw.rows d _ hd).1;have hlen':∀cs∈iD css 0 ys,cs.length=sz:=fun cs h=>by
  unfold iD at h;rcases List.mem_append.1 h with h|h
  ·rcases List.mem_append.1 h with h|h
   ·exact hok.2 _ (List.mem_of_mem_take h)
   ·exact(hg cs h).1
  ·exact hok.2 _ (List.mem_of_mem_drop h)
 have hcfl:=kK hok.2;have hl2:=Gv (css:=css) ys (Nat.zero_le _);have hmn:Nat.min ys.length css.length=ys.length:=Nat.min_eq_left hle';generalize hN:css.length=N at hra;cases hra with
 |iO _ _ _ A hnm=>
  have hy0:ys=[]:=List.length_eq_zero_iff.1 jB;subst hy0;refine⟨w,_,_,.int .i64 0,?_,hk,?_,.raw _,?_⟩
  ·have hnn:news=[]:=by simpa using hnl
   subst hnn;have hN':Nat.min ([]:List (List AV)).length 0=0:=rfl;have hf:(Builtin.firstCells sz 0 (.slice A' 0 cx)).run P w.toWorld=.ok #[] w.toWorld:=hf;cases A<;>simp[builtin,Builtin.copy_,run_underlying hu,Builtin.lenOf,sizeOf,typeInfo,hi,hisz,hf,storeCells,goInt]
  ·refine{ hw with rows:=fun j r hj=>?_,dO:=fun j q z hz=>?_ }
   ·rw[Hp.ba]at hj;split at hj
    ·rename_i e;subst e;exact hw.rows j r (by rw[hd];exact hj)
    ·exact hw.rows j r hj
   ·rw[Hp.ba];split
    ·rename_i e;subst e;obtain⟨r,g1,g2⟩:=hw.dO j q z hz;rw[hd]at g1;cases g1;exact⟨_,rfl,g2⟩
    ·exact hw.dO j q z hz
  ·exact{ Ext.refl w H with base:=rfl }
 |rs _ _ _ _ b t' cap hnm hct hle hs0=>
  subst hN;obtain⟨_,z',hz',hrow⟩:=hw.rows d _ hd;have:z'=.at b t' sz:=by have hz':w.nm d css.length=some z':=hz';rw[hnm]at hz';cases hz';rfl
  subst this;obtain⟨_,cur,hh,⟨hcs,hcl⟩,hcr⟩:=hrow;have hcl:css.flatten.length<=t':=hcl;have hcap:css.length<=cap:=by rw[hcfl,<-hct]at hcl;exact Nat.le_of_mul_le_mul_right hcl h0
  have hfit':0+ys.flatten.length<=t':=by rw[hfl,Nat.zero_add,<-hct];exact Nat.mul_le_mul_right _ (Nat.le_trans hle' hcap)
  obtain⟨w',hrun,g1,g2,g3⟩:=wm (P:=P) (off:=0) (r':=.aL e sz (iD css 0 ys)) hw hd hnm hnews hones hfit' rfl rfl rfl rfl (by show css.length<=(iD css 0 ys).length;rw[hl2];omega) ⟨h0,hlen'⟩ (by show(iD css 0 ys).flatten.length<=t';rw[kK hlen',hl2,<-hct];exact Nat.mul_le_mul_right _ (Nat.max_le.2 ⟨hcap,jB⟩)) (fun p u hp=>by
   have hp:(iD css 0 ys).flatten[p]?=some u:=hp;unfold iD at hp;rw[List.flatten_append,List.flatten_append]at hp;show if _ then _ else css.flatten[p]?=some u
   simp only[List.take_zero,List.flatten_nil,List.nil_append,Nat.zero_add]at hp;rcases Nat.lt_or_ge p (0+ys.flatten.length)with h'|h'
   ·rw[if_pos ⟨Nat.zero_le _,h'⟩];rw[List.getElem?_append_left jB]at hp;exact hp
   ·rw[jN];rw[List.getElem?_append_right jB]at hp;have e2:css.flatten=(css.take ys.length).flatten++(css.drop ys.length).flatten:=by rw[<-List.flatten_append,List.take_append_drop]
    have e3:(css.take ys.length).flatten.length=ys.flatten.length:=by rw[kK fun c hc=>hok.2 c (List.mem_of_mem_take hc),List.length_take,Nat.min_eq_left hle',hfl]
    rw[e2,List.getElem?_append_right jB,e3];exact hp)
  refine⟨w',_,_,.int .i64 ys.length,?_,hk,g1,.raw _,g2⟩;simp[builtin,Builtin.copy_,run_underlying hu,Builtin.lenOf,sizeOf,typeInfo,hi,hisz,hmn,hf,hrun,goInt]
mutual
def AV.bU(f:Nat->Nat):AV->AV
 |.raw v=>.raw v
 |.any=>.any
 |.agg cs=>.agg (fc f cs)
 |.bj cs=>.bj (fc f cs)
 |.sl x sz css d=>.sl x sz css d
 |.ip cs=>.ip cs
 |.gd p v=>.gd p (v.bU f)
 |.fQ g cs=>.fQ g (fc f cs)
 |.pt i m k j=>.pt (f i) m k j
 |.rs i m sz n=>.rs (f i) m sz n
 |.rv i m sz o n=>.rv (f i) m sz o n
 |.mr i=>.mr (f i)
 |.bd g fs=>.bd g (fc f fs)
 |.kH t v=>.kH t (v.bU f)
def fc(f:Nat->Nat):List AV->List AV
 |[]=>[]
 |a::l=>a.bU f::fc f l
end
theorem o5(f:Nat->Nat):∀(l:List AV) (i:Nat),(fc f l)[i]?=(l[i]?).map (AV.bU f)
 |[],i=>by simp[fc]
 |a::l,0=>by simp[fc]
 |a::l,i+1=>by simp only[fc,List.getElem?_cons_succ];exact o5 f l i
theorem l9(f:Nat->Nat):∀l:List AV,(fc f l).length=l.length
 |[]=>rfl
 |a::l=>by simp only[fc,List.length_cons,l9 f l]
theorem HR(f:Nat->Nat):∀l m:List AV,fc f (l++m)=fc f l++fc f m
 |[],m=>rfl
 |a::l,m=>by simp only[List.cons_append,fc,HR f l m]
def Row.bU(f:Nat->Nat):Row->Row
 |.var t cs=>.var t (fc f cs)
 |.aL e sz css=>.aL e sz (css.map (fc f))
 |.mp ks vs=>.mp ks (fc f vs)
theorem Row.jm(f:Nat->Nat)(r:Row):(r.bU f).fP=r.fP:=by cases r<;>simp[Row.bU,Row.fP]
theorem Row.jW(f:Nat->Nat)(r:Row):(r.bU f).bA=r.bA:=by cases r<;>rfl
theorem Row.gD(f:Nat->Nat)(r:Row):(r.bU f).cells=fc f r.cells:=by
 cases r with
 |var t cs=>rfl
 |aL e sz css=>
  show(css.map (fc f)).flatten=fc f css.flatten;induction css with
  |nil=>rfl
  |cons c css ih=>simp only[List.map_cons,List.flatten_cons,ih,HR]
 |mp ks vs=>rfl
theorem Row.nD(f:Nat->Nat)(r:Row)(cur:Array Value):(r.bU f).obj cur=r.obj cur:=by cases r<;>rfl
theorem Row.np(f:Nat->Nat)(r:Row)(n t:Nat):(r.bU f).fit n t=r.fit n t:=by
 have h:=r.gD f;cases r with
 |var ty cs=> show(n=t/\(Row.var ty (fc f cs)).cells.length<=t)=_;have h:(Row.var ty (fc f cs)).cells=fc f (Row.var ty cs).cells:=h;rw[h,l9];rfl
 |aL e sz css=> show(n=t/\(Row.aL e sz (css.map (fc f))).cells.length<=t)=_;have h:(Row.aL e sz (css.map (fc f))).cells=fc f (Row.aL e sz css).cells:=h;rw[h,l9];rfl
 |mp ks vs=>show(n=(fc f vs).length)=_;rw[l9];rfl
variable{f:Nat->Nat}{r:Row}
theorem Row.td(h:r.ok):(r.bU f).ok:=by
 cases r with
 |var t cs=>trivial
 |aL e sz css=> refine⟨h.1,fun cs hcs=>?_⟩;obtain⟨c,hc,rfl⟩:=List.mem_map.1 hcs;rw[l9];exact h.2 c hc
 |mp ks vs=>show ks.length=(fc f vs).length;rw[l9];exact h
def lg(f:Nat->Nat)(l:List (Nat×Row)):List (Nat×Row):=l.map fun x=>(f x.1,x.2.bU f)
theorem yL(f:Nat->Nat)(l:List (Nat×Row)):ids (lg f l)=(ids l).map f:=by unfold ids lg;simp[List.map_map,Function.comp_def]
theorem yI{f g:Nat->Nat}(hf:∀i,g (f i)=i):∀(l:List (Nat×Row)) (i:Nat),av (lg f l) (f i)=(av l i).map (Row.bU f)
 |[],i=>rfl
 |(j,r)::l,i=>by
  show(if f i=f j then some (r.bU f)else av (lg f l) (f i))=((if i=j then some r else av l i):Option Row).map _;by_cases h:i=j
  ·subst h;rw[if_pos rfl,if_pos rfl];rfl
  ·rw[if_neg h,if_neg (fun e=>h (by rw[<-hf i,<-hf j,e])),yI hf l i]
theorem wE{g:Nat->Nat}(hf:∀i,g (f i)=i){l:List (Nat×Row)}{j:Nat}(h:av (lg f l) j=some r):∃i r0,j=f i/\r=r0.bU f/\av l i=some r0:=by
 induction l with
 |nil=>cases h
 |cons x l ih=>
  obtain⟨k,s⟩:=x;have h:(if j=f k then some (s.bU f)else av (lg f l) j)=some r:=h;by_cases e:j=f k
  ·rw[if_pos e]at h;cases h;exact⟨k,s,e,rfl,by simp[av]⟩
  ·rw[if_neg e]at h;obtain⟨i,r0,h1,h2,h3⟩:=ih h;refine⟨i,r0,h1,h2,?_⟩;show(if i=k then some s else av l i)=_;rw[if_neg (fun e'=>e (by rw[h1,e']))];exact h3
@[reducible] def NW.pull(f:Nat->Nat)(w:NW):NW:={ w with nm:=fun i m=>w.nm (f i) m }
@[reducible] def NW.push(f g:Nat->Nat)(w:NW):NW:={ w with nm:=fun j m=>if f (g j)=j then w.nm (g j) m else none }
theorem NW.oc{g:Nat->Nat}(hf:∀i,g (f i)=i)(w:NW):(w.push f g).pull f=w:=by
 obtain⟨W,O,nm⟩:=w;show NW.mk W O _=NW.mk W O nm;congr 1
 funext i m
 show(if f (g (f i))=f i then nm (g (f i)) m else none)=nm i m;rw[hf,if_pos rfl]
theorem De{a:AV}{v:Value}{w0:NW}(h:aw w0 a v):∀w:NW,w0=w.pull f->aw w (a.bU f) v:=by
 induction h with
 |raw v=>intro w e;simp only[AV.bU];exact .raw v
 |any v=>intro w e;simp only[AV.bU];exact .any v
 |agg cs vs hl _ ih=>
  intro w e;simp only[AV.bU];refine .agg _ vs (by rw[l9];exact hl) fun i a v h1 h2=>?_
  rw[o5]at h1;cases hc:cs[i]? with
  |none=>rw[hc]at h1;cases h1
  |some b=>rw[hc]at h1;cases h1;exact ih i b v hc h2 w e
 |bj cs vs hl _ ih=>
  intro w e;simp only[AV.bU];refine .bj _ vs (by rw[l9];exact hl) fun i a v h1 h2=>?_
  rw[o5]at h1;cases hc:cs[i]? with
  |none=>rw[hc]at h1;cases h1
  |some b=>rw[hc]at h1;cases h1;exact ih i b v hc h2 w e
 |gm x sz A c hx=>intro w e;simp only[AV.bU];exact .gm x sz A c hx
 |sl x sz css a c vs hn hc hx hsz hb hH hcell hin _=>intro w e;subst e;simp only[AV.bU];exact .sl x sz css a c vs hn hc hx hsz hb hH hcell hin
 |ip cs a vs hb hH hcell hin _=>intro w e;subst e;simp only[AV.bU];exact .ip cs a vs hb hH hcell hin
 |gd p a v _ hu ih=>intro w e;simp only[AV.bU];exact .gd p _ v (fun hp=>ih hp w e) hu
 |fQ g cs vs hl _ ih=>
  intro w e;simp only[AV.bU];refine .fQ g _ vs (by rw[l9];exact hl) fun i a v h1 h2=>?_
  rw[o5]at h1;cases hc:cs[i]? with
  |none=>rw[hc]at h1;cases h1
  |some b=>rw[hc]at h1;cases h1;exact ih i b v hc h2 w e
 |pt i m k j b t s h=>intro w e;subst e;simp only[AV.bU];exact .pt (f i) m k j b t s h
 |iO i m sz A h=>intro w e;subst e;simp only[AV.bU];exact .iO (f i) m sz A h
 |rs i m sz n b t c h hc hn hs=>intro w e;subst e;simp only[AV.bU];exact .rs (f i) m sz n b t c h hc hn hs
 |lu i m sz o c A=>intro w e;simp only[AV.bU];exact .lu (f i) m sz o c A
 |rv i m sz o n b t c h hn=>intro w e;subst e;simp only[AV.bU];exact .rv (f i) m sz o n b t c h hn
 |mr i b t s h=>intro w e;subst e;simp only[AV.bU];exact .mr (f i) b t s h
 |bd g fs vs hl _ ih=>
  intro w e;simp only[AV.bU];refine .bd g _ vs (by rw[l9];exact hl) fun i a v h1 h2=>?_
  rw[o5]at h1;cases hc:fs[i]? with
  |none=>rw[hc]at h1;cases h1
  |some b=>rw[hc]at h1;cases h1;exact ih i b v hc h2 w e
 |kH t a v _ ih=>intro w e;simp only[AV.bU];exact .kH t _ v (ih w e)
mutual
theorem xC{f:Nat->Nat}{w:NW}:∀(a:AV) (v:Value),aw w (a.bU f) v->aw (w.pull f) a v
 |.raw x,v,h=>by simp only[AV.bU]at h;cases h;exact .raw _
 |.any,v,h=>.any v
 |.agg cs,v,h=>by
  simp only[AV.bU]at h;cases h with
  |agg _ vs hl hh=>exact .agg cs vs (by rw[l9]at hl;exact hl) fun i a u h1 h2=>wz cs i a h1 u (hh i _ u (by rw[o5,h1];rfl) h2)
 |.bj cs,v,h=>by
  simp only[AV.bU]at h;cases h with
  |bj _ vs hl hh=>exact .bj cs vs (by rw[l9]at hl;exact hl) fun i a u h1 h2=>wz cs i a h1 u (hh i _ u (by rw[o5,h1];rfl) h2)
 |.sl x sz css d,v,h=>by
  simp only[AV.bU]at h;cases h with
  |gm _ _ A c hx=>exact .gm x sz A c hx
  |sl _ _ _ a c vs hn hc hx hsz hb hH hcell hin=>exact .sl x sz css a c vs hn hc hx hsz hb hH hcell hin
 |.ip cs,v,h=>by
  simp only[AV.bU]at h;cases h with
  |ip _ a vs hb hH hcell hin=>exact .ip cs a vs hb hH hcell hin
 |.gd p x,v,h=>by
  simp only[AV.bU]at h;cases h with
  |gd _ _ _ h1 hu=>exact .gd p x v (fun hp=>xC x v (h1 hp)) hu
 |.fQ g cs,v,h=>by
  simp only[AV.bU]at h;cases h with
  |fQ _ _ vs hl hh=>exact .fQ g cs vs (by rw[l9]at hl;exact hl) fun i a u h1 h2=>wz cs i a h1 u (hh i _ u (by rw[o5,h1];rfl) h2)
 |.pt i m k j,v,h=>by
  simp only[AV.bU]at h;cases h with
  |pt _ _ _ _ b t s hn=>exact .pt i m k j b t s hn
 |.rs i m sz n,v,h=>by
  simp only[AV.bU]at h;cases h with
  |iO _ _ _ A hn=>exact .iO i m sz A hn
  |rs _ _ _ _ b t c hn h1 h2 h3=>exact .rs i m sz n b t c hn h1 h2 h3
 |.rv i m sz o n,v,h=>by
  simp only[AV.bU]at h;cases h with
  |lu _ _ _ _ c A=>exact .lu i m sz o c A
  |rv _ _ _ _ _ b t c hn h1=>exact .rv i m sz o n b t c hn h1
 |.mr i,v,h=>by
  simp only[AV.bU]at h;cases h with
  |mr _ b t s hn=>exact .mr i b t s hn
 |.bd g fs,v,h=>by
  simp only[AV.bU]at h;cases h with
  |bd _ _ vs hl hh=>exact .bd g fs vs (by rw[l9]at hl;exact hl) fun i a u h1 h2=>wz fs i a h1 u (hh i _ u (by rw[o5,h1];rfl) h2)
 |.kH t x,v,h=>by
  simp only[AV.bU]at h;cases h with
  |kH _ _ u h1=>exact .kH t x u (xC x u h1)
theorem wz{f:Nat->Nat}{w:NW}:∀(l:List AV) (i:Nat) (a:AV),l[i]?=some a->∀v,aw w (a.bU f) v->aw (w.pull f) a v
 |[],i,a,h,v,hv=>by simp at h
 |x::l,0,a,h,v,hv=>by
  have e:x=a:=by simpa using h
  rw[<-e]at hv ⊢;exact xC x v hv
 |x::l,i+1,a,h,v,hv=>wz l i a (by simpa using h) v hv
end
theorem Mh{w:NW}{z:Rz}(h:iU (w.pull f) r z):iU w (r.bU f) z:=by
 cases z with
 |nil=> obtain⟨e,sz,rfl⟩:=h;exact⟨e,sz,rfl⟩
 |«at» b t s=>
  obtain⟨h1,cur,h2,h3,h4⟩:=h;refine⟨h1.trans (r.jW f).symm,cur,by rw[Row.nD];exact h2,by rw[Row.np];exact h3,fun i a v h5 h6=>?_⟩;rw[Row.gD,o5]at h5;cases hc:r.cells[i]? with
  |none=>rw[hc]at h5;cases h5
  |some c=>rw[hc]at h5;cases h5;exact De (h4 i c v hc h6) w rfl
theorem LB{w:NW}{z:Rz}(h:iU w (r.bU f) z):iU (w.pull f) r z:=by
 cases z with
 |nil=>
  obtain⟨e,sz,h⟩:=h;cases r with
  |var t cs=>cases h
  |aL e' sz' css=>
   have h:Row.aL e' sz' (css.map (fc f))=Row.aL e sz []:=h;cases css with
   |nil=>exact⟨e',sz',rfl⟩
   |cons c css=>cases h
  |mp ks vs=>cases h
 |«at» b t s=> obtain⟨h1,cur,h2,h3,h4⟩:=h;rw[Row.nD]at h2;rw[Row.np]at h3;refine⟨h1.trans (r.jW f),cur,h2,h3,fun i a v h5 h6=>?_⟩;exact xC a v (h4 i (a.bU f) v (by rw[Row.gD,o5,h5];rfl) h6)
theorem aj.bU{P:Program}{fn:FuncId}{args:List AV}{l:List (Nat×Row)}{R:AV->List (Nat×Row)->Prop}{f g:Nat->Nat}(hf:∀i,g (f i)=i)(hc:aj P fn args l R) :
  aj P fn (fc f args) (lg f l) fun r l'=>∃r0 l0,r=AV.bU f r0/\l'=lg f l0/\R r0 l0:=fun w vs hw hv=>by
 have inj:∀{i j},f i=f j->i=j:=fun{i j} e=>by rw[<-hf i,<-hf j,e]
 have hW:aO (w.pull f) (entry l):={
  cn:=hw.cn
  rows:=fun i r hi=>by
   have hi:av l i=some r:=hi;obtain⟨h1,z,h2,h3⟩:=hw.rows (f i) (r.bU f) (by show av (lg f l) (f i)=_;rw[yI hf,hi];rfl);refine⟨?_,z,by rw[Row.jm]at h2;exact h2,LB h3⟩;cases r with
   |var t cs=>trivial
   |aL e sz css=>exact⟨h1.1,fun cs hcs=>by have:=h1.2 (fc f cs) (List.mem_map_of_mem hcs);rw[l9]at this;exact this⟩
   |mp ks vs=>have h1:ks.length=(fc f vs).length:=h1;rw[l9]at h1;exact h1
  dO:=fun i m z h=>by obtain⟨r,h1,h2⟩:=hw.dO (f i) m z h;obtain⟨i',r0,e1,rfl,e3⟩:=wE hf h1;cases inj e1;exact⟨r0,e3,by rw[Row.jm]at h2;exact h2⟩
  inj:=fun i m j n b t s t' s' h1 h2=>inj (hw.inj _ _ _ _ _ _ _ _ _ h1 h2)
  own:=fun i m b t s h=>hw.own _ _ _ _ _ h
  fin:=hw.fin }
 have hV:bc (w.pull f) args vs:=⟨by have:=hv.1;rw[l9]at this;exact this,fun i a v h1 h2=>xC a v (hv.2 i _ v (by rw[o5,h1];rfl) h2)⟩;refine(hc (w.pull f) vs hW hV).mono ?_;rintro e W ⟨v,r,H',w',rfl,rfl,hR,h1,h2,h3⟩;have hp:=NW.oc hf w';refine⟨v,r.bU f,⟨H'.B.map f,lg f H'.l⟩,w'.push f g,rfl,rfl,⟨r,H'.l,rfl,rfl,hR⟩,?_,?_,?_⟩
 ·exact{
   cn:=h1.cn
   rows:=fun j r hj=>by obtain⟨i,r0,rfl,rfl,e3⟩:=wE hf hj;obtain⟨k1,z,k2,k3⟩:=h1.rows i r0 e3;refine⟨Row.td k1,z,?_,Mh (w:=w'.push f g) (by rw[hp];exact k3)⟩;show(if f (g (f i))=f i then w'.nm (g (f i)) (r0.bU f).fP else none)=some z;rw[hf,if_pos rfl,Row.jm];exact k2
   dO:=fun j m z h=>by
    have h:(if f (g j)=j then w'.nm (g j) m else none)=some z:=h;split at h
    ·rename_i e;obtain⟨r0,k1,k2⟩:=h1.dO _ _ _ h;refine⟨r0.bU f,?_,by rw[Row.jm];exact k2⟩;show av (lg f H'.l) j=_;rw[<-e,yI hf];have k1:av H'.l (g j)=some r0:=k1;rw[k1];rfl
    ·cases h
   inj:=fun i m j n b t s t' s' k1 k2=>by
    have k1:(if f (g i)=i then w'.nm (g i) m else none)=some _:=k1;have k2:(if f (g j)=j then w'.nm (g j) n else none)=some _:=k2;split at k1
    ·rename_i e1;split at k2
     ·rename_i e2;have:=h1.inj _ _ _ _ _ _ _ _ _ k1 k2;rw[<-e1,<-e2,this]
     ·cases k2
    ·cases k1
   own:=fun i m b t s k=>by
    have k:(if f (g i)=i then w'.nm (g i) m else none)=some _:=k;split at k
    ·exact h1.own _ _ _ _ _ k
    ·cases k
   fin:=h1.fin }
 ·exact De (w0:=w') h2 (w'.push f g) hp.symm
 ·exact{
   size:=h3.size
   free:=h3.free
   names:=fun j m z hj hz=>by have hj:(ids (lg f l)).contains j=true:=hj;rw[yL]at hj;obtain⟨i,hi,rfl⟩:=List.mem_map.1 (List.contains_iff_mem.1 hj);have:=h3.names i m z (List.contains_iff_mem.2 hi) hz;show(if f (g (f i))=f i then w'.nm (g (f i)) m else none)=some z;rw[hf,if_pos rfl];exact this
   os:=h3.os,tape:=h3.tape,output:=h3.output
   rest:=fun b hb hO hno=>by
    obtain⟨k1,k2,k3⟩:=h3.rest b hb hO fun i m t s=>hno (f i) m t s
    refine⟨k1,k2,fun j m t s h=>?_⟩;have h:(if f (g j)=j then w'.nm (g j) m else none)=some _:=h;split at h
    ·exact k3 _ _ _ _ h
    ·cases h
   base:=by show H'.B.map f=ids (lg f l);rw[yL];have:H'.B=ids l:=h3.base;rw[this] }
section
variable {P:Program}{f:FuncId}{args fs:List AV}{H:Hp}{K:AV->Hp->Prop}{q:Prop}
theorem bm{l l0:List (Nat×Row)}{r0:AV}(hc:aj P f (fs++args) l fun r l'=>r=r0/\l'=l0)(k:q)(h1:fits l H:=by exact dj)(h0:bz P f=true:=by exact dj)(h2:aW (fun i=>(ids l).contains i) (fs++args)=true:=by exact dj)(h3:sQ (fun i=>(ids l).contains i) l:=by exact dj)
 (h4:fresh (ids l) H l0:=by exact dj) (h5:(ids l0).Nodup:=by exact dj) (e:K r0 ⟨H.B,gZ H.l l0⟩=q:=by exact eJ):fI P (.bd f fs) args H K:=.inl ⟨h0,by have:=xD hc h1 h2 h3 h4 h5 (e ▸ k:K r0 ⟨H.B,gZ H.l l0⟩);simpa using this⟩
end
section
variable {P:Program}{H:Hp}
theorem zn(z:Value)(k:Nat):Builtin.zeroCells #[z] k=(List.replicate k z).toArray:=by
 apply Array.ext
 ·simp[Builtin.zeroCells]
 ·intro i h1 h2;simp[Builtin.zeroCells,Nat.mod_one]
theorem IL(w:NW)(z:Value):∀k,cf w (List.replicate k [AV.raw z]).flatten (List.replicate k z):=fun k=>by
 have:(List.replicate k [AV.raw z]).flatten=(List.replicate k z).map .raw:=by simp[List.flatten_replicate_singleton]
 rw[this];refine⟨jE,fun i a v ha hv=>?_⟩;rw[List.getElem?_map,hv]at ha;simp at ha;subst ha;exact .raw _
theorem QW{t t' e:TypeId}{d m n k:Nat}{z0:Value}{css:List (List AV)}{K:AV->Hp->Prop}(hu:P.underlying t=some (.slice e))(hu':∃d,P.underlying t'=some (.int d))(hsz:dc P e=some 1)(hz:eT P e=some [z0])(hz1:z0.oneCell'=true)
  (hd:H.get d=some (.aL e 1 css)) (hm:m=css.length) (hn:n=css.length) (hroom:room (ju P e) (css.length+k)) (hk:K (.rs d (css.length+k) 1 (css.length+k)) (H.put d (.aL e 1 (css++List.replicate k [.raw z0])))):pT P t t' (.rs d m 1 n) (.raw (.int .i64 k)) H K:=by
 subst hm hn;intro w va vx ty hw hra hrx;have:=dm hrx;subst this;obtain⟨dk,hdk⟩:=hu';obtain⟨i,z,hi,hisz,hiz,hzs,hby⟩:=Ca hsz hz rfl;obtain⟨hr1,hr2⟩:=hroom;rw[hby]at hr1;have hzc:z.cells=#[z0]:=by unfold eT at hz;rw[hi]at hz;simp only[Option.bind_some,hiz,Option.map_some,Option.some.injEq]at hz;rw[<-Array.toList_inj,hz]
 have hgc:∀need old,need<=grownCap w.toWorld need old e:=fun need old=>by unfold grownCap Question.cut;simp
 have hzcs:∀m,(Builtin.zeroCells z.cells m).size=m*1:=fun m=>by rw[hzc,zn];simp
 have hok:=(hw.rows d _ hd).1;have hlen':∀cs∈css++List.replicate k [AV.raw z0],cs.length=1:=fun cs h=>by
  rcases List.mem_append.1 h with h|h
  ·exact hok.2 cs h
  ·rw[List.eq_of_mem_replicate h];rfl
 have hnews:=IL w z0 k;have hwk:IntKind.i64.wrap (k:Int)=k:=by
  have:IntKind.i64.wrap (k:Int)=(k:Int):=by unfold IntKind.wrap;simp[IntKind.bits,IntKind.signed];omega
  exact this
 have hb1:¬(281474976710656<(k:Int)*i.bytes):=by have:k*i.bytes<=(css.length+k)*i.bytes:=Nat.mul_le_mul_right _ jB;have h2:((k*i.bytes:Nat):Int)<=140737488355328:=jB;rw[Int.natCast_mul]at h2;omega
 have hn3:¬((k:Int)<0):=jB;have hl2:(css++List.replicate k [AV.raw z0]).length=css.length+k:=jE;have hcfl:=kK hok.2;generalize hgl:css.length=l at*;cases hra with
 |iO _ _ _ A hnm=>
  obtain⟨_,z',hz',hrow⟩:=hw.rows d _ hd;have:z'=.nil:=by have hz':w.nm d css.length=some z':=hz';rw[hgl,hnm]at hz';cases hz';rfl
  subst this;obtain⟨e2,sz3,hrow⟩:=hrow;cases hrow;simp only[List.length_nil]at hgl;by_cases hk0:k=0
  ·subst hk0;refine⟨w,_,_,.slice A 0 0,?_,hk,?_,.iO _ _ _ _ hnm,?_⟩
   ·have hw0:IntKind.i64.wrap 0=0:=hwk;cases A<;>simp[Builtin.append_,run_underlying hu,run_underlying hdk,sizeOf,typeInfo,hi,asInt,asIntOf,hw0,storeCells]
   ·refine{ hw with rows:=fun j r hj=>?_,dO:=fun j q z hz=>?_ }
    ·rw[Hp.ba]at hj;split at hj
     ·rename_i e;subst e;exact hw.rows j r (by rw[hd];exact hj)
     ·exact hw.rows j r hj
    ·rw[Hp.ba];split
     ·rename_i e;subst e;obtain⟨r,g1,g2⟩:=hw.dO j q z hz;rw[hd]at g1;cases g1;exact⟨_,rfl,g2⟩
     ·exact hw.dO j q z hz
   ·exact{ Ext.refl w H with base:=rfl }
  ·simp only[List.nil_append,Nat.zero_add]at hk hlen' hl2 hr1 hr2;obtain⟨w',e1,g1,g2,g3⟩:=un (i:=d) (e:=e) (cap:=grownCap w.toWorld k 0 e) (css:=List.replicate k [AV.raw z0]) (rest:=Builtin.zeroCells z.cells (grownCap w.toWorld k 0 e-k)) hw jC hlen' hnews (by rw[hl2];exact hgc _ _) (by rw[hl2];exact hzcs _) (hw.later hd (by show([]:List (List AV)).length<_;rw[hl2];simp;omega)) (fun r hr=>by rw[hd]at hr;cases hr;exact Nat.zero_le _);rw[hl2]at g3;refine⟨w',_,_,_,?_,by simpa using hk,g1,by simpa using g3,g2⟩;rw[e1];have hn1:¬(k=0):=hk0;have hn2:¬(9223372036854775807<(k:Int)):=jB;have hb2:¬(281474976710656<Builtin.nextslicecap k 0*i.bytes):=by rw[nextslicecap_zero jB];omega
   cases A<;>simp[Builtin.append_,run_underlying hu,run_underlying hdk,sizeOf,typeInfo,zeroValue,hi,hiz,hisz,asInt,asIntOf,hwk,hb1,hb2,hn1,hn2,hn3,Question.forced,newRow,grownCap,Builtin.firstCells,loadCells,loadCellsFrom,hzc,zn]
 |rs _ _ _ _ b t' cap hnm hct hle hs0=>
  obtain⟨_,z',hz',hrow⟩:=hw.rows d _ hd;have:z'=.at b t' 1:=by have hz':w.nm d css.length=some z':=hz';rw[hgl,hnm]at hz';cases hz';rfl
  subst this;obtain⟨_,cur,hh,⟨hcs,hcl⟩,hcr⟩:=hrow;have hh:w.heap[b]?=some (.cells cur e (0,0)):=hh;have hcl:css.flatten.length<=t':=hcl;have hones:da (List.replicate k [AV.raw z0]).flatten=true:=by
   have:(List.replicate k [AV.raw z0]).flatten=(List.replicate k z0).map .raw:=by simp[List.flatten_replicate_singleton]
   rw[this];simp[da,AV.one,hz1]
  have hrl:(List.replicate k [AV.raw z0]).flatten.length=k:=jE;by_cases hfit:l+k<=cap
  ·obtain⟨w',hrun,g1,g2,g3⟩:=wm (P:=P) (off:=l) (r':=.aL e 1 (css++List.replicate k [.raw z0])) hw hd (by show w.nm d css.length=_;rw[hgl];exact hnm) hnews hones (by rw[hrl];omega) rfl rfl rfl rfl (by show css.length<=(css++_).length;simp) ⟨jC,hlen'⟩ (by show(css++List.replicate k [AV.raw z0]).flatten.length<=t';rw[kK hlen',hl2];omega) (fun p u hp=>by
     have hp:(css++List.replicate k [AV.raw z0]).flatten[p]?=some u:=hp;rw[List.flatten_append]at hp;show if _ then _ else css.flatten[p]?=some u
     rcases Nat.lt_or_ge p l with h|h
     ·rw[jN];rw[List.getElem?_append_left jB]at hp;exact hp
     ·rw[List.getElem?_append_right jB]at hp;have hlt:=(List.getElem?_eq_some_iff.1 hp).1;rw[if_pos ⟨h,jB⟩];rw[<-hp];congr 1;omega)
   refine⟨w',_,_,.slice (some ⟨b,0,none⟩) (l+k) cap,?_,hk,g1,?_,g2⟩
   ·have hadd:(⟨b,0,none⟩:Addr).add l=⟨b,l,none⟩:=by rw[lM];simp
    by_cases hk0:k=0
    ·subst hk0;have hw0:IntKind.i64.wrap 0=0:=hwk;have hrun0:(storeCells ⟨b,l,none⟩ []).run P w.toWorld=.ok () w'.toWorld:=hrun;have hle':l<=cap:=jB;simp[Builtin.append_,run_underlying hu,run_underlying hdk,sizeOf,typeInfo,hi,hisz,asInt,asIntOf,hw0,hle',hadd,hrun0]
    ·simp[Builtin.append_,run_underlying hu,run_underlying hdk,sizeOf,typeInfo,zeroValue,hi,hiz,hisz,asInt,asIntOf,hwk,hb1,hn3,hfit,hk0,hadd,hzc,zn,hrun]
   ·have g3:w'.nm d (css++List.replicate k [AV.raw z0]).length=some (.at b t' 1):=g3;rw[hl2]at g3;exact .rs d _ 1 _ b t' cap g3 hct hfit jC
  ·have hold:cf w css.flatten (cur.toList.take l):=by
    refine⟨by simp only[List.length_take,Array.length_toList];omega,fun j a v ha' hv=>?_⟩;rw[List.getElem?_take]at hv;split at hv
    ·exact hcr j a v ha' (by simpa using hv)
    ·cases hv
   have hall:=hold.append hnews;rw[<-List.flatten_append]at hall;obtain⟨w',e1,g1,g2,g3⟩:=un (i:=d) (e:=e) (cap:=grownCap w.toWorld (l+k) cap e) (css:=css++List.replicate k [AV.raw z0]) (rest:=Builtin.zeroCells z.cells (grownCap w.toWorld (l+k) cap e-(l+k))) hw jC hlen' hall (by rw[hl2];exact hgc _ _) (by rw[hl2];exact hzcs _) (hw.later hd (by show css.length<_;rw[hl2];omega)) (fun r hr=>by rw[hd]at hr;cases hr;show css.length<=_;rw[hl2];omega);rw[hl2]at g3;refine⟨w',_,_,_,?_,hk,g1,g3,g2⟩;rw[e1];have hfirst:(Builtin.firstCells 1 l (.slice (some ⟨b,0,none⟩) l cap)).run P w.drew=.ok (cur.toList.take l).toArray w.drew:=by
    refine run_firstCells_some (P:=P) w.drew 1 l ⟨b,0,none⟩ l cap _ (by simp only[List.length_take,Array.length_toList];omega) (fun j v h=>?_);rw[List.getElem?_take]at h;split at h
    ·rw[lM,tL (w:=w.drew) b _ cur e (0,0) hh,Nat.zero_add];simpa using h
    ·cases h
   have hn1:¬(l+k<=cap):=hfit;have hn2:¬(9223372036854775807<(l:Int)+(k:Int)):=jB;have hfits:=growslice_fits (bytes:=i.bytes) (old:=cap) (show cap<l+k from jB) hr1;have hb2:¬(281474976710656<Builtin.nextslicecap (l+k) cap*i.bytes):=jB;have hk0:¬(k=0):=jB;simp[Builtin.append_,run_underlying hu,run_underlying hdk,sizeOf,typeInfo,zeroValue,hi,hiz,hisz,asInt,asIntOf,hwk,hb1,hb2,hn1,hn2,hn3,hk0,Question.forced,hfirst,newRow,grownCap,hzc,zn];congr 2
   apply Array.ext';simp
end
end Go.Gd
