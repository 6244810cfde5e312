/- Lemmas. No conditions. -/
import Derived.Test.YtghoellpinmenaaGreatDoorGdE
import Derived.Deep.RegionWith
import Derived.Laws.Append
set_option linter.all false
namespace Go.Gd
open Go
section
variable {P:PS}{w:NW}{H:Hp}
variable{a:Option AV}{v:Option Value}
def nj{i:Option Int}(ha:qe a=some i)(hr:∀x y,a=some x->v=some y->ar w x y)(hs:a.isSome=v.isSome):(i=none/\v=none)\/∃k n,i=some n/\v=some (.int k n):=by
 cases a with
 |none=>
  simp[qe]at ha;cases v with
  |none=>exact .inl ⟨ha.symm,rfl⟩
  |some _=>simp at hs
 |some x=>
  cases v with
  |none=>simp at hs
  |some y=>
   unfold qe at ha;split at ha<;>try cases ha
   ·rename_i h;cases h
   ·rename_i k n h;cases h;have:=cY (hr _ _ rfl rfl);subst this;exact .inr ⟨k,n,rfl,rfl⟩
variable{vlo vhi:Option Value}{lo:Option Int}
def uR{isSlice:Bool}{len cap:Nat}{hi:Option Int}(PV:(lo=none/\vlo=none)\/∃k n,lo=some n/\vlo=some (.int k n))(Tz:(hi=none/\vhi=none)\/∃k n,hi=some n/\vhi=some (.int k n))
  (h0:0<=lo.getD 0) (h1:lo.getD 0<=hi.getD len) (h2:hi.getD len<=cap):(Instr.sliceBounds isSlice len cap vlo vhi none).run P w=.ok ((lo.getD 0).toNat,(hi.getD len).toNat,cap) w:=by
 rcases PV with⟨rfl,rfl⟩|⟨k,n,rfl,rfl⟩<;>rcases Tz with⟨rfl,rfl⟩|⟨k',m,rfl,rfl⟩<;>simp only[Option.getD_some,Option.getD_none]at*
 ·simp[Instr.sliceBounds]
 ·simp[Instr.sliceBounds,run_sliceBound w _ _ _ _ (show 0<=m from jB) h2]
 ·simp[Instr.sliceBounds,run_sliceBound w _ _ _ _ h0 h1]
 ·simp[Instr.sliceBounds,run_sliceBound w _ _ _ _ (show 0<=m from jB) h2,run_sliceBound w _ _ _ _ h0 (show n<=((m.toNat:Nat):Int) from jB)]
def Hq{len cap:Nat}{k k2:IntKind}{m q:Int}(PV:(lo=none/\vlo=none)\/∃k n,lo=some n/\vlo=some (.int k n))
  (h0:0<=lo.getD 0) (h1:lo.getD 0<=q) (h2:q<=m) (h3:m<=cap):(Instr.sliceBounds true len cap vlo (some (.int k2 q)) (some (.int k m))).run P w.toWorld=.ok ((lo.getD 0).toNat,q.toNat,m.toNat) w.toWorld:=by
 rcases PV with⟨rfl,rfl⟩|⟨k1,n,rfl,rfl⟩<;>simp only[Option.getD_some,Option.getD_none]at*
 ·simp[Instr.sliceBounds,run_sliceBound w.toWorld _ _ _ _ (show 0<=m from jB) h3,run_sliceBound w.toWorld _ _ _ _ (show 0<=q from jB) (show q<=((m.toNat:Nat):Int) from jB)]
 ·simp[Instr.sliceBounds,run_sliceBound w.toWorld _ _ _ _ (show 0<=m from jB) h3,run_sliceBound w.toWorld _ _ _ _ (show 0<=q from jB) (show q<=((m.toNat:Nat):Int) from jB),run_sliceBound w.toWorld _ _ _ _ h0 (show n<=((q.toNat:Nat):Int) from jB)]
variable{vmx:Option Value}
def pU{t e:PM}{sz:Nat}(hu:P.underlying t=some (.slice e))(hs:cR P e=some sz){A:Option Addr}{n c lo hi mx:Nat}(hb:(Instr.sliceBounds true n c vlo vhi vmx).run P w.toWorld=.ok (lo,hi,mx) w.toWorld) :
  ∃A',(Instr.sliceAt t (.slice A n c) vlo vhi vmx).run P w.toWorld=.ok (.slice A' (hi-lo) (mx-lo)) w.toWorld/\((A=none/\A'=none)\/∃ad,A=some ad/\A'=some (if mx=lo then ad else ad.add (lo*sz))):=by
 cases A with
 |none=>exact⟨none,by simp[Instr.sliceAt,run_underlying hu,Instr.slice,hb,lC hs],.inl ⟨rfl,rfl⟩⟩
 |some ad=>exact⟨some (if mx=lo then ad else ad.add (lo*sz)),by simp only[Instr.sliceAt,run_underlying hu,Instr.slice,hb,lC hs,Sem.run_bind,Result.andThen_ok,Sem.run_pure,Option.map_some];split<;>rfl,.inr ⟨ad,rfl,rfl⟩⟩
def FI{i:Int}(ha:qe a=some (some i))(hr:∀x y,a=some x->v=some y->ar w x y)(hs:a.isSome=v.isSome):∃k,v=some (.int k i):=by
 rcases nj ha hr hs with⟨h,_⟩|⟨k,n,h,rfl⟩
 ·cases h
 ·cases h;exact⟨k,rfl⟩
def s9(ha:qe a=some none)(hr:∀x y,a=some x->v=some y->ar w x y)(hs:a.isSome=v.isSome):v=none:=by
 rcases nj ha hr hs with⟨_,h⟩|⟨k,n,h,rfl⟩
 ·exact h
 ·cases h
def MN(t:PM){a:AV}{lo hi mx:Option AV}{va:Value}(ha:ar w a va)(PV:∀x y,lo=some x->vlo=some y->ar w x y)(slo:lo.isSome=vlo.isSome)
  (Tz:∀x y,hi=some x->vhi=some y->ar w x y) (shi:hi.isSome=vhi.isSome) (TK:∀x y,mx=some x->vmx=some y->ar w x y) (smx:mx.isSome=vmx.isSome):jr P w (Instr.sliceAt t va vlo vhi vmx) (rL P t a lo hi mx):=by
 intro hq;unfold rL at*;split at hq<;>try exact hq.elim
 ·rename_i s l h e1 e2 e3;obtain rfl:=s9 e3 TK smx;have:=cY ha;subst this;have ht:=xM hq.1;obtain⟨h0,h1,h2⟩:=hq.2;have hb:=uR (P:=P) (w:=w) (isSlice:=false) (nj e1 PV slo) (nj e2 Tz shi) h0 h1 h2;exact⟨_,by simp[Instr.sliceAt,run_underlying ht,Instr.slice,hb],.raw _⟩
 ·rename_i x sz css d l h e1 e2 e3;obtain rfl:=s9 e3 TK smx;obtain⟨e,hu,hs⟩:=qu hq.1;obtain⟨h0,h1,h2⟩:=hq.2;have key:∀n c:Nat,n=css.length->n<=c->(Instr.sliceBounds true n c vlo vhi none).run P w.toWorld=.ok ((l.getD 0).toNat,(h.getD css.length).toNat,c) w.toWorld:=fun n c hn hc=>by
   subst hn;exact uR (P:=P) (w:=w) (isSlice:=true) (nj e1 PV slo) (nj e2 Tz shi) h0 h1 jB
  generalize hL:l.getD 0=L at*;generalize hh:h.getD (css.length:Int)=Hh at*;obtain⟨Ln,rfl⟩:=Int.eq_ofNat_of_zero_le h0;obtain⟨Hn,rfl⟩:=Int.eq_ofNat_of_zero_le (show(0:Int)<=Hh from jB);simp only[Int.toNat_natCast]at key ⊢;have J':((css.drop Ln).take (Hn-Ln)).length=Hn-Ln:=by simp;omega
  cases ha with
  |gb _ _ A c hx=>
   obtain⟨A',D',_⟩:=pU hu hs (A:=A) (key 0 c rfl (Nat.zero_le _));obtain rfl:Hn=0:=by simp at h2;omega
   refine⟨_,D',?_⟩;simp only[Nat.zero_sub,List.take_zero];exact .gb _ _ _ _ (fun h=>by cases h)
  |sl _ _ _ ad c vs hn hc hx P5 QX hH I' hr=>
   obtain⟨A',D',hA⟩:=pU hu hs (A:=some ad) (key _ c rfl hc);refine⟨_,D',?_⟩;by_cases hz:Hn-Ln=0
   ·rw[hz,List.take_zero];exact .gb _ _ _ _ (fun h=>by cases h)
   ·rcases hA with⟨h,_⟩|⟨ad',h,rfl⟩
    ·cases h
    cases h;rw[jN];have hg:∀i,i<Hn-Ln->((css.drop Ln).take (Hn-Ln)).getD i []=css.getD (Ln+i) []:=fun i hi=>by simp[List.getElem?_take,hi]
    have:=ar.sl (w:=w) (d:=d) false sz ((css.drop Ln).take (Hn-Ln)) (ad.add (Ln*sz)) (c-Ln) (fun j=>vs (Ln*sz+j)) jB jB (fun h=>by cases h) (fun cs Q4=>P5 _ (List.mem_of_mem_drop (List.mem_of_mem_take Q4))) (by rw[oO];exact QX) (by rw[oO];exact hH)
     (fun i j hi hj=>by
      rw[vP,show Ln*sz+(i*sz+j)=(Ln+i)*sz+j by rw[Nat.add_mul];omega];exact I' _ j jB hj) (fun i j u hi hu=>by
      rw[hg i jB]at hu;rw[show Ln*sz+(i*sz+j)=(Ln+i)*sz+j by rw[Nat.add_mul];omega];exact hr _ j u jB hu)
    rw[J']at this;exact this
 ·rename_i d m sz n h e1 e2 e3;obtain rfl:=s9 e3 TK smx;obtain rfl:=s9 e1 PV slo;obtain⟨e,hu,hs⟩:=qu hq.1;obtain⟨h1,h2⟩:=hq.2;have key:∀c:Nat,n<=c->(Instr.sliceBounds true n c none vhi none).run P w.toWorld=.ok (0,(h.getD n).toNat,c) w.toWorld:=fun c hc=>by
   have:=uR (P:=P) (w:=w) (isSlice:=true) (len:=n) (cap:=c) (lo:=none) (vlo:=none) (.inl ⟨rfl,rfl⟩) (nj e2 Tz shi) jE (by simpa using h1) jB;simpa using this
  cases ha with
  |ik _ _ _ A hn=>
   obtain⟨A',D',_⟩:=pU hu hs (A:=A) (key 0 (Nat.zero_le _));have h0:(h.getD 0).toNat=0:=by simp at h2;omega
   refine⟨_,D',?_⟩;simp only[Nat.sub_zero,Int.ofNat_zero];rw[h0];exact .ik d m sz A' hn
  |rs _ _ _ _ b t c hn hc Qa RT=>
   obtain⟨A',D',hA⟩:=pU hu hs (A:=some ⟨b,0,none⟩) (key c Qa);refine⟨_,D',?_⟩;rcases hA with⟨h',_⟩|⟨ad',h',rfl⟩
   ·cases h'
   cases h';have:(if c=0 then(⟨b,0,none⟩:Addr)else(⟨b,0,none⟩:Addr).add (0*sz))=⟨b,0,none⟩:=by rw[Nat.zero_mul,Ec];simp
   rw[this];simp only[Nat.sub_zero];exact .rs d m sz _ b t c hn hc jB RT
 ·rename_i d m sz n l h e1 e2 e3;obtain rfl:=s9 e3 TK smx;obtain⟨e,hu,hs⟩:=qu hq.1;obtain⟨h0,h1,h2⟩:=hq.2;have key:∀c:Nat,n<=c->(Instr.sliceBounds true n c vlo vhi none).run P w.toWorld=.ok (l.toNat,(h.getD n).toNat,c) w.toWorld:=fun c hc=>
   uR (P:=P) (w:=w) (isSlice:=true) (len:=n) (cap:=c) (lo:=some l) (nj e1 PV slo) (nj e2 Tz shi) h0 h1 jB
  cases ha with
  |ik _ _ _ A hn=>
   obtain⟨A',D',_⟩:=pU hu hs (A:=A) (key 0 (Nat.zero_le _));refine⟨_,D',?_⟩;have:(h.getD (0:Nat)).toNat-l.toNat=0:=by simp at h1 h2 ⊢;omega
   rw[this];exact .kX d m sz _ _ _
  |rs _ _ _ _ b t c hn hc Qa RT=>
   obtain⟨A',D',hA⟩:=pU hu hs (A:=some ⟨b,0,none⟩) (key c Qa);refine⟨_,D',?_⟩;by_cases hz:(h.getD n).toNat-l.toNat=0
   ·rw[hz];exact .kX d m sz _ _ _
   ·rcases hA with⟨h',_⟩|⟨ad',h',rfl⟩
    ·cases h'
    cases h';rw[jN,kK,Nat.zero_add];exact .rv d m sz _ _ b t _ hn jB
 ·rename_i d m sz o n l h e1 e2 e3;obtain rfl:=s9 e3 TK smx;obtain⟨e,hu,hs⟩:=qu hq.1;obtain⟨h0,h1,h2⟩:=hq.2;have key:∀c:Nat,n<=c->(Instr.sliceBounds true n c vlo vhi none).run P w.toWorld=.ok ((l.getD 0).toNat,(h.getD n).toNat,c) w.toWorld:=fun c hc=>
   uR (P:=P) (w:=w) (isSlice:=true) (len:=n) (cap:=c) (nj e1 PV slo) (nj e2 Tz shi) h0 h1 jB
  cases ha with
  |kX _ _ _ _ c A=>
   obtain⟨A',D',_⟩:=pU hu hs (A:=A) (key c (Nat.zero_le _));refine⟨_,D',?_⟩;have:(h.getD (0:Nat)).toNat-(l.getD 0).toNat=0:=by simp at h1 h2 ⊢;omega
   rw[this];exact .kX d m sz _ _ _
  |rv _ _ _ _ _ b t c hn Qa=>
   obtain⟨A',D',hA⟩:=pU hu hs (A:=some ⟨b,o*sz,none⟩) (key c Qa);refine⟨_,D',?_⟩;by_cases hz:(h.getD n).toNat-(l.getD 0).toNat=0
   ·rw[hz];exact .kX d m sz _ _ _
   ·rcases hA with⟨h',_⟩|⟨ad',h',rfl⟩
    ·cases h'
    cases h';rw[jN,kK,<-Nat.add_mul];exact .rv d m sz _ _ b t _ hn jB
 ·rename_i d m sz n l h x e1 e2 e3;obtain⟨kx,rfl⟩:=FI e3 TK smx;obtain⟨kh,rfl⟩:=FI e2 Tz shi;obtain⟨e,hu,hs⟩:=qu hq.1;obtain⟨h0,h1,h2,h3⟩:=hq.2;have key:∀c:Nat,n<=c->(Instr.sliceBounds true n c vlo (some (.int kh h)) (some (.int kx x))).run P w.toWorld=.ok ((l.getD 0).toNat,h.toNat,x.toNat) w.toWorld:=fun c hc=>
   Hq (P:=P) (w:=w) (len:=n) (cap:=c) (nj e1 PV slo) h0 h1 h2 jB
  cases ha with
  |ik _ _ _ A hn=>
   obtain⟨A',D',_⟩:=pU hu hs (A:=A) (key 0 (Nat.zero_le _));refine⟨_,D',?_⟩;have:h.toNat-(l.getD 0).toNat=0:=by simp at h1 h2 h3 ⊢;omega
   rw[this];exact .kX d m sz _ _ _
  |rs _ _ _ _ b t c hn hc Qa RT=>
   obtain⟨A',D',hA⟩:=pU hu hs (A:=some ⟨b,0,none⟩) (key c Qa);refine⟨_,D',?_⟩;by_cases hz:h.toNat-(l.getD 0).toNat=0
   ·rw[hz];exact .kX d m sz _ _ _
   ·rcases hA with⟨h',_⟩|⟨ad',h',rfl⟩
    ·cases h'
    cases h';rw[jN,kK,Nat.zero_add];exact .rv d m sz _ _ b t _ hn jB
 ·rename_i l h e1 e2 e3;obtain rfl:=s9 e3 TK smx;have:=cY ha;subst this;obtain⟨_,P5,h0,h1⟩:=hq;obtain⟨sz,P5⟩:=Option.isSome_iff_exists.1 P5;obtain⟨e,hu,hs⟩:=qu P5;have hb:=uR (P:=P) (w:=w) (isSlice:=true) (len:=0) (cap:=0) (nj e1 PV slo) (nj e2 Tz shi) jB jF jF;simp only[h0,Int.toNat_zero,h1,Int.ofNat_zero]at hb;exact⟨_,by simp[Instr.sliceAt,run_underlying hu,Instr.slice,hb,lC hs],.raw _⟩
def HX(s d:PM){a:AV}{v:Value}(h:ar w a v):jr P w (convert s d v) (tZ P s d a):=by
 intro hq;unfold tZ at*;split at hq<;>try exact hq.elim
 ·rename_i k' n k e;have:=cY h;subst this;have hd:P.underlying d=some (.int k):=by unfold Bj at e;split at e<;>simp_all
  obtain⟨ds,hs⟩:=Option.isSome_iff_exists.1 hq;refine⟨.int k (k.wrap n),?_,.raw _⟩;cases ds<;>simp[convert,run_underlying hs,run_underlying hd,Conv.intToInt]
 ·rename_i s' e;have:=cY h;subst this;have hd:=xM hq.2;obtain⟨ds,hs⟩:=Option.isSome_iff_exists.1 hq.1;refine⟨.string s',?_,.raw _⟩;cases ds<;>simp[convert,run_underlying hs,run_underlying hd]
def BV(mx:Bool)(ts:Array PM)(ty:PM){l:PH}{vs:PQ}(h:bR w l vs):jr P w (if mx then Builtin.max_ ts ty vs.toArray else Builtin.min_ ts ty vs.toArray) (vo mx l):=by
 intro hq;unfold vo at*;split at hq<;>try exact hq.elim
 rename_i k a k' b;obtain⟨hl,hr⟩:=h;match vs,hl with
 |[x,y],_=> obtain rfl:k=k':=hq;obtain rfl:=cY (hr 0 _ _ rfl rfl);obtain rfl:=cY (hr 1 _ _ rfl rfl);cases mx<;>exact⟨_,by simp[Builtin.max_,Builtin.min_,Builtin.max2,Builtin.min2];rfl,by simpa using ar.raw _⟩
theorem Az{pl:Nat->Option (Nat×Nat)}:∀{parts:List (Nat×AV)} {vparts:List (Nat×Value)} {cells:PH} {cur:PO} {out:PH},
  qs pl cells parts=some out->parts.map (·.1)=vparts.map (·.1)->(∀(i:Nat) a v,parts[i]?=some a->vparts[i]?=some v->bR w a.2.cells v.2.cells.toList)->bR w cells cur.toList->
  ∃vs,Instr.fill pl cur vparts=some vs/\bR w out vs.toList
 |[],[],cells,cur,out,h,_,_,hc=>by simp only[qs,Option.some.injEq]at h;subst h;exact⟨cur,rfl,hc⟩
 |[],_::_,_,_,_,_,he,_,_=>by simp at he
 |_::_,[],_,_,_,_,he,_,_=>by simp at he
 |(i,a)::parts,(i',v)::vparts,cells,cur,out,h,he,hr,hc=>by
  simp only[List.map_cons,List.cons.injEq]at he;obtain⟨rfl,he⟩:=he;simp only[qs]at h;split at h
  ·rename_i off k hp;split at h
   ·rename_i hk;have hv:=hr 0 _ _ rfl rfl;simp only at hv;have J':v.cells.size=k:=by have:=hv.1;simp at this;omega
    have Sn:cells.length=cur.size:=by simpa using hc.1
    have PZ:∀(l:PQ) (o:Nat) (c:PO),(l.toArray.zipIdx.foldl (fun cs (x,j)=>cs.setIfInBounds (o+j) x) c)=(c.toList.take o++l++c.toList.drop (o+l.length)).toArray\/c.size<o+l.length:=by
     intro l o c;by_cases hb:c.size<o+l.length
     ·exact .inr hb
     ·refine .inl ?_;have gen:∀(l:PQ) (s:Nat) (c:PO),o+s+l.length<=c.size->((l.zipIdx s).foldl (fun(cs:PO) (p:Value×Nat)=>cs.setIfInBounds (o+p.2) p.1) c)=(c.toList.take (o+s)++l++c.toList.drop (o+s+l.length)).toArray:=by
       intro l;induction l with
       |nil=>intro s c _;simp
       |cons x l ih=>
        intro s c hb;simp only[List.zipIdx_cons,List.foldl_cons];rw[ih (s+1) _ (by simp at hb ⊢;omega)];apply Array.ext';simp only[Array.toList_setIfInBounds];apply List.ext_getElem?;intro m;simp only[List.length_cons]at hb;rcases Nat.lt_or_ge m (o+s)with h1|h1
        ·rw[List.append_assoc,List.getElem?_append_left jF,List.append_assoc,List.getElem?_append_left jF];simp only[List.getElem?_take,List.getElem?_set];rw[jP,jN,if_pos h1]
        ·rcases Nat.lt_or_ge m (o+s+1)with h2|h2
         ·obtain rfl:m=o+s:=jB;rw[List.append_assoc,List.getElem?_append_left jF,List.append_assoc,List.getElem?_append_right jF];simp only[List.getElem?_take,List.getElem?_set,List.length_take,Array.length_toList];rw[jP];simp only[Nat.add_assoc,if_true];rw[jP,show o+s-min (o+s) c.size=0 from jB];rfl
         ·rw[List.append_assoc,List.append_assoc,List.cons_append,List.getElem?_append_right (l₁:=List.take (o+(s+1)) _) jF,List.getElem?_append_right (l₁:=List.take (o+s) _) jF];simp only[List.length_take,List.length_set,Array.length_toList];rw[show m-min (o+s) c.size=(m-min (o+(s+1)) c.size)+1 from jB,List.getElem?_cons_succ];rcases Nat.lt_or_ge (m-min (o+(s+1)) c.size) l.length with h3|h3
          ·rw[List.getElem?_append_left h3,List.getElem?_append_left h3]
          ·rw[List.getElem?_append_right h3,List.getElem?_append_right h3];simp only[List.getElem?_drop,List.getElem?_set,List.length_cons];rw[jN];congr 1
           omega
      have:=gen l 0 c jB;simp only[Nat.add_zero]at this;rw[<-this,<-Array.foldl_toList];simp
    have Qu:¬(cur.size<off+v.cells.toList.length):=by simp;omega
    have hs:=(PZ v.cells.toList off cur).resolve_right Qu;rw[Array.toArray_toList]at hs;obtain⟨vs,h1,h2⟩:=Az (cur:=(cur.toList.take off++v.cells.toList++cur.toList.drop (off+v.cells.toList.length)).toArray) h he (fun i a v ha hv=>hr (i+1) a v (by simpa using ha) (by simpa using hv)) (by
     refine⟨by simp[jQ];omega,fun m x y hx hy=>?_⟩;simp only[jQ]at hx;rcases Nat.lt_or_ge m off with g1|g1
     ·rw[List.append_assoc,List.getElem?_append_left jF,List.getElem?_take,if_pos g1]at hx hy;exact hc.2 m x y hx hy
     ·rcases Nat.lt_or_ge m (off+a.cells.length)with g2|g2
      ·rw[List.append_assoc,List.getElem?_append_right jF,List.getElem?_append_left jF]at hx hy;simp only[List.length_take,Array.length_toList]at hx hy;rw[show m-min off cells.length=m-off from jB]at hx;rw[show m-min off cur.size=m-off from jB]at hy;exact hv.2 _ x y hx hy
      ·rw[List.getElem?_append_right jF]at hx hy;simp only[List.length_append,List.length_take,Array.length_toList,List.getElem?_drop]at hx hy;rw[show off+a.cells.length+(m-(min off cells.length+a.cells.length))=m from jB]at hx;rw[show off+v.cells.size+(m-(min off cur.size+v.cells.size))=m from jB]at hy;exact hc.2 m x y hx hy)
    refine⟨vs,?_,h2⟩;simp only[Instr.fill,hp];rw[if_neg jF,hs];exact h1
   ·cases h
  ·cases h
def Pb{t:PM}{pl:List (Nat×Nat)}(h:jK P t=some pl):∃fs:Array Field,P.underlying t=some (.struct fs)/\(fs.mapM (m:=Sem) fun f=>do pure (f.offset,<-sizeOf f.type)).run P w.toWorld=.ok pl.toArray w.toWorld:=by
 unfold jK at h;split at h
 ·rename_i fs hu;refine⟨fs,hu,?_⟩;rw[Array.mapM_eq_mapM_toList];have gen:∀(l:List Field) (pl:List (Nat×Nat)),l.mapM (fun f=>(cR P f.type).map fun k=>(f.offset,k))=some pl->(l.mapM (m:=Sem) fun f=>do pure (f.offset,<-sizeOf f.type)).run P w.toWorld=.ok pl w.toWorld:=by
   intro l;induction l with
   |nil=>intro pl h;simp at h;subst h;simp
   |cons f l ih=> intro pl h;rw[List.mapM_cons]at h;simp only[Option.bind_eq_bind,Option.bind_eq_some_iff,Option.map_eq_some_iff,Option.pure_def,Option.some.injEq]at h;obtain⟨p,⟨k,hk,rfl⟩,rest,P9,rfl⟩:=h;rw[List.mapM_cons];simp only[Sem.run_bind,lC hk,Result.andThen_ok,Sem.run_pure,ih rest P9]
  simp only[Sem.run_map,gen fs.toList pl h,Result.andThen_ok]
 ·cases h
def Kq(t:PM){parts:List (Nat×AV)}{vparts:Array (Nat×Value)}(h1:parts.map (·.1)=vparts.toList.map (·.1))(h2:∀(i:Nat) a v,parts[i]?=some a->vparts.toList[i]?=some v->ar w a.2 v.2):jr P w (Instr.build t vparts) (tO P t parts):=by
 intro hq;unfold tO at*;split at hq<;>try exact hq.elim
 rename_i zs pl e1 e2;split at hq<;>try exact hq.elim
 rename_i out hf;obtain⟨z,hz,rfl⟩:=xC (w:=w) e1;obtain⟨fs,hu,hp⟩:=Pb (w:=w) e2;simp only[cM,List.all_eq_true]at hq;have RD:∀(i:Nat) a,parts[i]?=some a->cM a.2.cells=true:=fun i a ha=>by simp only[cM,List.all_eq_true];intro x hx;exact hq x (List.mem_flatten.2 ⟨_,List.mem_map.2 ⟨a,List.mem_of_getElem? ha,rfl⟩,hx⟩)
 obtain⟨vs,g1,g2⟩:=Az (w:=w) (cur:=z.cells) hf h1 (fun i a v ha hv=>(h2 i a v ha hv).gv (RD i a ha))
  ⟨jE,fun i a v ha hv=>by simp only[List.getElem?_map,Option.map_eq_some_iff]at ha;obtain⟨x,hx,rfl⟩:=ha;rw[hx]at hv;cases hv;exact .raw _⟩
 refine⟨.agg vs,?_,.agg _ _ (by have:=g2.1;simpa using this) fun i a v ha hv=>g2.2 i a v ha (by simpa using hv)⟩;have e:(fun i:Nat=>pl.toArray[i]?)=(fun i:Nat=>pl[i]?):=by funext i;simp
 simp only[Instr.build,Sem.run_bind,hz,Result.andThen_ok,run_underlying hu,hp,e,g1,Sem.run_pure]
end
section
variable {P:PS}{w:NW}{H:Hp}{ρ:Operand->Value}{ev:PN}
def tM(hr:∀x,ar w (ev x) (ρ x))(l:List Operand):bR w (l.map ev) (l.map ρ):=
 ⟨jE,fun i a v ha hv=>by simp only[List.getElem?_map,Option.map_eq_some_iff]at ha hv;obtain⟨x,hx,rfl⟩:=ha;obtain⟨y,hy,rfl⟩:=hv;rw[hx]at hy;cases hy;exact hr x⟩
def z6(hr:∀x,ar w (ev x) (ρ x))(o:Option Operand):∀x y,o.map ev=some x->o.map ρ=some y->ar w x y:=by
 intro x y hx hy;cases o with
 |none=>cases hx
 |some z=>cases hx;cases hy;exact hr z
def lI{s:Sem Value}{q:PA}(hq:q.1)(h:jr P w s q):∃v,(do pure (Next.value (<-s)):Sem Next).run P w.toWorld=.ok (.value v) w.toWorld/\ar w q.2 v:=by obtain⟨v,h1,h2⟩:=h hq;exact⟨v,by simp[h1],h2⟩
def FG{c a b:Operand}{x y z:AV}{dst:Option Tmp}{ty:PM}{pos:String}{after:Array Edge}{guard:Option (Nat×Bool)}(hc:ar w x (ρ c))(ha:ar w y (ρ a))(hb:ar w z (ρ b))(hq:(mO x y z).1) :
  ∃v,(execOp ρ ⟨dst,.pick c a b,ty,pos,after,guard⟩).run P w.toWorld=.ok (.value v) w.toWorld/\ar w (mO x y z).2 v:=by
 obtain⟨v,h1,h2⟩:=CM (P:=P) hc ha hb hq;refine⟨v,?_,h2⟩;simp only[execOp,Sem.run_bind,Sem.run_pure]at h1 ⊢;cases hb:(asBool (ρ c)).run P w with
 |ok x w'=>rw[hb]at h1;simp only[Result.andThen_ok,Result.ok.injEq]at h1 ⊢;exact⟨by rw[h1.1],h1.2⟩
 |halt e w'=>rw[hb]at h1;simp at h1
def xQ(o:Oper)(hw:aH w H)(hr:∀x,ar w (ev x) (ρ x))(hq:(vq P ev H o.op).1):∃v,(execOp ρ o).run P w.toWorld=.ok (.value v) w.toWorld/\ar w (vq P ev H o.op).2 v:=by
 obtain⟨dst,op,ty,pos,after,guard⟩:=o;cases op
 case move x=>exact⟨_,rfl,hr x⟩
 case assign x=>exact⟨_,rfl,hr x⟩
 case pick c a b=>
  obtain⟨v,h1,h2⟩:=CM (P:=P) (hr c) (hr a) (hr b) hq;refine⟨v,?_,h2⟩;simp only[execOp,Sem.run_bind,Sem.run_pure]at h1 ⊢;cases hb:(asBool (ρ c)).run P w with
  |ok x w'=>rw[hb]at h1;simp only[Result.andThen_ok,Result.ok.injEq]at h1 ⊢;exact⟨by rw[h1.1],h1.2⟩
  |halt e w'=>rw[hb]at h1;simp at h1
 case nilCheck x=>exact Nx x rfl (hr x) _ rfl hq
 case binOp op t x y t'=>exact lI hq (G5 op t x y (hr x) (hr y))
 case unOp op t x=>exact lI hq (NH op (hr x))
 case load t a=>exact lI hq (Hg t (hr a) hw)
 case fieldAddr t a f=>exact lI hq (Kz t f (hr a))
 case field t a f=>exact lI hq (K9 t f (hr a))
 case indexAddr t a i=>exact lI hq (O7 t (hr a) (hr i))
 case index t a i=>exact lI hq (HI t (hr a) (hr i))
 case extract a i=>exact lI hq (Pr (hr a) i)
 case slice t a lo hi mx=>exact lI hq (MN t (hr a) (z6 hr lo) (by cases lo<;>rfl) (z6 hr hi) (by cases hi<;>rfl) (z6 hr mx) (by cases mx<;>rfl))
 case makeFunc fn first captured=>
  have:=NZ (P:=P) fn (tM hr first.toList) (tM hr captured.toList);have e1:(first.toList.map ρ).toArray=first.map ρ:=by rw[<-Array.toList_map,Array.toArray_toList]
  have e2:(captured.toList.map ρ).toArray=captured.map ρ:=by rw[<-Array.toList_map,Array.toArray_toList]
  rw[e1,e2]at this;exact lI hq this
 case makeInterface t x=>exact lI hq (I2 t (hr x))
 case convert s d x=>exact lI hq (HX s d (hr x))
 case build t parts=> refine lI hq (Kq t jE fun i a v ha hv=>?_);simp only[List.getElem?_map,Option.map_eq_some_iff,Array.toList_map,Array.getElem?_toList]at ha hv;obtain⟨x,hx,rfl⟩:=ha;obtain⟨y,hy,rfl⟩:=hv;rw[hx]at hy;cases hy;exact hr x.2
 case call c=>
  obtain⟨callee,args,argTypes⟩:=c;cases callee
  case builtin b=>
   simp only[vq]at hq ⊢;generalize V':argTypes.toList=ts at*;obtain rfl:argTypes=ts.toArray:=by rw[<-V']
   have RE:=tM hr args.toList;have QU:args.map ρ=(args.toList.map ρ).toArray:=by rw[<-Array.toList_map,Array.toArray_toList]
   have D':∀s:Sem Value,(∀cs,builtin b ts.toArray ty cs (args.toList.map ρ).toArray=(do pure (Next.value (<-s))))->(execOp ρ ⟨dst,.call ⟨.builtin b,args,ts.toArray⟩,ty,pos,after,guard⟩)=(do pure (Next.value (<-s))):=by intro s hs;simp only[execOp,resolve,pure_bind,invoke,QU];exact hs _
   generalize hus:args.toList.map ρ=us at*;generalize hals:args.toList.map ev=als at*;unfold l9 at*;split at hq<;>try exact hq.elim
   ·rename_i t ts x als;cases us with
    |nil=>have:=RE.1;simp at this
    |cons u us=> rw[D' _ (fun _=>rfl)];exact lI hq (KB ty t ts us hw (RE.2 0 _ _ rfl rfl))
   ·rename_i t ts x als;cases us with
    |nil=>have:=RE.1;simp at this
    |cons u us=> rw[D' _ (fun _=>rfl)];exact lI hq (OB ty t ts us (RE.2 0 _ _ rfl rfl))
   ·rw[D' _ (fun _=>rfl)];have:=BV (P:=P) true ts.toArray ty RE;exact lI hq this
   ·rw[D' _ (fun _=>rfl)];have:=BV (P:=P) false ts.toArray ty RE;exact lI hq this
  all_goals exact hq.elim
 all_goals exact hq.elim
end
universe u
def bo(P:Program)(f:FuncId):Bool:=match P.funcs[f]? with
 | some fn => fn.body.isSome && !(fn.name == "runtime.NumGoroutine")
 |none=>false
def dO(P:PS)(f:FuncId)(args:PH)(r:AV):Prop:=ai P f args [] fun r' l'=>r'=r/\l'=[]
def cX(P:PS)(f:FuncId)(args:PH)(H:Hp)(K:PE):Prop:=
 ∀(w:NW) (vs:PO),aH w H->aY w args vs->Calls P f vs w.toWorld fun e W=>∃v r H' w',W=NW.toWorld w'/\e=.returned v/\K r H'/\aH w' H'/\ar w' r v/\Ext w H w' H'
theorem cX.mono{P:PS}{f:FuncId}{args:PH}{H:Hp}{K K':PE}(h:cX P f args H K)(hk:∀r H,K r H->K' r H):cX P f args H K':=
 fun w vs h1 h2=>(h w vs h1 h2).mono fun _ _ ⟨v,r,H',w',e0,e,k,g⟩=>⟨v,r,H',w',e0,e,hk _ _ k,g⟩
def Ac:AV->Option (FuncId×PH×PH)
 |.raw (.func (.func f) first captured)=>some (f,first.toList.map .raw,captured.toList.map .raw)
 |.fJ f cs=>some (f,[],cs)
 |.bd f fs=>some (f,fs,[])
 |_=>none
-- what follows is hidden from simp: an argument that a later one's type hangs on is held fixed
inductive gq{α:Sort u}(a:α):Type
 |mk
def tN(H:Hp)(A:Nat->Prop)(_:gq A):Prop:=∃i,H.get i=none/\A i
def ua(P:PS)(H:Hp)(t:PM)(a x:AV)(K:PE):Prop:=match a,cR P t with
 |.pt i m k j,some n=>match H.get i with
  |some r=>(cM x.cells=true/\x.cells.length=n/\yO r m k j n)/\K .any (H.put i (xg r k j x.cells))
  |none=>False
 |_,_=>False
def nb(P:PS)(H:Hp)(t:PM)(K:PE):Prop:=match dY P t with
 |some zs=>tN H (fun i=>K (.pt i 0 0 0) (H.put i (.var t (zs.map .raw)))) .mk
 |none=>False
def p6(H:Hp)(t:PM)(x:AV)(K:PE):Prop:=cM x.cells=true/\tN H (fun i=>K (.pt i 0 0 0) (H.put i (.var t x.cells))) .mk
def v7(sz:Nat):Nat->List (Nat×AV)->Prop
 |_,[]=>True
 |k,(i,a)::rest=>(i=k/\cM a.cells=true/\a.cells.length=sz)/\v7 sz (k+1) rest
theorem D5{sz:Nat}:∀{k:Nat} {l:List (Nat×AV)},v7 sz k l->l.map (·.1)=List.range' k l.length/\∀p∈l,cM p.2.cells=true/\p.2.cells.length=sz
 |_,[],_=>⟨rfl,fun p hp=>by simp at hp⟩
 |k,(i,a)::rest,h=>by
  obtain⟨⟨rfl,h1,h2⟩,h3⟩:=h;obtain⟨g1,g2⟩:=D5 h3;refine⟨by simp[g1,List.range'_succ],fun p hp=>?_⟩;rcases List.mem_cons.1 hp with rfl|hp
  ·exact⟨h1,h2⟩
  ·exact g2 p hp
def lL(parts:List (Nat×AV)):PF:=parts.map (·.2.cells)
def qo(e:PM)(sz:Nat)(css:PF)(H:Hp)(K:PE):Prop:=
 (aS dq css.flatten=true/\K (.sl true sz css []) H)\/(0<sz/\∃i,H.get i=none/\K (.rs i css.length sz css.length) (H.put i (.aE e sz css)))
def mG(P:PS)(H:Hp)(t:PM)(n:Nat)(parts:List (Nat×AV))(K:PE):Prop:=match ie P t with
 |some e=>match cR P e with
  |some sz=>(parts.length=n/\v7 sz 0 parts/\n*sz<=16777216/\(n*sz=0\/(dY P e).isSome=true))/\
   qo e sz (lL parts) H K
  |none=>False
 |none=>False
def pk(P:PS)(ne:Bool)(t:PM)(x y:AV)(H:Hp)(K:PE):Prop:=match x,y with
 |.sl _ _ css _,.raw (.slice none 0 0)=>gQ P t=true/\∀b:Bool,(b=true->css=[])->K (.raw (.bool (ne ^^ b))) H
 |.rs _ _ _ n,.raw (.slice none 0 0)=>gQ P t=true/\∀b:Bool,(b=true->n=0)->K (.raw (.bool (ne ^^ b))) H
 |x,y=>(fw P (if ne then .neq else .eql) t x y).1/\K (fw P (if ne then .neq else .eql) t x y).2 H
def sN(H:Hp):AV->Option (Prop×PF)
 |.sl _ _ css _=>some (True,css)
 |.rs i m sz n=>match H.get i with
  |some (.aE _ sz' css)=>some (sz'=sz/\m=css.length/\n<=m,css.take n)
  |_=>none
 |.rv i m sz o n=>match H.get i with
  |some (.aE _ sz' css)=>some (sz'=sz/\m=css.length/\o+n<=m,(css.drop o).take n)
  |_=>none
 |.raw (.slice none 0 0)=>some (True,[])
 |_=>none
def iN(P:PS)(t:PM):Nat:=((P.info? t).map (·.bytes)).getD 0
def room(by_ n:Nat):Prop:=n*by_<=140737488355328/\n<=9223372036854775807
def gX(css:PF)(n:Nat)(ys:PF):PF:=css.take n++ys++css.drop (n+ys.length)
def sn(i:Nat)(e:PM)(m sz n:Nat)(css ys:PF)(H:Hp)(K:PE):Prop:=if n=m then K (.rs i (m+ys.length) sz (n+ys.length)) (H.put i (.aE e sz (css++ys)))else K (.rs i (max m (n+ys.length)) sz (n+ys.length)) (H.put i (.aE e sz (gX css n ys)))
def L0(css ys:PF):gX css css.length ys=css++ys:=by simp[gX]
variable{css:PF}{n:Nat}
def Gp(ys:PF)(h:n<=css.length):(gX css n ys).length=max css.length (n+ys.length):=by simp[gX];omega
variable{sz:Nat}{H:Hp}{K:PE}
def Jb{i:Nat}{e:PM}{ys:PF}(h:sn i e css.length sz n css ys H K):K (.rs i (max css.length (n+ys.length)) sz (n+ys.length)) (H.put i (.aE e sz (gX css n ys))):=by
 unfold sn at h;split at h
 ·rename_i e;subst e;rw[L0,Nat.max_eq_right jB];exact h
 ·exact h
def y6(by_:Nat)(e:PM)(sz:Nat)(ys:PF)(a:AV)(H:Hp)(K:PE):Prop:=match a with
 |.rs i m sz' n=>match H.get i with
  |some (.aE e' sz'' css)=>(e'=e/\sz'=sz/\sz''=sz/\m=css.length/\n<=m/\room by_ (n+ys.length))/\sn i e m sz n css ys H K
  |_=>False
 |.raw (.slice none 0 0)=>room by_ ys.length/\tN H (fun i=>K (.rs i ys.length sz ys.length) (H.put i (.aE e sz ys))) .mk
 |.sl true sz' css _=>(sz'=sz/\room by_ (css.length+ys.length)/\(css.length=0\/0<ys.length))/\tN H (fun i=>K (.rs i (css.length+ys.length) sz (css.length+ys.length)) (H.put i (.aE e sz (css++ys)))) .mk
 |_=>False
def we(P:PS)(t:PM)(a x:AV)(H:Hp)(K:PE):Prop:=match ie P t with
 |some e=>match cR P e,dY P e,sN H x with
  |some sz,some zs,some (c,ys)=>(zs.length=sz/\0<sz/\c/\nI sz ys)/\y6 (iN P e) e sz ys a H K
  |_,_,_=>False
 |none=>False
def pj(P:PS)(t t':PM)(a x:AV)(H:Hp)(K:PE):Prop:=
 ∀(w:NW) va vx ty,aH w H->ar w a va->ar w x vx->∃(w':NW) (H':Hp) (r:AV) (v:Value),(Builtin.append_ #[t,t'] ty #[va,vx]).run P w.toWorld=.ok v w'.toWorld/\K r H'/\aH w' H'/\ar w' r v/\Ext w H w' H'
def qV(P:PS)(b:Builtin)(ts:List PM)(args:PH)(H:Hp)(K:PE):Prop:=
 ∀(w:NW) vs ty cs,aH w H->bR w args vs->∃(w':NW) (H':Hp) (r:AV) (v:Value),(builtin b ts.toArray ty cs vs.toArray).run P w.toWorld=.ok (.value v) w'.toWorld/\K r H'/\aH w' H'/\ar w' r v/\Ext w H w' H'
def iV(P:PS)(o:Op)(ty:PM)(ev:PN)(H:Hp)(K:PE):Prop:=
 ∀(w:NW) ρ dst pos after guard,aH w H->(∀x∈o.operands.toList,ar w (ev x) (ρ x))->∃(w':NW) (H':Hp) (r:AV),K r H'/\aH w' H'/\Ext w H w' H'/\
  ((∃v,(execOp ρ ⟨dst,o,ty,pos,after,guard⟩).run P w.toWorld=.ok (.value v) w'.toWorld/\ar w' r v)\/((execOp ρ ⟨dst,o,ty,pos,after,guard⟩).run P w.toWorld=.ok .skip w'.toWorld/\r=.any))
def vt(P:PS)(f:FuncId)(args:PH)(H:Hp)(K:PE):Prop:=
 ∀(w:NW) vs,aH w H->aY w args vs->∃(v:Value) (w':NW) (r:AV) (H':Hp),(callFunc f vs).run P w.toWorld=.ok (.value v) w'.toWorld/\K r H'/\aH w' H'/\ar w' r v/\Ext w H w' H'
def fh(P:PS)(f:AV)(args:PH)(H:Hp)(K:PE):Prop:=match Ac f with
 |some (f,first,captured)=>(bo P f=true/\cX P f (first++args++captured) H K)\/vt P f (first++args++captured) H K
 |none=>False
def vF(P:PS)(a:AV)(m:String)(args:PH)(H:Hp)(K:PE):Prop:=match a with
 |.iq t v=>match ub P t m with
  |some f=>fh P (.raw (.func (.func f) #[] #[])) (v::args) H K
  |none=>False
 |_=>False
def cW:Op->Bool
 |.box .. |.alloc _|.store .. |.buildSlice .. |.makeMap .. |.makeSlice .. |.mapUpdate .. |.insert .. |.lookup .. |.range .. |.next .. |.entry .. |.typeAssert ..=>false
 |.binOp .eql .. |.binOp .neq ..=>false
 |.call { callee:=.builtin b,.. }=>match b with
  |.len|.cap|.max|.min=>true
  |_=>false
 |.call _=>false
 |_=>true
def vc(P:PS)(ev:PN)(H:Hp)(ty:PM)(K:PE):Op->Prop
 |.box t x=>p6 H t (ev x) K
 |.alloc t=>nb P H t K
 |.store t a x=>ua P H t (ev a) (ev x) K
 |.buildSlice t n parts=>mG P H t n (parts.toList.map fun p=>(p.1,ev p.2)) K
 |.binOp .eql t x y _=>pk P false t (ev x) (ev y) H K
 |.binOp .neq t x y _=>pk P true t (ev x) (ev y) H K
 |.call { callee:=.value f,args,.. }=>fh P (ev f) (args.toList.map ev) H K
 |.call { callee:=.invoke r m,args,.. }=>vF P (ev r) m (args.toList.map ev) H K
 |.call { callee:=.builtin .append,args,argTypes }=>match argTypes.toList,args.toList with
  |[t,t'],[a,x]=>pj P t t' (ev a) (ev x) H K
  |_,_=>False
 |.call { callee:=.builtin b,args,argTypes }=>if cW (.call ⟨.builtin b,args,argTypes⟩)then(vq P ev H (.call ⟨.builtin b,args,argTypes⟩)).1/\K (vq P ev H (.call ⟨.builtin b,args,argTypes⟩)).2 H else qV P b argTypes.toList (args.toList.map ev) H K
 |o=>if cW o then(vq P ev H o).1/\K (vq P ev H o).2 H else iV P o ty ev H K
section
variable {P:PS}{ops:Array Oper}{F:PH}{H:Hp}
variable{K:PE}
def OI{o:Oper}(hq:(vq P (bV F) H o.op).1)(hk:K (vq P (bV F) H o.op).2 H):zd P o F H K:=fun w tm h1 h2=>by obtain⟨v,hr,hv⟩:=xQ o h1 (fun x=>h2.eval [] x) hq;exact⟨w,H,_,hk,h1,Ext.refl w H,.inl ⟨v,hr,hv⟩⟩
theorem Gk{sz:Nat}:∀(parts:List (Nat×AV)) (k:Nat) (pre zs:PH),parts.map (·.1)=List.range' k parts.length->(∀p∈parts,p.2.cells.length=sz)->pre.length=k*sz->zs.length=parts.length*sz->
  qs (fun i=>some (i*sz,sz)) (pre++zs) parts=some (pre++(parts.map (·.2.cells)).flatten)
 |[],k,pre,zs,_,_,_,hz=>by
  have:zs=[]:=by simpa using hz
  simp[qs,this]
 |(i,a)::parts,k,pre,zs,hp,hs,hk,hz=>by
  simp only[List.map_cons,List.length_cons,List.range'_succ,List.cons.injEq]at hp;obtain⟨rfl,hp⟩:=hp;have ha:a.cells.length=sz:=hs (i,a) jE;have Q7:zs.length=parts.length*sz+sz:=by rw[hz,List.length_cons,Nat.add_mul,Nat.one_mul]
  simp only[qs];rw[if_pos ⟨ha,by simp;omega⟩];have e:jQ (pre++zs) (i*sz) a.cells=(pre++a.cells)++zs.drop sz:=by
   unfold jQ;rw[<-hk,List.take_left',List.drop_append,ha]
   ·simp
   ·rfl
  rw[e,Gk parts (i+1) (pre++a.cells) (zs.drop sz) hp (fun p hp=>hs p (by simp[hp])) (by simp[hk,ha,Nat.add_mul]) jF];simp[List.append_assoc]
variable{w:NW}
def JX{l:PH}{vs:PQ}(h:bR w l vs){k:Nat}{u:AV}(hu:l[k]?=some u):ar w u (vs.toArray.getD k undef):=by
 have hk:k<vs.length:=by rw[<-h.1];exact(List.getElem?_eq_some_iff.1 hu).1
 refine h.2 k u _ hu ?_;simp[hk]
variable{t:PM}
def Mq{n:Nat}{parts:List (Nat×AV)}{vparts:Array (Nat×Value)}(hw:aH w H)(h1:parts.map (·.1)=vparts.toList.map (·.1))(h2:∀(i:Nat) a v,parts[i]?=some a->vparts.toList[i]?=some v->ar w a.2 v.2)
  (hv:mG P H t n parts K):∃(w':NW) (H':Hp) (r:AV) (v:Value),(Instr.buildSlice t n vparts).run P w.toWorld=.ok v w'.toWorld/\K r H'/\aH w' H'/\ar w' r v/\Ext w H w' H':=by
 unfold mG at hv;split at hv;rotate_left
 ·exact hv.elim
 rename_i e he;split at hv;rotate_left
 ·exact hv.elim
 rename_i sz Si;obtain⟨⟨J',hok,hn,hz⟩,hk⟩:=hv;have hu:P.underlying t=some (.slice e):=by unfold ie at he;split at he<;>simp_all
 obtain⟨hp,hs⟩:=D5 hok;rw[J',<-List.range_eq_range']at hp;have Wv:∃z:PO,(n*sz=0/\z=#[])\/(n*sz≠0/\∃v,(zeroValue e).run P w.toWorld=.ok v w.toWorld/\v.cells=z):=by
  by_cases h0:n*sz=0
  ·exact⟨#[],.inl ⟨h0,rfl⟩⟩
  ·have Q7:=hz.resolve_left h0;obtain⟨zs,Ut⟩:=Option.isSome_iff_exists.1 Q7;obtain⟨z,T5,_⟩:=xC (w:=w.toWorld) Ut;exact⟨z.cells,.inr ⟨h0,z,T5,rfl⟩⟩
 obtain⟨z,hz⟩:=Wv;generalize Sn:(Array.range (n*sz)).map (z[· % z.size]!)=cur;have Q4:cur.size=n*sz:=by subst Sn;simp
 have hf:=Gk (sz:=sz) parts 0 [] (cur.toList.map .raw) (by rw[hp,J',List.range_eq_range']) (fun p hp=>(hs p hp).2) jE (by simp[Q4,J']);simp only[List.nil_append]at hf;obtain⟨vs,g1,g2⟩:=Az (w:=w) (cur:=cur) hf h1 (fun i a v ha hv=>(h2 i a v ha hv).gv (hs _ (List.mem_of_getElem? ha)).1)
  ⟨jE,fun i a v ha hv=>by simp only[List.getElem?_map,Option.map_eq_some_iff]at ha;obtain⟨x,hx,rfl⟩:=ha;rw[hx]at hv;cases hv;exact .raw _⟩
 have D':(Instr.buildSlice t n vparts).run P w.toWorld=.ok (.slice (some ⟨w.heap.size,0,none⟩) n n) (w.alloc (.cells vs e)):=by
  have Rf:¬(n*sz>2 ^ 24):=jB;rcases hz with⟨h0,rfl⟩|⟨h0,v,hv,rfl⟩
  ·simp only[Instr.buildSlice,Sem.run_bind,run_underlying hu,Result.andThen_ok,lC Si,if_neg Rf,if_pos h0,Sem.run_pure,Sn,g1,newRow,run_newObj];rfl
  ·simp only[Instr.buildSlice,Sem.run_bind,run_underlying hu,Result.andThen_ok,lC Si,if_neg Rf,if_neg h0,hv,Sem.run_pure,Sn,g1,newRow,run_newObj];rfl
 have Rs:(lL parts).length=n:=by simp[lL,J']
 have SX:∀cs∈lL parts,cs.length=sz:=fun cs Q4=>by obtain⟨p,hp,rfl⟩:=List.mem_map.1 Q4;exact(hs p hp).2
 have QT:(lL parts).flatten.length=n*sz:=by rw[j7 SX,Rs]
 have Uu:vs.size=n*sz:=by have:=g2.1;simp only[Array.length_toList]at this;rw[<-this];exact QT
 rcases hk with⟨Qb,hk⟩|⟨h0,i,hi,hk⟩
 ·have ex:=Ext.fb hw (.cells vs e);refine⟨_,H,_,_,D',hk,hw.fb _,?_,ex⟩;by_cases h0:n=0
  ·have:lL parts=[]:=List.length_eq_zero_iff.1 jB;rw[this,h0];exact .gb true sz _ 0 (fun _=>rfl)
  ·have:=ar.sl (w:=w.to (w.alloc (.cells vs e))) (d:=[]) true sz (lL parts) ⟨w.heap.size,0,none⟩ n (fun j=>vs.getD j undef) jB jB (fun _=>⟨Rs.symm,vs,e,heap_alloc_new w.toWorld _⟩) SX jE (fun h=>by have:=hw.fin _ h;simp at this) (fun i j hi hj=>by
    rw[kK,tj w.heap.size _ vs e (0,0) (heap_alloc_new w.toWorld _)];have:=wV hi hj;rw[Rs]at this;simp[show i*sz+j<vs.size from jB]) (fun i j u hi hu=>by
    have hj:j<sz:=by have:=(List.getElem?_eq_some_iff.1 hu).1;rwa [ug SX hi]at this
    have hx:=JX g2 (k:=i*sz+j) (u:=u) (by rw[<-hu];exact pM SX hi hj);rw[Array.toArray_toList]at hx;refine(hx.kq (lZ Qb (i:=i*sz+j) (by rw[<-hu];exact pM SX hi hj))).aT ex.toKeep.bare (nk u))
   rw[Rs]at this;exact this
 ·obtain⟨q1,q2⟩:=uw (row:=.aE e sz (lL parts)) hw (hw.none hi _) (fun r' hr=>by rw[hi]at hr;cases hr) ⟨h0,SX⟩ vs ⟨rfl,by show(lL parts).flatten.length<=_;omega⟩ (fun k a v ha hv=>g2.2 k a v ha (by simpa using hv));refine⟨_,_,_,_,D',hk,q1,?_,q2⟩;have:=ar.rs (w:=((w.to (w.alloc ((Row.aE e sz (lL parts)).obj vs))).fN w.heap.size).name i (Row.aE e sz (lL parts)).fK (.at w.heap.size vs.size (Row.aE e sz (lL parts)).bt)) i (lL parts).length sz (lL parts).length w.heap.size vs.size n (NW.bU _ _ _ _) Uu.symm jB h0;rw[Rs]at this ⊢;exact this
def Gf(ne:Bool)(t:PM){a b:AV}{va vb:Value}(x y:Operand)(ha:ar w a va)(hb:ar w b vb)(hv:pk P ne t a b H K) :
  ∃r v,(do eqGuard (if ne then .neq else .eql) t x y va vb;binOp (if ne then .neq else .eql) t va vb:Sem Value).run P w.toWorld=.ok v w.toWorld/\K r H/\ar w r v:=by
 have key:∀{n:Nat},gQ P t=true->(∀b:Bool,(b=true->n=0)->K (.raw (.bool (ne ^^ b))) H)->(∃A c,va=.slice A n c/\(A=none->n=0))->vb=.slice none 0 0->
   ∃r v,(do eqGuard (if ne then .neq else .eql) t x y va vb;binOp (if ne then .neq else .eql) t va vb:Sem Value).run P w.toWorld=.ok v w.toWorld/\K r H/\ar w r v:=fun{n} h1 h2 h3 h4=>by
  obtain⟨e,hu⟩:=pP h1;obtain⟨A,c,rfl,hA⟩:=h3;subst h4;have he:(Op.equal t (.slice A n c) (.slice none 0 0)).run P w.toWorld=.ok A.isNone w.toWorld:=by refine p9 (fun d=>?_);cases A<;>simp[Op.equalIn,run_underlying hu]
  obtain⟨v,h1,h3⟩:=qg (P:=P) (w:=w) (ne:=ne) (t:=t) (x:=x) (y:=y) (fun op=>eqGuard_at_slice _ _ _ _ _ _ _ _) rfl rfl he;exact⟨_,v,h1,h2 A.isNone (fun h=>hA (by simpa using h)),h3⟩
 unfold pk at hv;split at hv
 ·rename_i z sz css _;refine key (n:=css.length) hv.1 (fun b hb=>hv.2 b fun h=>List.length_eq_zero_iff.1 (hb h)) ?_ (cY hb);cases ha with
  |gb _ _ A c _=>exact⟨A,c,rfl,fun _=>rfl⟩
  |sl _ _ _ ad c _ _ _ _ _ _ _ _ _=>exact⟨some ad,c,rfl,fun h=>by cases h⟩
 ·rename_i i m sz n;refine key (n:=n) hv.1 hv.2 ?_ (cY hb);cases ha with
  |ik _ _ _ A _=>exact⟨A,0,rfl,fun _=>rfl⟩
  |rs _ _ _ _ b t c _ _ _ _=>exact⟨some ⟨b,0,none⟩,c,rfl,fun h=>by cases h⟩
 ·obtain⟨v,h1,h2⟩:=G5 (P:=P) (if ne then .neq else .eql) t x y ha hb hv.1;exact⟨_,v,h1,hv.2,h2⟩
-- appends
def bR.append{a b:PH}{x y:PQ}(h:bR w a x)(k:bR w b y):bR w (a++b) (x++y):=by
 refine⟨by simp[h.1,k.1],fun i u v hu hv=>?_⟩;rcases Nat.lt_or_ge i a.length with h1|h1
 ·rw[List.getElem?_append_left h1]at hu;rw[List.getElem?_append_left (by rw[<-h.1];exact h1)]at hv;exact h.2 i u v hu hv
 ·rw[List.getElem?_append_right h1]at hu;rw[List.getElem?_append_right (by rw[<-h.1];exact h1),<-h.1]at hv;exact k.2 _ u v hu hv
def yU(w:NW)(sz:Nat)(v:Value)(ys:PF):Prop:=∃A c news,v=.slice A ys.length c/\bR w ys.flatten news/\(0<ys.length->∃ad,A=some ad/\∀(j:Nat) v,news[j]?=some v->w.cell? (ad.add j)=some v)
variable{sz:Nat}
def uG(A:Option Addr)(c:Nat):yU w sz (.slice A 0 c) []:=⟨A,c,[],rfl,⟨rfl,fun i a v h=>by simp at h⟩,fun h=>by simp at h⟩
variable{ys:PF}
def zf{c:Nat}{ad:Addr}(hl:∀y∈ys,y.length=sz)(h:∀i j,i<ys.length->j<sz->∃v,w.cell? (ad.add (i*sz+j))=some v/\∀u,(ys.getD i [])[j]?=some u->ar w u v):yU w sz (.slice (some ad) ys.length c) ys:=by
 have QT:=j7 hl;refine⟨some ad,c,(List.range (ys.length*sz)).map fun k=>(w.cell? (ad.add k)).getD undef,rfl,⟨by simp[QT],fun k a v ha hv=>?_⟩,fun _=>⟨ad,rfl,fun k v hv=>?_⟩⟩
 ·have hk:k<ys.length*sz:=by have:=(List.getElem?_eq_some_iff.1 ha).1;omega
  obtain⟨i,j,hi,hj,rfl⟩:=uV hk;rw[pM hl hi hj]at ha;obtain⟨v',h1,h2⟩:=h i j hi hj;simp only[List.getElem?_map,List.getElem?_range hk,Option.map_some,Option.some.injEq,h1,Option.getD_some]at hv;subst hv;exact h2 a ha
 ·have hk:k<ys.length*sz:=by have:=(List.getElem?_eq_some_iff.1 hv).1;simpa using this
  obtain⟨i,j,hi,hj,rfl⟩:=uV hk;obtain⟨v',h1,h2⟩:=h i j hi hj;simp only[List.getElem?_map,List.getElem?_range hk,Option.map_some,Option.some.injEq,h1,Option.getD_some]at hv;subst hv;exact h1
variable{css:PF}
def sZ(hw:aH w H){i:Nat}{e:PM}{b t s:Nat}(hi:H.get i=some (.aE e sz css))(hn:w.nm i css.length=some (.at b t s)){k j:Nat}(hk:k<css.length)(hj:j<sz) :
  s=sz/\(∀cs∈css,cs.length=sz)/\css.length*sz<=t/\∃v,w.cell? ⟨b,k*sz+j,none⟩=some v/\∀u,(css.getD k [])[j]?=some u->ar w u v:=by
 obtain⟨hok,z,hz,Qj⟩:=hw.rows i _ hi;have:z=.at b t s:=by have hz:w.nm i css.length=some z:=hz;rw[hn]at hz;cases hz;rfl
 subst this;obtain⟨hs_,cur,hh,⟨hs,hl⟩,hr⟩:=Qj;have hs_:sz=s:=hs_.symm;subst hs_;have QT:(Row.aE e sz css).cells.length=css.length*sz:=j7 hok.2;have h3:=wV hk hj;have h4:k*sz+j<cur.size:=jB;refine⟨rfl,hok.2,jB,cur[k*sz+j],?_,fun u hu=>?_⟩
 ·rw[tj b _ cur _ (0,0) hh];simp[h4]
 ·refine hr (k*sz+j) u _ ?_ (by simp[h4]);show css.flatten[k*sz+j]?=some u;rw[pM hok.2 hk hj];exact hu
def GZ(hw:aH w H){x:AV}{vx:Value}(hx:ar w x vx){c:Prop}(h:sN H x=some (c,ys))(hc:c)(hg:nI sz ys):yU w sz vx ys:=by
 unfold sN at h;split at h
 ·rename_i xx sz' css _;cases h;cases hx with
  |gb=>exact uG _ _
  |sl _ _ _ ad c vs hn QQ hx P5 hb hH I' hr=>
   have hz:sz'=sz:=by rw[<-P5 (ys[0]) (List.getElem_mem hn),(hg _ (List.getElem_mem hn)).1]
   subst hz;exact zf P5 fun i j hi hj=>⟨_,I' i j hi hj,fun u hu=>(hr i j u hi hu).lj⟩
 ·rename_i i m sz' n;split at h
  ·rename_i e sz2 css hi;cases h;obtain⟨rfl,rfl,hn⟩:=hc;cases hx with
   |ik _ _ _ A Qi=>rw[List.take_zero];exact uG _ _
   |rs _ _ _ _ b t c Qi QQ Qa RT=>
    have J':(css.take n).length=n:=by simp;omega
    by_cases h0:n=0
    ·subst h0;rw[List.take_zero];exact uG _ _
    have hz:sz2=sz:=by obtain⟨_,Qm,_⟩:=sZ hw hi Qi (k:=0) (j:=0) jB RT;have h1:(css.take n)[0]' jB∈css.take n:=List.getElem_mem _;rw[<-Qm _ (List.mem_of_mem_take h1),(hg _ h1).1]
    subst hz;have:=zf (w:=w) (sz:=sz2) (c:=c) (ys:=css.take n) (ad:=⟨b,0,none⟩) (fun y hy=>(hg y hy).1) fun i' j Rx hj=>by obtain⟨_,_,_,v,h1,h2⟩:=sZ hw hi Qi (k:=i') (j:=j) jB hj;refine⟨v,by rw[kK,Nat.zero_add];exact h1,fun u hu=>h2 u ?_⟩;rw[<-hu];simp[List.getElem?_take,show i'<n from jB]
    rw[J']at this;exact this
  ·cases h
 ·rename_i i m sz' o n;split at h
  ·rename_i e sz2 css hi;cases h;obtain⟨rfl,rfl,hn⟩:=hc;have J':((css.drop o).take n).length=n:=by simp;omega
   cases hx with
   |kX _ _ _ _ A=>rw[List.take_zero];exact uG _ _
   |rv _ _ _ _ _ b t c Qi Qa=>
    by_cases h0:n=0
    ·subst h0;rw[List.take_zero];exact uG _ _
    have h1:((css.drop o).take n)[0]' jB∈(css.drop o).take n:=List.getElem_mem _;obtain⟨hok,_⟩:=hw.rows i _ hi;have hz:sz2=sz:=by rw[<-hok.2 _ (List.mem_of_mem_drop (List.mem_of_mem_take h1)),(hg _ h1).1]
    subst hz;have:=zf (w:=w) (sz:=sz2) (c:=c) (ys:=(css.drop o).take n) (ad:=⟨b,o*sz2,none⟩) (fun y hy=>(hg y hy).1) fun i' j Rx hj=>by obtain⟨_,_,_,v,h1,h2⟩:=sZ hw hi Qi (k:=o+i') (j:=j) jB hj;refine⟨v,by rw[kK,<-Nat.add_assoc,<-Nat.add_mul];exact h1,fun u hu=>h2 u ?_⟩;rw[<-hu];simp[List.getElem?_take,show i'<n from jB]
    rw[J']at this;exact this
  ·cases h
 ·cases h;have:=cY hx;subst this;exact uG _ _
 ·cases h
def AL{e:PM}(he:ie P t=some e):P.underlying t=some (.slice e):=by unfold ie at he;split at he<;>simp_all
def BJ{e:PM}{zs:PQ}(P5:cR P e=some sz)(hz:dY P e=some zs)(hl:zs.length=sz):∃i z,P.info? e=some i/\i.size=sz/\i.zero=some z/\z.cells.size=sz/\iN P e=i.bytes:=by
 unfold cR at P5;cases hi:P.info? e with
 |none=>rw[hi]at P5;cases P5
 |some i=> rw[hi]at P5;unfold dY at hz;rw[hi]at hz;simp only[Option.bind_some,Option.map_eq_some_iff]at hz;obtain⟨z,T5,Uv⟩:=hz;refine⟨i,z,rfl,by simpa using P5,T5,?_,by simp[iN,hi]⟩;rw[<-hl,<-Uv];simp
def sf(hw:aH w H){i:Nat}{e:PM}{cap:Nat}{cf:PQ}{rest:PO}(h0:0<sz)(J':∀cs∈css,cs.length=sz)(P':bR w css.flatten cf)(Sp:css.length<=cap)(P9:rest.size=(cap-css.length)*sz)
  (Tg:w.nm i css.length=none) (Sl:∀r,H.get i=some r->r.fK<=css.length) :
  ∃w':NW,w'.toWorld=w.drew.alloc (.cells (cf.toArray++rest) e)/\aH w' (H.put i (.aE e sz css))/\Ext w H w' (H.put i (.aE e sz css))/\ar w' (.rs i css.length sz css.length) (.slice (some ⟨w.heap.size,0,none⟩) css.length cap):=by
 have QT:=j7 J';have Ur:cf.length=css.length*sz:=by rw[<-P'.1,QT]
 have P5:(cf.toArray++rest).size=cap*sz:=by simp only[Array.size_append,List.size_toArray,Ur,P9];rw[<-Nat.add_mul];congr 1;omega
 have Qa:=Nat.mul_le_mul_right sz Sp;obtain⟨g1,g2⟩:=uw (row:=.aE e sz css) hw.drew Tg Sl ⟨h0,J'⟩ (cf.toArray++rest) ⟨rfl,by show css.flatten.length<=_;omega⟩ (fun k a v ha hv=>by
  have hi:k<cf.length:=by rw[<-P'.1];exact(List.getElem?_eq_some_iff.1 ha).1
  rw[Array.getElem?_append_left (by simpa using hi)]at hv;exact(P'.2 k a v ha (by simpa using hv)).ext (Ext.drew w H))
 refine⟨_,rfl,g1,(Ext.drew w H).trans g2,?_⟩;exact ar.rs i css.length sz css.length w.heap.size (cf.toArray++rest).size cap (NW.bU _ _ _ _) P5.symm Sp h0
def Er{a x:AV}(h:we P t a x H K):pj P t t a x H K:=by
 intro w va vx ty hw T6 Ww;unfold we at h;split at h;rotate_left
 ·exact h.elim
 rename_i e he;split at h;rotate_left
 ·exact h.elim
 rename_i sz zs c ys Si Wx Uw;obtain⟨⟨SD,h0,hc,hg⟩,h⟩:=h;have hu:=AL he;obtain⟨i,z,hi,QB,SY,Ut,U3⟩:=BJ Si Wx SD;obtain⟨A,cx,news,rfl,QD,Rk⟩:=GZ hw Ww Uw hc hg;have QT:ys.flatten.length=ys.length*sz:=j7 fun y hy=>(hg y hy).1
 have RV:news.length=ys.length*sz:=by rw[<-QD.1,QT]
 have TA:∀m,(Builtin.zeroCells z.cells m).size=m*sz:=fun m=>by simp[Builtin.zeroCells,Ut]
 have Rp:∀need old,need<=grownCap w.toWorld need old e:=fun need old=>by unfold grownCap Question.cut;simp
 have R5:cM ys.flatten=true:=by simp only[cM,List.all_eq_true];intro u Vm;obtain⟨y,hy,Wy⟩:=List.mem_flatten.1 Vm;have:=(hg y hy).2;simp only[cM,List.all_eq_true]at this;exact this u Wy
 have Wz:∀A:Option Addr,ys.length=0->(Builtin.firstCells i.size 0 (.slice A 0 cx)).run P w.toWorld=.ok #[] w.toWorld:=fun A _=>by cases A<;>simp[Builtin.firstCells,loadCells,loadCellsFrom]
 rw[U3]at h;unfold y6 at h;split at h
 ·-- a row of one's own
  rename_i d m sz' n;split at h;rotate_left
  ·exact h.elim
  rename_i e' sz2 css hd;obtain⟨⟨rfl,rfl,rfl,rfl,Vn,Q8,U4⟩,hk⟩:=h;have hk:=Jb hk;have hok:=(hw.rows d _ hd).1;have Qv:∀cs∈gX css n ys,cs.length=sz2:=fun cs h=>by
   unfold gX at h;rcases List.mem_append.1 h with h|h
   ·rcases List.mem_append.1 h with h|h
    ·exact hok.2 _ (List.mem_of_mem_take h)
    ·exact(hg cs h).1
   ·exact hok.2 _ (List.mem_of_mem_drop h)
  have Sq:=j7 hok.2;have Qe:=Gp ys Vn;cases T6 with
  |ik _ _ _ A Qi=>
   -- nowhere yet
   obtain⟨_,z',Q7,Qj⟩:=hw.rows d _ hd;have:z'=.nil:=by have Q7:w.nm d css.length=some z':=Q7;rw[Qi]at Q7;cases Q7;rfl
   subst this;obtain⟨e2,sz3,Qj⟩:=Qj;cases Qj;simp only[gX,List.take_nil,List.drop_nil,List.append_nil,List.nil_append,List.length_nil,Nat.zero_add,Nat.zero_max]at hk Qe;by_cases hy:ys.length=0
   ·have:ys=[]:=List.length_eq_zero_iff.1 hy;subst this;refine⟨w,_,_,.slice A 0 0,?_,hk,?_,.ik _ _ _ _ Qi,?_⟩
    ·cases A<;>simp[Builtin.append_,run_underlying hu,sizeOf,typeInfo,hi,Builtin.lenOf,Wz,storeCells]
    ·refine{ hw with rows:=fun j r hj=>?_,dr:=fun j q z hz=>?_ }
     ·rw[Hp.aW]at hj;split at hj
      ·rename_i e;subst e;exact hw.rows j r (by rw[hd];exact hj)
      ·exact hw.rows j r hj
     ·rw[Hp.aW];split
      ·rename_i e;subst e;obtain⟨r,g1,g2⟩:=hw.dr j q z hz;rw[hd]at g1;cases g1;exact⟨_,rfl,g2⟩
      ·exact hw.dr j q z hz
    ·exact{ Ext.refl w H with base:=rfl }
   ·obtain⟨ad,rfl,I'⟩:=Rk jB;obtain⟨w',e1,g1,g2,g3⟩:=sf (i:=d) (e:=e') (cap:=grownCap w.toWorld ys.length 0 e') (css:=ys) (rest:=Builtin.zeroCells z.cells (grownCap w.toWorld ys.length 0 e'-ys.length)) hw h0 (fun y hy=>(hg y hy).1) QD (Rp _ _) (TA _) (hw.later hd (by show([]:PF).length<_;simp;omega)) (fun r hr=>by rw[hd]at hr;cases hr;exact Nat.zero_le _);refine⟨w',_,_,_,?_,hk,by simpa using g1,by simpa using g3,by simpa using g2⟩;rw[e1];cases A with
    |none=> have:=run_append_nil w.toWorld t ty e' i z hu hi SY ad ys.length cx news (by rw[QB];exact RV) I' jB (by simp at U4;omega) (by simp at Q8;omega);exact this
    |some b=>
     have:=run_append_grow (P:=P) w.toWorld t ty e' i z hu hi SY b 0 0 [] jE (fun j v h=>by simp at h) ad ys.length cx news (by rw[QB];exact RV) I' jB (by simp at U4;simp;omega) (by rw[Nat.zero_add,nextslicecap_zero jB];simp at Q8;omega)
     simpa using this
  |rs _ _ _ _ b t' cap Qi Ta Qa RT=>
   obtain⟨_,z',Q7,Qj⟩:=hw.rows d _ hd;have:z'=.at b t' sz2:=by have Q7:w.nm d css.length=some z':=Q7;rw[Qi]at Q7;cases Q7;rfl
   subst this;obtain⟨_,cur,hh,⟨Q4,P7⟩,Ux⟩:=Qj;have hh:w.heap[b]?=some (.cells cur e' (0,0)):=hh;have P7:css.flatten.length<=t':=P7;have Sp:css.length<=cap:=by rw[Sq,<-Ta]at P7;exact Nat.le_of_mul_le_mul_right P7 h0
   have SE:(css.take n).flatten.length=n*sz2:=by rw[j7 fun c hc=>hok.2 c (List.mem_of_mem_take hc),List.length_take,Nat.min_eq_left Vn]
   have Vo:(css.take n).flatten=css.flatten.take (n*sz2):=by
    have:css.flatten=(css.take n).flatten++(css.drop n).flatten:=by rw[<-List.flatten_append,List.take_append_drop]
    rw[this,<-SE,List.take_left'];rfl
   by_cases Qu:n+ys.length<=cap
   ·-- in place
    have RM:n*sz2+ys.flatten.length<=t':=by rw[QT,<-Nat.add_mul,<-Ta];exact Nat.mul_le_mul_right _ Qu
    obtain⟨w',D',g1,g2,g3⟩:=wx (P:=P) (off:=n*sz2) (r':=.aE e' sz2 (gX css n ys)) hw hd Qi QD R5 RM rfl rfl rfl rfl (by show css.length<=(gX css n ys).length;rw[Qe];omega) ⟨h0,Qv⟩ (by show(gX css n ys).flatten.length<=t';rw[j7 Qv,Qe,<-Ta];exact Nat.mul_le_mul_right _ (Nat.max_le.2 ⟨Sp,Qu⟩)) (fun p u hp=>by
     have hp:(gX css n ys).flatten[p]?=some u:=hp;unfold gX at hp;rw[List.flatten_append,List.flatten_append]at hp;show if _ then _ else css.flatten[p]?=some u
     rcases Nat.lt_or_ge p (n*sz2)with h|h
     ·rw[jN];rw[List.getElem?_append_left (by simp only[List.length_append];omega),List.getElem?_append_left jB,Vo,List.getElem?_take,if_pos h]at hp;exact hp
     ·rcases Nat.lt_or_ge p (n*sz2+ys.flatten.length)with h'|h'
      ·rw[if_pos ⟨h,h'⟩];rw[List.getElem?_append_left (by simp only[List.length_append];omega),List.getElem?_append_right jB,SE]at hp;exact hp
      ·rw[jN];rw[List.getElem?_append_right (by simp only[List.length_append];omega)]at hp;have e2:css.flatten=(css.take (n+ys.length)).flatten++(css.drop (n+ys.length)).flatten:=by rw[<-List.flatten_append,List.take_append_drop]
       have PW:=(List.getElem?_eq_some_iff.1 hp).1;have WA:n+ys.length<=css.length:=by
        rcases Nat.lt_or_ge css.length (n+ys.length)with h6|h6
        ·rw[List.drop_eq_nil_of_le jB]at PW;simp at PW
        ·exact h6
       have e3:(css.take (n+ys.length)).flatten.length=n*sz2+ys.flatten.length:=by rw[j7 fun c hc=>hok.2 c (List.mem_of_mem_take hc),List.length_take,Nat.min_eq_left WA,QT,Nat.add_mul]
       rw[e2,List.getElem?_append_right jB,e3];simp only[List.length_append,SE]at hp;exact hp)
    refine⟨w',_,_,.slice (some ⟨b,0,none⟩) (n+ys.length) cap,?_,hk,g1,?_,g2⟩
    ·have hf:(Builtin.firstCells i.size ys.length (.slice A ys.length cx)).run P w.toWorld=.ok news.toArray w.toWorld:=by
      by_cases h0:ys.length=0
      ·have:news=[]:=by have:=RV;rw[h0,Nat.zero_mul]at this;simpa using this
       subst this;rw[h0];cases A<;>simp[Builtin.firstCells,loadCells,loadCellsFrom]
      ·obtain⟨ad,rfl,I'⟩:=Rk jB;exact run_firstCells_some (P:=P) w.toWorld i.size ys.length ad ys.length cx news (by rw[QB];exact RV) I'
     have TL:(⟨b,0,none⟩:Addr).add (n*sz2)=⟨b,n*sz2,none⟩:=by rw[kK];simp
     rw[QB]at hf;simp[Builtin.append_,run_underlying hu,sizeOf,typeInfo,hi,Builtin.lenOf,Qu,hf,QB,TL,D']
    ·have g3:w'.nm d (max css.length (n+ys.length))=some (.at b t' sz2):=by rw[<-Qe];exact g3
     exact .rs d _ sz2 _ b t' cap g3 Ta Qu RT
   ·-- a new row
    have Q5:0<ys.length:=jB;obtain⟨ad,rfl,I'⟩:=Rk Q5;have Yg:gX css n ys=css.take n++ys:=by unfold gX;rw[List.drop_eq_nil_of_le jB,List.append_nil]
    have TK:max css.length (n+ys.length)=n+ys.length:=Nat.max_eq_right jB;rw[Yg]at hk Qv Qe;rw[TK]at hk Qe;have hold:bR w (css.take n).flatten (cur.toList.take (n*sz2)):=by
     refine⟨by simp only[List.length_take,Array.length_toList];have:=Nat.mul_le_mul_right sz2 Qa;omega,fun k a v T7 hv=>?_⟩;rw[List.getElem?_take]at hv;split at hv
     ·rename_i Yh;rw[Vo,List.getElem?_take,if_pos Yh]at T7;exact Ux k a v T7 (by simpa using hv)
     ·cases hv
    have Qm:=hold.append QD;rw[<-List.flatten_append]at Qm;obtain⟨w',e1,g1,g2,g3⟩:=sf (i:=d) (e:=e') (cap:=grownCap w.toWorld (n+ys.length) cap e') (css:=css.take n++ys) (rest:=Builtin.zeroCells z.cells (grownCap w.toWorld (n+ys.length) cap e'-(n+ys.length))) hw h0 Qv Qm (by rw[Qe];exact Rp _ _) (by rw[Qe];exact TA _) (hw.later hd (by show css.length<_;rw[Qe];omega)) (fun r hr=>by rw[hd]at hr;cases hr;show css.length<=_;rw[Qe];omega);rw[Qe]at g3;refine⟨w',_,_,_,?_,hk,g1,g3,g2⟩;rw[e1];have:=run_append_grow (P:=P) w.toWorld t ty e' i z hu hi SY ⟨b,0,none⟩ n cap (cur.toList.take (n*sz2)) (by rw[<-hold.1,SE,QB]) (fun k v hv=>by
     rw[List.getElem?_take]at hv;split at hv
     ·rw[kK,tj b _ cur e' (0,0) hh,Nat.zero_add];simpa using hv
     ·cases hv) ad ys.length cx news (by rw[QB];exact RV) I' jB jB (growslice_fits jB jB)
    rw[this];congr 3
    apply Array.ext';simp
 ·-- nothing
  obtain⟨⟨Q8,U4⟩,d,hd,hk⟩:=h;have:=cY T6;subst this;by_cases hy:ys.length=0
  ·have:ys=[]:=List.length_eq_zero_iff.1 hy;subst this;obtain⟨g1,g2⟩:=vr hw hd e h0;refine⟨_,_,_,.slice none 0 0,?_,hk,g1,.ik _ _ _ _ (NW.bU _ _ _ _),g2⟩;have:(Builtin.append_ #[t,t] ty #[.slice none 0 0,.slice A 0 cx]).run P w.toWorld=.ok (.slice none 0 0) w.toWorld:=by
    simp[Builtin.append_,run_underlying hu,sizeOf,typeInfo,hi,Builtin.lenOf,Wz,storeCells]
   exact this
  ·obtain⟨ad,rfl,I'⟩:=Rk jB;obtain⟨w',e1,g1,g2,g3⟩:=sf (i:=d) (e:=e) (cap:=grownCap w.toWorld ys.length 0 e) (css:=ys) (rest:=Builtin.zeroCells z.cells (grownCap w.toWorld ys.length 0 e-ys.length)) hw h0 (fun y hy=>(hg y hy).1) QD (Rp _ _) (TA _) (hw.none hd _) (fun r hr=>by rw[hd]at hr;cases hr);refine⟨w',_,_,_,?_,hk,g1,g3,g2⟩;rw[e1];exact run_append_nil w.toWorld t ty e i z hu hi SY ad ys.length cx news (by rw[QB];exact RV) I' jB jB jB
 ·-- a literal
  rename_i sz' css _;obtain⟨⟨rfl,⟨Q8,U4⟩,hor⟩,d,hd,hk⟩:=h;have Qe:(css++ys).length=css.length+ys.length:=List.length_append;cases T6 with
  |gb _ _ A' c' hx=>
   have TM:=hx rfl;subst TM;by_cases hy:ys.length=0
   ·have:ys=[]:=List.length_eq_zero_iff.1 hy;subst this;obtain⟨g1,g2⟩:=vr hw hd e h0;refine⟨_,_,_,.slice A' 0 0,?_,hk,g1,.ik _ _ _ _ (NW.bU _ _ _ _),g2⟩;have:(Builtin.append_ #[t,t] ty #[.slice A' 0 0,.slice A 0 cx]).run P w.toWorld=.ok (.slice A' 0 0) w.toWorld:=by
     cases A'<;>simp[Builtin.append_,run_underlying hu,sizeOf,typeInfo,hi,Builtin.lenOf,Wz,storeCells]
    exact this
   ·obtain⟨ad,rfl,I'⟩:=Rk jB;obtain⟨w',e1,g1,g2,g3⟩:=sf (i:=d) (e:=e) (cap:=grownCap w.toWorld ys.length 0 e) (css:=ys) (rest:=Builtin.zeroCells z.cells (grownCap w.toWorld ys.length 0 e-ys.length)) hw h0 (fun y hy=>(hg y hy).1) QD (Rp _ _) (TA _) (hw.none hd _) (fun r hr=>by rw[hd]at hr;cases hr);refine⟨w',_,_,_,?_,hk,by simpa using g1,by simpa using g3,by simpa using g2⟩;rw[e1];cases A' with
    |none=>exact run_append_nil w.toWorld t ty e i z hu hi SY ad ys.length cx news (by rw[QB];exact RV) I' jB (by simp at U4;omega) (by simp at Q8;omega)
    |some b=>
     have:=run_append_grow (P:=P) w.toWorld t ty e i z hu hi SY b 0 0 [] jE (fun j v h=>by simp at h) ad ys.length cx news (by rw[QB];exact RV) I' jB (by simp at U4;simp;omega) (by rw[Nat.zero_add,nextslicecap_zero jB];simp at Q8;omega)
     simpa using this
  |sl _ _ _ b c' vs hn QQ hx P5 hb hH Uy hr=>
   have Qv:∀cs∈css++ys,cs.length=sz':=fun cs h=>by
    rcases List.mem_append.1 h with h|h
    ·exact P5 _ h
    ·exact(hg cs h).1
   obtain⟨Uz,cur,el,Uo⟩:=hx rfl;subst Uz;have Sq:=j7 P5;have hold:bR w css.flatten ((List.range (css.length*sz')).map vs):=by
    refine⟨by simp[Sq],fun k a v T7 hv=>?_⟩;have hk:k<css.length*sz':=by have:=(List.getElem?_eq_some_iff.1 T7).1;omega
    obtain⟨i',j,Rx,hj,rfl⟩:=uV hk;rw[pM P5 Rx hj]at T7;simp only[List.getElem?_map,List.getElem?_range hk,Option.map_some,Option.some.injEq]at hv;subst hv;exact(hr i' j a Rx T7).lj
   by_cases hy:ys.length=0
   ·
    omega
   ·obtain⟨ad,rfl,I'⟩:=Rk jB;have Qm:=hold.append QD;rw[<-List.flatten_append]at Qm;obtain⟨w',e1,g1,g2,g3⟩:=sf (i:=d) (e:=e) (cap:=grownCap w.toWorld (css.length+ys.length) css.length e) (css:=css++ys) (rest:=Builtin.zeroCells z.cells (grownCap w.toWorld (css.length+ys.length) css.length e-(css.length+ys.length))) hw h0 Qv Qm (by rw[Qe];exact Rp _ _) (by rw[Qe];exact TA _) (hw.none hd _) (fun r hr=>by rw[hd]at hr;cases hr);rw[Qe]at g3;refine⟨w',_,_,_,?_,hk,g1,g3,g2⟩;rw[e1];have:=run_append_grow (P:=P) w.toWorld t ty e i z hu hi SY b css.length css.length ((List.range (css.length*sz')).map vs) (by rw[<-hold.1,Sq,QB]) (fun k v hv=>by
     have hk:k<css.length*sz':=by have:=(List.getElem?_eq_some_iff.1 hv).1;simpa using this
     obtain⟨i',j,Rx,hj,rfl⟩:=uV hk;simp only[List.getElem?_map,List.getElem?_range hk,Option.map_some,Option.some.injEq]at hv;subst hv;exact Uy i' j Rx hj) ad ys.length cx news (by rw[QB];exact RV) I' jB jB (growslice_fits jB jB)
    rw[this];congr 3
    apply Array.ext';simp
 ·exact h.elim
end
section
variable {P:PS}{H:Hp}
variable{w:NW}
def Fp(l:PQ):bR w (l.map .raw) l:=⟨jE,fun i a v ha hv=>by simp only[List.getElem?_map,Option.map_eq_some_iff]at ha;obtain⟨x,hx,rfl⟩:=ha;rw[hx]at hv;cases hv;exact .raw _⟩
variable{f:FuncId}
def HM{a:AV}{v:Value}{first captured:PH}(h:ar w a v)(hf:Ac a=some (f,first,captured)):∃x y:PO,v=.func (.func f) x y/\bR w first x.toList/\bR w captured y.toList:=by
 unfold Ac at hf;split at hf
 ·rename_i f x y;simp only[Option.some.injEq,Prod.mk.injEq]at hf;obtain⟨rfl,rfl,rfl⟩:=hf;exact⟨x,y,cY h,Fp _,Fp _⟩
 ·simp only[Option.some.injEq,Prod.mk.injEq]at hf;obtain⟨rfl,rfl,rfl⟩:=hf;cases h with
  |fJ _ _ vs hl hr=>exact⟨#[],vs,rfl,⟨rfl,fun i a v h=>by simp at h⟩,⟨by simpa using hl,fun i a v h1 h2=>hr i a v h1 (by simpa using h2)⟩⟩
 ·simp only[Option.some.injEq,Prod.mk.injEq]at hf;obtain⟨rfl,rfl,rfl⟩:=hf;cases h with
  |bd _ _ vs hl hr=>exact⟨vs,#[],rfl,⟨by simpa using hl,fun i a v h1 h2=>hr i a v h1 (by simpa using h2)⟩,⟨rfl,fun i a v h=>by simp at h⟩⟩
 ·cases hf
def CF{l:PH}{vs:PQ}(h:bR w l vs):aY w l vs.toArray:=⟨by simpa using h.1,fun i a v ha hv=>h.2 i a v ha (by simpa using hv)⟩
def HZ  (h : bo P f = true) : ∃ fn, P.funcs[f]? = some fn ∧ fn.body.isSome = true ∧ (fn.name == "runtime.NumGoroutine") = false := by
 unfold bo at h;split at h
 ·rename_i fn hf;simp only[Bool.and_eq_true,Bool.not_eq_true']at h;exact⟨fn,hf,h.1,h.2⟩
 ·cases h
variable{R:PE}
def Fq{xs:PO}{l:PH}{o:Oper}(h:(bo P f=true/\cX P f l H R)\/vt P f l H R){a:Act}{next:Act->World->Prop}{Q:Exit->Act->World->Prop}(U5:(execOp a.eval o).run P w.toWorld=(callFunc f xs).run P w.toWorld)(hw:aH w H)(P':aY w l xs)
  (hn:∀(v:Value) (r:AV) (w':NW) (H':Hp),R r H'->aH w' H'->ar w' r v->Ext w H w' H'->next (a.put o.dst v) w'.toWorld):Oper.wp P o a w.toWorld next Q:=by
 rcases h with⟨Qn,hc⟩|Qd
 ·obtain⟨fn,SF,hb,Ti⟩:=HZ Qn;have D':(execOp a.eval o).run P w.toWorld=.ok (.enter f xs) w.toWorld:=by
   have QX:fn.body.isNone=false:=by cases WB:fn.body<;>simp_all
   rw[U5];simp only[callFunc,Sem.run_bind,run_program,Result.andThen_ok,SF,Ti,QX,Bool.false_eq_true,if_false,Sem.run_pure]
  simp only[Oper.wp,D',Oper.upon_enter];refine(hc w _ hw P').mono ?_;rintro e W ⟨v,r,H',w',rfl,rfl,hR,g1,g2,g3⟩;exact hn v r w' H' hR g1 g2 g3
 ·obtain⟨v,w',r,H',D',hR,g1,g2,g3⟩:=Qd w _ hw P';rw[<-U5]at D';simp only[Oper.wp,D',Oper.upon];exact hn v r w' H' hR g1 g2 g3
variable{as:Array Operand}{ts:Array PM}{dst:Option Tmp}{after:Array Edge}{guard:Option (Nat×Bool)}
def wA{f:AV}{args:PH}{fo:Operand}{ty:PM}{pos:String}{ev:PN}(SG:ev fo=f)(T8:as.toList.map ev=args)
  (h:fh P f args H R) {w:NW} {a:Act} {next:Act->World->Prop} {Q:Exit->Act->World->Prop} (hw:aH w H) (hr:∀x,ar w (ev x) (a.eval x))
  (hn:∀(v:Value) (r:AV) (w':NW) (H':Hp),R r H'->aH w' H'->ar w' r v->Ext w H w' H'->next (a.put dst v) w'.toWorld):Oper.wp P ⟨dst,.call ⟨.value fo,as,ts⟩,ty,pos,after,guard⟩ a w.toWorld next Q:=by
 unfold fh at h;split at h
 ·rename_i f first captured hf
  obtain⟨x,y,hv,hx,hy⟩:=HM (SG ▸ hr fo) hf;have QU:as.map a.eval=(as.toList.map a.eval).toArray:=by rw[<-Array.toList_map,Array.toArray_toList]
  refine Fq h ?_ hw (CF ((hx.append (T8 ▸ tM hr as.toList)).append hy)) hn;have e:x++(as.toList.map a.eval).toArray++y=(x.toList++as.toList.map a.eval++y.toList).toArray:=by apply Array.ext';simp
  simp only[execOp,resolve,hv,Deferred.ofValue,pure_bind,invoke,QU,e]
 ·exact h.elim
def IE{t:PM}{m:String}(h:ub P t m=some f)(v:Value)(W:World):(method (P.types.size+Made.depth) t v m).run P W=.ok (f,v) W:=by
 unfold ub at h;split at h;rotate_left
 ·cases h
 rename_i ti e ht hu;split at h;rotate_left
 ·cases h
 rename_i r hr;split at h;rotate_left
 ·cases h
 rename_i hp;split at h;rotate_left
 ·cases h
 rename_i g hf;cases h;have Uo:r.path.toList=[]:=by have:=Array.isEmpty_iff.1 hp;rw[this]
 obtain⟨n,hn⟩:∃n,P.types.size+Made.depth=n+1:=⟨P.types.size+Made.depth-1,by have hd:=(by decide:Made.depth≠0);omega⟩;rw[hn];unfold method;simp only[Sem.run_bind,run_typeInfo W ht,Result.andThen_ok,hr,Uo,follow,Sem.run_pure,hf,receiverAt,run_underlying hu,Place.get]
def yK{x:AV}{m:String}{args:PH}{fo:Operand}{ty:PM}{pos:String}{ev:PN}(SG:ev fo=x)(T8:as.toList.map ev=args)
  (h:vF P x m args H R) {w:NW} {a:Act} {next:Act->World->Prop} {Q:Exit->Act->World->Prop} (hw:aH w H) (hr:∀x,ar w (ev x) (a.eval x))
  (hn:∀(v:Value) (r:AV) (w':NW) (H':Hp),R r H'->aH w' H'->ar w' r v->Ext w H w' H'->next (a.put dst v) w'.toWorld):Oper.wp P ⟨dst,.call ⟨.invoke fo m,as,ts⟩,ty,pos,after,guard⟩ a w.toWorld next Q:=by
 unfold vF at h;split at h;rotate_left
 ·exact h.elim
 rename_i t b;split at h;rotate_left
 ·exact h.elim
 rename_i f hf;have hx:=hr fo;rw[SG]at hx;generalize hv:a.eval fo=v at hx;cases hx with
 |iq _ _ u hu=>
  have QU:as.map a.eval=(as.toList.map a.eval).toArray:=by rw[<-Array.toList_map,Array.toArray_toList]
  have h':(bo P f=true/\cX P f (b::args) H R)\/vt P f (b::args) H R:=by
   have:fh P (.raw (.func (.func f) #[] #[])) (b::args) H R=((bo P f=true/\cX P f (b::args) H R)\/vt P f (b::args) H R):=by show((bo P f=true/\cX P f ([]++(b::args)++[]) H R)\/vt P f ([]++(b::args)++[]) H R)=_;rw[List.nil_append,List.append_nil]
   rw[<-this];exact h
  have hl:bR w (b::args) (u::as.toList.map a.eval):=bR.append (a:=[b]) (x:=[u]) ⟨rfl,fun i p q hp hq=>by
   match i with
   |0=>cases hp;cases hq;exact hu
   |i+1=>simp at hp⟩ (T8 ▸ tM hr as.toList)
  refine Fq h' (xs:=(u::as.toList.map a.eval).toArray) ?_ hw (CF hl) hn;have e0:(#[Value.iface t u]++as.map a.eval)[0]?=some (.iface t u):=by rw[Array.getElem?_append_left (by show 0<1;decide)];rfl
  have e1:(#[Value.iface t u]++as.map a.eval).extract 1 (#[Value.iface t u]++as.map a.eval).size=as.map a.eval:=jE;have e2:#[u]++as.map a.eval=(u::as.toList.map a.eval).toArray:=by apply Array.ext';simp
  simp only[execOp,resolve,pure_bind,invoke,hv,e0,e1,callMethod,Sem.run_bind,run_program,Result.andThen_ok,IE hf,e2]
end
variable{P:PS}
@[congr] theorem jxS{f f':AV}{args args':PH}(h1:f=f')(h2:args=args'):fh P f args H K=fh P f' args' H K:=by rw[h1,h2]
variable{t:PM}
@[congr] theorem jvx:nb P H t K=nb P H t K:=rfl
@[congr] theorem jyX{x x':AV}(h:x=x'):p6 H t x K=p6 H t x' K:=by rw[h]
@[congr] theorem jsB{t':PM}{a a' x x':AV}(h1:a=a')(h2:x=x'):pj P t t' a x H K=pj P t t' a' x' H K:=by rw[h1,h2]
@[congr] theorem jp4{b:Builtin}{ts ts':List PM}{as as':PH}(h1:ts=ts')(h2:as=as'):qV P b ts as H K=qV P b ts' as' H K:=by rw[h1,h2]
def lW(ops:Array Oper)(F:PH)(j:Nat)(want:Bool):Option Bool:=match (ops[j]?).bind (·.dst)with
 |some d=>match F[d]? with
  |some (.raw (.bool b))=>some (b == want)
  |some (.gd g (.raw (.bool b)))=>some (g && (b == want))
  |_=>none
 |none=>none
def bF(F:PH)(x:Operand):AV:=(lc (bV F x)).2
def gr(F:PH)(o:Op):Bool:=o.operands.toList.all fun x=>(lc (bV F x)).1
def ij:Op->Bool
 |.call { callee:=.invoke ..,.. }=>true
 |.binOp .eql ..=>true
 |.binOp .neq ..=>true
 |o=>cW o
def eF(P:PS)(F:PH)(H:Hp)(g:Bool)(K:AV->Prop):Op->Prop
 |.call { callee:=.value f,args,argTypes }=>∃r,(g=true->gr F (.call ⟨.value f,args,argTypes⟩)=true/\fh P (bF F f) (args.toList.map (bF F)) H fun r' H'=>r'=r/\H'=H)/\K (.gd g r)
 |.call { callee:=.invoke f m,args,argTypes }=>∃r,(g=true->gr F (.call ⟨.invoke f m,args,argTypes⟩)=true/\vF P (bF F f) m (args.toList.map (bF F)) H fun r' H'=>r'=r/\H'=H)/\K (.gd g r)
 |.pick c a b=>(g=true->(lc (bV F c)).1=true/\(mO (bF F c) (bV F a) (bV F b)).1)/\K (.gd g (mO (bF F c) (bV F a) (bV F b)).2)
 |o=>if ij o then(g=true->gr F o=true/\(vq P (bF F) H o).1)/\K (.gd g (vq P (bF F) H o).2)else False
def ku:Op->Bool
 |.call { callee:=.value _,.. }=>true
 |_=>false
def kD(P:PS)(ops:Array Oper)(K:PD):List Oper->PD
 |[],F,H=>K F H
 |o::rest,F,H=>match o.guard with
  |none=>vc P (bV F) H o.type (fun r H'=>kD P ops K rest (cn F o.dst r) H') o.op
  |some (j,want)=>match lW ops F j want with
   |some b=>if ku o.op || ij o.op then eF P F H b (fun r=>kD P ops K rest (cn F o.dst r) H) o.op
    else(b=true->vc P (bV F) H o.type (fun r H'=>kD P ops K rest (cn F o.dst r) H') o.op)/\(b=false->kD P ops K rest (cn F o.dst .any) H)
   |none=>False
section
variable {P:PS}{ops:Array Oper}{F:PH}{H:Hp}
variable{K:PD}{w:NW}{tm:PO}
def zR{o:Oper}{ev:PN}(h:vc P ev H o.type (fun r H'=>K (cn F o.dst r) H') o.op){Q:Exit->Act->World->Prop}{next:Act->World->Prop}
  (h1:aH w H) (h2:aY w F tm) (hr:∀x,ar w (ev x) ((Act.mk tm []).eval x))
  (hn:∀Qt (w':NW) F' H',K F' H'->aH w' H'->aY w' F' Qt->Ext w H w' H'->next ⟨Qt,[]⟩ w'.toWorld):o.wp P ⟨tm,[]⟩ w.toWorld next Q:=by
 have quiet:((vq P ev H o.op).1/\K (cn F o.dst (vq P ev H o.op).2) H)->o.wp P ⟨tm,[]⟩ w.toWorld next Q:=fun hq=>by obtain⟨v,D',hv⟩:=xQ o h1 hr hq.1;simp only[Oper.wp,D',Oper.upon];rw[Act.put_eq];exact hn _ w _ H hq.2 h1 (h2.put o.dst hv []) (Ext.refl w H)
 have val:∀{w':NW} {H':Hp} {r:AV} {v:Value},(execOp (Act.mk tm []).eval o).run P w.toWorld=.ok (.value v) w'.toWorld->K (cn F o.dst r) H'->aH w' H'->ar w' r v->Ext w H w' H'->o.wp P ⟨tm,[]⟩ w.toWorld next Q:=fun{w' H' r v} D' hk g1 g2 g3=>by simp only[Oper.wp,D',Oper.upon];rw[Act.put_eq];exact hn _ w' _ H' hk g1 ((h2.ext g3).put o.dst g2 []) g3
 have skip:∀{w':NW} {H':Hp},(execOp (Act.mk tm []).eval o).run P w.toWorld=.ok .skip w'.toWorld->K (cn F o.dst .any) H'->aH w' H'->Ext w H w' H'->o.wp P ⟨tm,[]⟩ w.toWorld next Q:=fun{w' H'} D' hk g1 g3=>by simp only[Oper.wp,D',Oper.upon];rw[Act.put_eq];exact hn _ w' _ H' hk g1 ((h2.ext g3).put o.dst (.any _) []) g3
 have other:iV P o.op o.type ev H (fun r H'=>K (cn F o.dst r) H')->o.wp P ⟨tm,[]⟩ w.toWorld next Q:=fun ho=>by
  obtain⟨w',H',r,hk,g1,g2,g3⟩:=ho w (Act.mk tm []).eval o.dst o.pos o.after o.guard h1 (fun x _=>hr x);rcases g3 with⟨v,D',hv⟩|⟨D',rfl⟩
  ·exact val D' hk g1 hv g2
  ·exact skip D' hk g1 g2
 obtain⟨dst,op,ty,pos,after,guard⟩:=o;have vrun:∀{s:Sem Value} {v:Value} {W:World},s.run P w.toWorld=.ok v W->(do pure (Next.value (<-s)):Sem Next).run P w.toWorld=.ok (.value v) W:=fun hs=>by simp[hs]
 cases op
 case box t x=> obtain⟨ho,i,hi,hk⟩:=h;obtain⟨u,w',D',g0,g1,g2⟩:=Is (P:=P) (t:=t) h1 hi (hr x) ho;exact val (vrun D') hk g1 g0 g2
 case alloc t=>
  simp only[vc,nb]at h;split at h
  ·rename_i zs hz;obtain⟨i,hi,hk⟩:=h;obtain⟨u,w',D',g0,g1,g2⟩:=Lu (P:=P) (t:=t) h1 hi hz;exact val (vrun D') hk g1 g0 g2
  ·exact h.elim
 case store t a x=>
  simp only[vc,ua]at h;split at h
  ·rename_i i m k j n ha hk;split at h
   ·rename_i r hb;obtain⟨⟨s1,s2,s3⟩,P8⟩:=h;have Xy:=hr a;rw[ha]at Xy;obtain⟨w',D',g1,g2⟩:=Mf (P:=P) h1 Xy hb (hr x) s1 hk s2 s3;refine skip ?_ P8 g1 g2;simp only[execOp,Sem.run_bind,D',Result.andThen_ok,Sem.run_pure]
   ·exact h.elim
  ·exact h.elim
 case buildSlice t n parts=>
  have h':mG P H t n (parts.toList.map fun p=>(p.1,ev p.2)) (fun r H'=>K (cn F dst r) H'):=h;obtain⟨w',H',r,v,D',hk,g1,g2,g3⟩:=Mq (P:=P) (parts:=parts.toList.map fun p=>(p.1,ev p.2)) (vparts:=parts.map fun p=>(p.1,(Act.mk tm []).eval p.2)) h1 jE (fun i a v ha hv=>by simp only[List.getElem?_map,Option.map_eq_some_iff,Array.toList_map,Array.getElem?_toList]at ha hv;obtain⟨x,hx,rfl⟩:=ha;obtain⟨y,hy,rfl⟩:=hv;rw[hx]at hy;cases hy;exact hr x.2) h'
  exact val (vrun D') hk g1 g2 g3
 case binOp op t x y t'=>
  cases op
  case eql=> obtain⟨r,v,D',hk,hv⟩:=Gf (P:=P) (K:=fun r H'=>K (cn F dst r) H') false t x y (hr x) (hr y) h;exact val (vrun D') hk h1 hv (Ext.refl w H)
  case neq=> obtain⟨r,v,D',hk,hv⟩:=Gf (P:=P) (K:=fun r H'=>K (cn F dst r) H') true t x y (hr x) (hr y) h;exact val (vrun D') hk h1 hv (Ext.refl w H)
  all_goals exact quiet h
 case call c=>
  obtain⟨callee,args,argTypes⟩:=c;cases callee
  case value f=>
   refine wA rfl rfl h h1 hr fun v r w' H' hk g1 g2 g3=>?_
   rw[Act.put_eq];exact hn _ w' _ H' hk g1 ((h2.ext g3).put dst g2 []) g3
  case invoke r m=>
   refine yK rfl rfl h h1 hr fun v r w' H' hk g1 g2 g3=>?_
   rw[Act.put_eq];exact hn _ w' _ H' hk g1 ((h2.ext g3).put dst g2 []) g3
  case builtin b=>
   have QU:args.map (Act.mk tm []).eval=(args.toList.map (Act.mk tm []).eval).toArray:=by rw[<-Array.toList_map,Array.toArray_toList]
   have bvc:qV P b argTypes.toList (args.toList.map ev) H (fun r H'=>K (cn F dst r) H')->Oper.wp P ⟨dst,.call ⟨.builtin b,args,argTypes⟩,ty,pos,after,guard⟩ ⟨tm,[]⟩ w next Q:=fun hb=>by obtain⟨w',H',r,v,D',hk,g1,g2,g3⟩:=hb w _ ty (args.map fun|.const _=>true|_=>false) h1 (tM hr args.toList);refine val (w':=w') (v:=v) ?_ hk g1 g2 g3;simp only[execOp,resolve,pure_bind,invoke,QU];exact D'
   cases b
   case append=>
    simp only[vc]at h;split at h
    ·rename_i t t' a x ht ha;obtain⟨w',H',r,v,D',hk,g1,g2,g3⟩:=h w _ _ ty h1 (hr a) (hr x);refine val (w':=w') (v:=v) ?_ hk g1 g2 g3;have e1:argTypes=#[t,t']:=by rw[<-Array.toArray_toList (xs:=argTypes),ht]
     have e2:args=#[a,x]:=by rw[<-Array.toArray_toList (xs:=args),ha]
     subst e1 e2;simp only[execOp,resolve,pure_bind,invoke,builtin,Sem.run_bind];have:(#[a,x].map (Act.mk tm []).eval)=#[(Act.mk tm []).eval a,(Act.mk tm []).eval x]:=jE;rw[this,D'];rfl
    ·exact h.elim
   case len=>exact quiet h
   case cap=>exact quiet h
   case max=>exact quiet h
   case min=>exact quiet h
   all_goals exact bvc h
 case move=>exact quiet h
 case assign=>exact quiet h
 case pick=>exact quiet h
 case nilCheck=>exact quiet h
 case unOp=>exact quiet h
 case load=>exact quiet h
 case fieldAddr=>exact quiet h
 case field=>exact quiet h
 case indexAddr=>exact quiet h
 case index=>exact quiet h
 case extract=>exact quiet h
 case slice=>exact quiet h
 case makeFunc=>exact quiet h
 case makeInterface=>exact quiet h
 case convert=>exact quiet h
 case build=>exact quiet h
 all_goals first|exact other h|exact(quiet h)
def pD{o:Oper}(hg:o.guard=none)(h:vc P (bV F) H o.type (fun r H'=>K (cn F o.dst r) H') o.op):l5 P ops o F H K:=fun w tm Q next h1 h2 hn=>by unfold rD;rw[if_pos (by simp[Region.wanted,hg])];exact .inl (zR h h1 h2 (fun x=>h2.eval [] x) hn)
def Io{j:Nat}{want b:Bool}(h:lW ops F j want=some b)(h2:aY w F tm):(yielded ops tm j == some want)=b:=by
 unfold lW at h;split at h
 ·rename_i d hd;split at h<;>try cases h
  ·rename_i b' hF;have PW:d<tm.size:=by rw[<-h2.1];exact(List.getElem?_eq_some_iff.1 hF).1
   have:=cY (h2.2 d _ _ hF (Array.getElem?_eq_getElem PW));unfold yielded;rw[hd,Option.bind_some,Array.getElem?_eq_getElem PW,this];cases b'<;>cases want<;>rfl
  ·rename_i g b' hF;have PW:d<tm.size:=by rw[<-h2.1];exact(List.getElem?_eq_some_iff.1 hF).1
   have hr:=h2.2 d _ _ hF (Array.getElem?_eq_getElem PW);unfold yielded;rw[hd,Option.bind_some,Array.getElem?_eq_getElem PW];cases hr with
   |gd _ _ _ hh hu=>cases g with
    |true=> have:=cY (hh rfl);rw[this];cases b'<;>cases want<;>rfl
    |false=>rw[hu rfl];rfl
 ·cases h
def Av(h2:aY w F tm)(x:Operand)(ok:(lc (bV F x)).1=true):ar w (bF F x) ((Act.mk tm []).eval x):=yZ (h2.eval [] x) ok
def jM(F:PH)(x:Operand):AV:=if(lc (bV F x)).1=true then bF F x else .any
def Ay{f g:PN}{o:Option Operand}(h:∀x∈o.toList,f x=g x):o.map f=o.map g:=by
 cases o with
 |none=>rfl
 |some x=>simp[h x jE]
def tf{ev ev':PN}(o:Op)(h:∀x∈o.operands.toList,ev x=ev' x):vq P ev H o=vq P ev' H o:=by
 cases o
 case call c=>
  obtain⟨callee,args,ts⟩:=c;cases callee
  case builtin b=> simp only[vq];rw[List.map_congr_left (fun x hx=>h x (by simpa[Op.operands,Call.operands]using hx))]
  all_goals rfl
 case slice t a lo hi mx=> simp only[Op.operands]at h;simp only[vq];rw[h a jE,Ay (o:=lo) (fun x hx=>h x (by simp at hx ⊢;simp[hx])),Ay (o:=hi) (fun x hx=>h x (by simp at hx ⊢;simp[hx])),Ay (o:=mx) (fun x hx=>h x (by simp at hx ⊢;simp[hx]))]
 case makeFunc fn a b=> simp only[Op.operands]at h;simp only[vq];rw[List.map_congr_left (l:=a.toList) (fun x hx=>h x (by simp at hx ⊢;simp[hx])),List.map_congr_left (l:=b.toList) (fun x hx=>h x (by simp at hx ⊢;simp[hx]))]
 case build t ps=> simp only[Op.operands]at h;simp only[vq];rw[List.map_congr_left (g:=fun p=>(p.1,ev' p.2)) (fun x hx=>by rw[h x.2 (by simp at hx ⊢;exact⟨_,hx⟩)])]
 all_goals first
  |rfl
  |(simp only[Op.operands]at h;simp only[vq];(repeat rw[h _ jE]))
def rp(h2:aY w F tm)(x:Operand):ar w (jM F x) ((Act.mk tm []).eval x):=by
 unfold jM;split
 ·rename_i h;exact Av h2 x h
 ·exact .any _
def pv{o:Op}(h:gr F o=true):∀x∈o.operands.toList,jM F x=bF F x:=fun x hx=>by unfold jM;rw[if_pos];simp only[gr,List.all_eq_true]at h;exact h x hx
def n7{o:Oper}{j:Nat}{want b:Bool}(hg:o.guard=some (j,want))(hb:lW ops F j want=some b)
  (ht:b=true->∀w tm (Q:Exit->Act->World->Prop) (next:Act->World->Prop),aH w H->aY w F tm->(∀Qt w' F' H',K F' H'->aH w' H'->aY w' F' Qt->Ext w H w' H'->next ⟨Qt,[]⟩ w')->o.wp P ⟨tm,[]⟩ w.toWorld next Q)
  (hf:b=false->∃r,(∀w:NW,ar w r undef)/\K (cn F o.dst r) H):l5 P ops o F H K:=fun w tm Q next h1 h2 hn=>by
 have hy:=Io hb h2;unfold rD;have hw:Region.wanted o (yielded ops (Act.mk tm []).tmps)=b:=by unfold Region.wanted;rw[hg];exact hy
 cases b with
 |true=> rw[if_pos hw];exact .inl (ht rfl w tm Q next h1 h2 hn)
 |false=> rw[if_neg (by rw[hw];exact Bool.false_ne_true)];obtain⟨r,hr,hk⟩:=hf rfl;rw[Act.put_eq];exact hn _ w _ H hk h1 (h2.put o.dst (hr w) []) (Ext.refl w H)
def pn{r:AV}{g:Bool}(hg:g=false)(w:NW):ar w (.gd g r) undef:=.gd _ _ _ (fun h=>by rw[hg]at h;cases h) (fun _=>rfl)
def rq{r:AV}{v:Value}{g:Bool}(hg:g=true)(h:ar w r v):ar w (.gd g r) v:=.gd _ _ _ (fun _=>h) (fun h=>by rw[hg]at h;cases h)
theorem vj{K:PD}:∀(l:List Oper) (F:PH) (H:Hp),kD P ops K l F H->tS P ops K l F H
 |[],F,H,h=>DP h
 |o::rest,F,H,h=>by
  refine D7 ?_;simp only[kD]at h;split at h
  ·rename_i hg;exact(pD (K:=fun F' H'=>kD P ops K rest F' H') hg h).mono fun F' H' hk=>vj rest F' H' hk
  ·rename_i j want hg;split at h
   ·rename_i b hb;split at h
    ·refine l5.mono (K:=fun F' H'=>kD P ops K rest F' H') ?_ fun F' H' hk=>vj rest F' H' hk
     obtain⟨dst,op,ty,pos,after,guard⟩:=o;unfold eF at h;split at h
     ·rename_i f args argTypes So;cases So;obtain⟨r,hc,hk⟩:=h;refine n7 hg hb (fun Qq w tm Q next h1 h2 hn=>?_) (fun Qq=>⟨_,pn Qq,hk⟩);obtain⟨ok,Qn⟩:=hc Qq;have R6:=pv ok;have e1:jM F f=bF F f:=R6 f (by simp[Op.operands,Call.operands]);have e2:args.toList.map (jM F)=args.toList.map (bF F):=List.map_congr_left fun x hx=>R6 x (by simp[Op.operands,Call.operands]at hx ⊢;exact .inr hx)
      refine wA (ev:=jM F) e1 e2 Qn h1 (rp h2) fun v r' w' H' hR g1 g2 g3=>?_
      obtain⟨rfl,rfl⟩:=hR;rw[Act.put_eq];exact hn _ w' _ H' hk g1 ((h2.ext g3).put dst (rq Qq g2) []) g3
     ·rename_i f m args argTypes So;cases So;obtain⟨r,hc,hk⟩:=h;refine n7 hg hb (fun Qq w tm Q next h1 h2 hn=>?_) (fun Qq=>⟨_,pn Qq,hk⟩);obtain⟨ok,Qn⟩:=hc Qq;have R6:=pv ok;have e1:jM F f=bF F f:=R6 f (by simp[Op.operands,Call.operands]);have e2:args.toList.map (jM F)=args.toList.map (bF F):=List.map_congr_left fun x hx=>R6 x (by simp[Op.operands,Call.operands]at hx ⊢;exact .inr hx)
      refine yK (ev:=jM F) e1 e2 Qn h1 (rp h2) fun v r' w' H' hR g1 g2 g3=>?_
      obtain⟨rfl,rfl⟩:=hR;rw[Act.put_eq];exact hn _ w' _ H' hk g1 ((h2.ext g3).put dst (rq Qq g2) []) g3
     ·rename_i c x y So;simp only at So;subst So;obtain⟨hs,hk⟩:=h;refine n7 hg hb (fun Qq w tm Q next h1 h2 hn=>?_) (fun Qq=>⟨_,pn Qq,hk⟩);obtain⟨ok,hq⟩:=hs Qq;obtain⟨v,D',hv⟩:=FG (P:=P) (ρ:=(Act.mk tm []).eval) (dst:=dst) (ty:=ty) (pos:=pos) (after:=after) (guard:=guard) (Av h2 c ok) (h2.eval [] x) (h2.eval [] y) hq;simp only[Oper.wp,D',Oper.upon];rw[Act.put_eq];exact hn _ w _ H hk h1 (h2.put dst (rq Qq hv) []) (Ext.refl w H)
     ·split at h
      ·obtain⟨hs,hk⟩:=h;refine n7 hg hb (fun Qq w tm Q next h1 h2 hn=>?_) (fun Qq=>⟨_,pn Qq,hk⟩);obtain⟨ok,hq⟩:=hs Qq;rw[<-tf _ (pv ok)]at hq;obtain⟨v,D',hv⟩:=xQ (ρ:=(Act.mk tm []).eval) ⟨dst,op,ty,pos,after,guard⟩ h1 (rp h2) hq;simp only[Oper.wp,D',Oper.upon];rw[Act.put_eq];rw[tf _ (pv ok)]at hv;exact hn _ w _ H hk h1 (h2.put dst (rq Qq hv) []) (Ext.refl w H)
      ·exact h.elim
    ·refine l5.mono (K:=fun F' H'=>kD P ops K rest F' H') ?_ fun F' H' hk=>vj rest F' H' hk
     refine n7 hg hb (fun Qq w tm Q next h1 h2 hn=>?_) (fun Qq=>⟨_,fun w=>.any _,h.2 Qq⟩);exact zR (h.1 Qq) h1 h2 (fun x=>h2.eval [] x) hn
   ·exact h.elim
def KM{id:Nat}{l:List Oper}{Q:Exit->PD}(h:kD P l.toArray (Q .normal) l F H):dp P (.region id l.toArray false) Q F H:=
 BP (by simpa using vj l F H h)
-- the results of a body
def iB(P:PS)(H:Hp)(F:PH):List ResultVar->Option PH
 |[]=>some []
 |.tmp t::rest=>(iB P H F rest).map (F.getD t .any::·)
 |.cell a t::rest=>match pi H (F.getD a .any),dm P t,cR P t with
  |some (_,cs),some ag,some k=>(iB P H F rest).map (tn ag k cs::·)
  |_,_,_=>none
def ju(P:PS)(H:Hp)(F:PH):List ResultVar->Prop
 |[]=>True
 |.tmp _::rest=>ju P H F rest
 |.cell a t::rest=>match pi H (F.getD a .any),cR P t with
  |some (c,cs),some k=>(c/\k<=cs.length/\1<=cs.length)/\ju P H F rest
  |_,_=>False
def jd:PH->AV
 |[r]=>r
 |rs=>.ba rs
def ur(tm:PO):ResultVar->Sem Value
 |.tmp t=>pure (tm.getD t undef)
 |.cell a t=>do loadVar t (<-asAddr (tm.getD a undef))
def NR(fn:Func)(tm:PO):results fn tm=(do let vs <-fn.results.mapM (ur tm);pure (if h:vs.size=1 then vs[0]else .tuple vs)):=rfl
theorem zP{w:NW}{tm:PO}(hw:aH w H)(h2:aY w F tm):∀(rs:List ResultVar) (out:PH),ju P H F rs->iB P H F rs=some out->
  ∃vs:PQ,bR w out vs/\(rs.mapM (ur tm)).run P w.toWorld=.ok vs w.toWorld
 |[],out,_,h=>by simp[iB]at h;subst h;exact⟨[],⟨rfl,fun i a v ha=>by simp at ha⟩,jE⟩
 |.tmp t::rest,out,hok,h=>by
  simp only[iB,Option.map_eq_some_iff]at h;obtain⟨l,hl,rfl⟩:=h;obtain⟨vs,P',D'⟩:=zP hw h2 rest l hok hl;refine⟨tm.getD t undef::vs,⟨by simp[P'.1],fun i a v ha hv=>?_⟩,?_⟩
  ·cases i with
   |zero=> simp only[List.getElem?_cons_zero,Option.some.injEq]at ha hv;subst ha hv;exact h2.eval [] (.tmp t)
   |succ i=>exact P'.2 i a v (by simpa using ha) (by simpa using hv)
  ·rw[List.mapM_cons];simp only[ur,Sem.run_bind,Sem.run_pure,Result.andThen_ok];rw[D'];rfl
 |.cell ad t::rest,out,hok,h=>by
  simp only[iB]at h;simp only[ju]at hok;split at h
  ·rename_i c cs ag k e1 e2 e3;rw[e1,e3]at hok;obtain⟨⟨hc,Qg,P1⟩,hok⟩:=hok;simp only[Option.map_eq_some_iff]at h;obtain⟨l,hl,rfl⟩:=h;obtain⟨vs,P',D'⟩:=zP hw h2 rest l hok hl;obtain⟨addr,us,hv,I',hr⟩:=Gw (h2.eval [] (.tmp ad)) hw e1 hc;obtain⟨v,Vp,Yi⟩:=Cc (P:=P) e2 e3 Qg P1 I' hr;have Qp:tm.getD ad undef=.pointer (some addr):=hv;refine⟨v::vs,⟨by simp[P'.1],fun i a u ha hu=>?_⟩,?_⟩
   ·cases i with
    |zero=> simp only[List.getElem?_cons_zero,Option.some.injEq]at ha hu;subst ha hu;exact Yi
    |succ i=>exact P'.2 i a u (by simpa using ha) (by simpa using hu)
   ·rw[List.mapM_cons];have ha:(asAddr (tm.getD ad undef)).run P w.toWorld=.ok addr w.toWorld:=by rw[Qp];rfl
    have hf:(ur tm (.cell ad t)).run P w.toWorld=.ok v w.toWorld:=by simp only[ur,Sem.run_bind,ha,Vp,Result.andThen_ok]
    simp only[Sem.run_bind,hf,D',Sem.run_pure,Result.andThen_ok]
  ·cases h
def JR{fn:Func}{out:PH}(hw:aH w H)(h2:aY w F tm)(hok:ju P H F fn.results.toList)(h:iB P H F fn.results.toList=some out):∃v,(results fn tm).run P w.toWorld=.ok v w.toWorld/\ar w (jd out) v:=by
 obtain⟨vs,P',D'⟩:=zP (P:=P) hw h2 _ out hok h;have hm:(fn.results.mapM (ur tm)).run P w.toWorld=.ok vs.toArray w.toWorld:=by rw[Array.mapM_eq_mapM_toList];simp only[Sem.run_map,D',Result.andThen_ok]
 have hr:(results fn tm).run P w.toWorld=.ok (if h:vs.toArray.size=1 then vs.toArray[0]else .tuple vs.toArray) w.toWorld:=by rw[NR];simp only[Sem.run_bind,hm,Result.andThen_ok,Sem.run_pure]
 refine⟨_,hr,?_⟩;match vs,out,P' with
 |[],[],P'=>exact .ba _ _ rfl fun i a v ha=>by simp at ha
 |[v],[a],P'=>exact P'.2 0 _ _ rfl rfl
 |v::v'::vs,a::a'::out,P'=>exact .ba _ _ (by have:=P'.1;simpa using this) fun i x y hx hy=>P'.2 i x y hx (by simpa using hy)
 |[],_::_,P'=>have:=P'.1;simp at this
 |_::_,[],P'=>have:=P'.1;simp at this
 |[_],_::_::_,P'=>have:=P'.1;simp at this
 |_::_::_,[_],P'=>have:=P'.1;simp at this
def j9(P:PS)(fn:Func)(R:AV->List PU->Prop):Exit->PD
 |.normal,F,H|.ret,F,H=>∃out r H',iB P H F fn.results.toList=some out/\ju P H F fn.results.toList/\gL (jd out) H r H'/\R r H'.l
 |_,_,_=>False
def EP{f:FuncId}{fn:Func}{c:Code}{args:PH}{l:PG}{R:AV->List PU->Prop}(hf:P.funcs[f]?=some fn)(hb:fn.body=some c)(h:dp P c (j9 P fn R) (args++List.replicate (fn.ntmps-args.length) .any) (entry l)) :
  ai P f args l R:=fun w vs h1 h2=>by
 have J':args.length=vs.size:=h2.1;refine calls_of_wp hf hb (wp_mono (h w _ h1 ?_) ?_)
 ·refine⟨by simp[J'],fun i a v ha hv=>?_⟩;rcases Nat.lt_or_ge i args.length with hi|hi
  ·rw[List.getElem?_append_left hi]at ha;rw[Array.getElem?_append_left jB]at hv;exact h2.2 i a v ha hv
  ·rw[List.getElem?_append_right hi]at ha;rw[List.getElem?_replicate]at ha;split at ha<;>cases ha;exact .any _
 ·rintro e a W ⟨tm,F',H',w',rfl,rfl,hq,g1,g2,g3⟩;have fin:(∃out r QC,iB P H' F' fn.results.toList=some out/\ju P H' F' fn.results.toList/\gL (jd out) H' r QC/\R r QC.l)->
    ∃v,(results fn tm).run P w'.toWorld=.ok v w'.toWorld/\∃v' r QC w'',w'.toWorld=NW.toWorld w''/\Ending.returned v=.returned v'/\R r (Hp.l QC)/\aH w'' QC/\ar w'' r v'/\fH w (entry l) w'' QC:=by
   rintro⟨out,r,QC,e1,e0,e2,e3⟩;obtain⟨v,D',hv⟩:=JR g1 g2 e0 e1;obtain⟨w'',k0,k1,k2,k3⟩:=e2 w' v g1 hv;exact⟨v,D',v,r,QC,w'',k0.symm,rfl,e3,k1,k2,g3.trans k3⟩
  cases e with
  |normal=>exact⟨rfl,fin hq⟩
  |ret=>exact⟨rfl,fin hq⟩
  |exit id=>exact hq.elim
  |goto l=>exact hq.elim
  |panic ch=>exact hq.elim
  |outgrown=>exact hq.elim
end
-- encoders of Lean data
class bD{α:Type}(enc:α->List AV)(sz:outParam Nat):Prop where
 len:∀x,(enc x).length=sz
 cM:∀x,cM (enc x)=true
 free:∀x,aS dq (enc x)=true
def QL(q:PR)(css:PF):Prop:=∀cs∈css,aS q cs=true
def pF(q:PR):Row->Prop
 |.var _ cs=>aS q cs=true
 |.aE _ _ css=>QL q css
 |.mp _ vs=>aS q vs=true
theorem zN{q:PR}:∀(a b:PH),aS q (a++b)=(aS q a && aS q b)
 |[],b=>by simp[aS]
 |x::a,b=>by simp[aS,zN a b,Bool.and_assoc]
theorem DT{q:PR}:∀{css:PF},QL q css->aS q css.flatten=true
 |[],_=>rfl
 |cs::css,h=>by rw[List.flatten_cons,zN,h cs jE,DT (css:=css) fun c hc=>h c (by simp[hc])];rfl
variable{q:PR}
def GF{r:Row}(h:pF q r):aS q r.cells=true:=by
 cases r with
 |var t cs=>exact h
 |aE e sz css=>exact DT h
 |mp ks vs=>exact h
def GL(q:PR):QL q []:=fun _ h=>by simp at h
def IY{a b:PF}(h:QL q a)(k:QL q b):QL q (a++b):=fun c hc=>(List.mem_append.1 hc).elim (h c) (k c)
variable{α:Type}
def la{enc:α->PH}[e:bD enc sz](l:List α):QL q (l.map enc):=fun c hc=>by obtain⟨x,_,rfl⟩:=List.mem_map.1 hc;exact eH (fun _ h=>by cases h) _ (e.free x)
def Ij(sz:Nat):nI sz []:=fun _ h=>by simp at h
def Ep{enc:α->PH}[e:bD enc sz](l:List α):nI sz (l.map enc):=fun c hc=>by obtain⟨x,_,rfl⟩:=List.mem_map.1 hc;exact⟨e.len x,e.cM x⟩
-- calls
def fits:List PU->Hp->Prop
 |[],_=>True
 |(i,r)::l,H=>H.get i=some r/\fits l H
theorem FB:∀{l:PG} {H:Hp},fits l H->∀i r,ak l i=some r->H.get i=some r
 |[],_,_,i,r,h=>by cases h
 |(j,s)::l,H,hf,i,r,h=>by
  simp only[ak]at h;split at h
  ·rename_i e;subst e;cases h;exact hf.1
  ·exact FB hf.2 i r h
def qU(q:PR):List PU->Prop
 |[]=>True
 |(_,r)::l=>pF q r/\qU q l
theorem FH{q:PR}:∀{l:PG},qU q l->∀i r,ak l i=some r->aS q r.cells=true
 |[],_,i,r,h=>by cases h
 |(j,s)::l,hf,i,r,h=>by
  simp only[ak]at h;split at h
  ·cases h;exact GF hf.1
  ·exact FH hf.2 i r h
def fresh(L:PK)(H:Hp):List PU->Prop
 |[]=>True
 |(i,_)::l=>(L.contains i=true\/H.get i=none)/\fresh L H l
theorem yW{L:PK}{H:Hp}:∀{l:PG},fresh L H l->∀i r,ak l i=some r->L.contains i=true\/H.get i=none
 |[],_,i,r,h=>by cases h
 |(j,s)::l,hf,i,r,h=>by
  simp only[ak]at h;split at h
  ·rename_i e;subst e;exact hf.1
  ·exact yW hf.2 i r h
section
variable {P:PS}{f:FuncId}{args:PH}{H:Hp}{l:PG}{K:PE}
def HR{R:AV->List PU->Prop}(hc:ai P f args l R)(h1:fits l H)(h2:aS (fun i=>(ids l).contains i) args=true)(h3:qU (fun i=>(ids l).contains i) l)
  (hk:∀r l',R r l'->fresh (ids l) H l'/\(ids l').Nodup/\K r ⟨H.B,fp H.l l'⟩):cX P f args H K:=fun _ _ hw hv=>
 Ax hc (FB h1) h2 (FH h3) (fun r l' hR=>⟨yW (hk r l' hR).1,(hk r l' hR).2⟩) hw hv
def vu{r0:AV}{l0:PG}(hc:ai P f args l fun r l'=>r=r0/\l'=l0)(h1:fits l H)(h2:aS (fun i=>(ids l).contains i) args=true)(h3:qU (fun i=>(ids l).contains i) l)
  (h4:fresh (ids l) H l0) (h5:(ids l0).Nodup) (hk:K r0 ⟨H.B,fp H.l l0⟩):cX P f args H K:=
 HR hc h1 h2 h3 fun r l' ⟨e1,e2⟩=>by rw[e1,e2];exact⟨h4,h5,hk⟩
def xe{r:AV}(hc:dO P f args r)(h2:aS dq args=true)(hk:K r H):cX P f args H K:=
 vu hc trivial (by simpa[ids]using h2) trivial trivial (by simp[ids]) hk
def nB{args:PH}(hc:bo P f=true)(h:cX P f args H K):fh P (.raw (.func (.func f) #[] #[])) args H K:=.inl ⟨hc,by simpa using h⟩
def NL{cs:PH}{args:PH}(hc:bo P f=true)(h:cX P f (args++cs) H K):fh P (.fJ f cs) args H K:=.inl ⟨hc,by simpa using h⟩
end
-- things of which D holds are let go of, and may be read from then on
def er(D:PR):List PU->PG
 |[]=>[]
 |(j,s)::l=>bif D j then er D l else(j,s)::er D l
theorem Cv(D:PR):∀(l:PG) (i:Nat),ak (er D l) i=if D i=true then none else ak l i
 |[],i=>by simp[er,ak]
 |(k,s)::l,i=>by
  have ih:=Cv D l i;unfold er;cases hk:D k
  ·simp only[cond_false,ak];split
   ·rename_i h;subst h;rw[hk];simp
   ·exact ih
  ·simp only[cond_true,ak];rw[ih];split
   ·rfl
   ·rename_i h;rw[if_neg];rintro rfl;exact h hk
def NW.ck(w:NW)(D:PR):NW:={ w with O:=fun b=>w.O b/\∀i m t s,D i=true->w.nm i m≠some (.at b t s),nm:=fun j n=>if D j=true then none else w.nm j n }
def fi(D:PR):PR:=fun i=>!(D i)
def gJ(D:PR):List PU->Prop
 |[]=>True
 |(j,r)::l=>(D j=true\/pF (fi D) r)/\gJ D l
theorem EE{D:PR}:∀{l:PG},gJ D l->∀{i:Nat} {r:Row},ak l i=some r->D i=false->aS (fi D) r.cells=true
 |[],_,i,r,h,_=>by cases h
 |(j,s)::l,hf,i,r,h,hd=>by
  simp only[ak]at h;split at h
  ·rename_i e;subst e;cases h;rcases hf.1 with h|h
   ·rw[hd]at h;cases h
   ·exact GF h
  ·exact EE hf.2 h hd
def rh(w:NW)(D:PR):Keep (fi D) w (w.ck D):=⟨Nat.le_refl _,fun b _ h=>⟨rfl,fun h'=>h h'.1⟩,fun j n z hq h=>by show(if D j=true then none else w.nm j n)=_;rw[if_neg (by unfold fi at hq;intro e;rw[e]at hq;cases hq)];exact h⟩
variable{D:PR}
def FY{w:NW}(r:aH w H)(hB:H.B.all (fi D)=true)(hl:gJ D H.l):aH (w.ck D) ⟨H.B,er D H.l⟩/\fH w H (w.ck D) ⟨H.B,er D H.l⟩:=by
 have QO:∀j n,(w.ck D).nm j n=if D j=true then none else w.nm j n:=fun _ _=>rfl
 have gE:∀j,(Hp.mk H.B (er D H.l)).get j=if D j=true then none else H.get j:=fun j=>Cv D H.l j
 refine⟨{ rows:=fun j s hj=>?_,dr:=fun j n z hz=>?_,inj:=fun j n j' n' b t s t' s' h1 h2=>?_,own:=fun j n b t s h=>?_,fin:=fun b hb=>r.fin b hb.1,ca:=r.ca.aT (rh w D) },{ rh w D with names:=fun j n z hq h=>?_,os:=rfl,tape:=rfl,output:=rfl,rest:=fun b hb hO Qb=>⟨rfl,⟨hO,fun i m t s _=>Qb _ _ _ _⟩,fun j n t s h=>?_⟩,base:=rfl }⟩
 ·rw[gE]at hj;split at hj
  ·cases hj
  ·rename_i e;obtain⟨h1,z,h2,h3⟩:=r.rows j s hj;refine⟨h1,z,by rw[QO,if_neg e];exact h2,?_⟩;cases z with
   |nil=>exact h3
   |«at» b t st=> obtain⟨g1,cur,g2,g3,g5⟩:=h3;exact⟨g1,cur,g2,g3,fun k a v ha hv=>(g5 k a v ha hv).aT (rh w D) (lZ (EE hl hj (by simpa using e)) ha)⟩
 ·rw[QO]at hz;split at hz
  ·cases hz
  ·rename_i e;obtain⟨r',h1,h2⟩:=r.dr j n z hz;exact⟨r',by rw[gE,if_neg e];exact h1,h2⟩
 ·rw[QO]at h1 h2;split at h1
  ·cases h1
  ·split at h2
   ·cases h2
   ·exact r.inj _ _ _ _ _ _ _ _ _ h1 h2
 ·rw[QO]at h;split at h
  ·cases h
  ·rename_i e;exact⟨r.own _ _ _ _ _ h,fun i m t' s' hd h'=>e (by rw[r.inj _ _ _ _ _ _ _ _ _ h h'];exact hd)⟩
 ·have hq:H.B.contains j=true:=hq;have:=List.all_eq_true.1 hB j (List.contains_iff_mem.1 hq);rw[QO,if_neg (by intro e;unfold fi at this;rw[e]at this;cases this)];exact h
 ·rw[QO]at h;split at h
  ·cases h
  ·exact Qb _ _ _ _ h
inductive dz(D:Nat->Bool)(H:Hp):AV->AV->Prop
 |same (a:AV) (h:a.all (fi D)=true):dz D H a a
 |drop (a:AV):dz D H a .any
 |nil (sz:Nat) (d:List AV):dz D H (.raw (.slice none 0 0)) (.sl false sz [] d)
 |lit (x:Bool) (sz:Nat) (css:List (List AV)) (d d':List AV):dz D H (.sl x sz css d) (.sl false sz css d')
 |agg (cs ds:List AV) (hl:cs.length=ds.length) (h:∀(i:Nat) c d,cs[i]?=some c->ds[i]?=some d->dz D H c d):dz D H (.agg cs) (.agg ds)
 |ba (cs ds:List AV) (hl:cs.length=ds.length) (h:∀(i:Nat) c d,cs[i]?=some c->ds[i]?=some d->dz D H c d):dz D H (.ba cs) (.ba ds)
 |A5 (dd:List AV) (i sz m n:Nat) (e:TypeId) (css:List (List AV)) (dss:List (List AV)) (hD:D i=true) (hi:H.get i=some (.aE e sz css)) (hm:m=css.length) (hn:n<=m) (hd:dss.length=n) (SV:∀ds∈dss,ds.length=sz) (Qb:QL dq dss)
   (h:∀k (j:Nat) c d,k<n->(css.getD k [])[j]?=some c->(dss.getD k [])[j]?=some d->dz D H c d):dz D H (.rs i m sz n) (.sl false sz dss dd)
 |pt (i k j:Nat) (t:TypeId) (cs ds:List AV) (hD:D i=true) (hi:H.get i=some (.var t cs)) (hl:(cs.drop j).length=ds.length) (Qb:aS dq ds=true) (h:∀(q:Nat) c d,(cs.drop j)[q]?=some c->ds[q]?=some d->dz D H c d):dz D H (.pt i 0 k j) (.ip ds)
def dz.sound{w:NW}(hw:aH w H){a a':AV}(h:dz D H a a'):∀{v:Value},ar w a v->ar (w.ck D) a' v:=by
 induction h with
 |same a h=>intro v hv;exact hv.aT (rh w D) h
 |drop a=>intro v hv;exact .any v
 |nil sz d=>intro v hv;have:=cY hv;subst this;exact .gb _ _ _ _ (fun e=>by cases e)
 |lit x sz css d d'=>
  intro v hv;have Qp:=hv.aT (rh w D) (by simp only[AV.all]);cases Qp with
  |gb _ _ A c _=>exact .gb _ _ _ _ (fun e=>by cases e)
  |sl _ _ _ a c vs hn hc hx P5 hb hH I' hr=>exact .sl _ _ _ a c vs hn hc (fun e=>by cases e) P5 hb hH I' hr
 |agg cs ds hl _ ih=>
  intro v hv;cases hv with
  |agg _ vs Rc hr=>
   refine .agg ds vs jB fun i d v hd hv=>?_
   have hi:i<cs.length:=by rw[hl];exact(List.getElem?_eq_some_iff.1 hd).1
   have hc:cs[i]?=some cs[i]:=List.getElem?_eq_getElem hi;exact ih i _ d hc hd (hr i _ v hc hv)
 |ba cs ds hl _ ih=>
  intro v hv;cases hv with
  |ba _ vs Rc hr=>
   refine .ba ds vs jB fun i d v hd hv=>?_
   have hi:i<cs.length:=by rw[hl];exact(List.getElem?_eq_some_iff.1 hd).1
   have hc:cs[i]?=some cs[i]:=List.getElem?_eq_getElem hi;exact ih i _ d hc hd (hr i _ v hc hv)
 |A5 dd i sz m n e css dss hD hi hm hn hd SV Qb _ ih=>
  intro v hv;subst hm;cases hv with
  |ik _ _ _ A Qi=> have:dss=[]:=List.length_eq_zero_iff.1 jB;rw[this];exact .gb _ _ _ _ (fun h=>by cases h)
  |rs _ _ _ _ b t c Qi hc Qa RT=>
   by_cases h0:n=0
   ·have:dss=[]:=List.length_eq_zero_iff.1 jB;rw[this,h0];exact .gb _ _ _ _ (fun h=>by cases h)
   ·have hsz0:0<sz:=RT;have:=ar.sl (w:=w.ck D) (d:=dd) false sz dss ⟨b,0,none⟩ c (fun k=>(w.cell? ⟨b,k,none⟩).getD undef) jB jB (fun h=>by cases h) SV (hw.lt Qi) (fun h=>h.2 i _ t sz hD Qi) (fun k j hk hj=>by
     obtain⟨_,_,_,v,h1,h2⟩:=sZ hw hi Qi (k:=k) (j:=j) jB hj;show w.cell? _=_;rw[kK,Nat.zero_add,h1];rfl) (fun k j u hk hu=>by
     have hj:j<sz:=by have:=(List.getElem?_eq_some_iff.1 hu).1;rwa [ug SV hk]at this
     obtain⟨_,Qm,_,v,h1,h2⟩:=sZ hw hi Qi (k:=k) (j:=j) jB hj;have Wa:=ug Qm (show k<css.length from jB);have hc:(css.getD k [])[j]?=some ((css.getD k [])[j]' jB):=List.getElem?_eq_getElem jB;rw[h1];have Qw:dss.getD k []∈dss:=by
      have:dss.getD k []=dss[k]:=by simp[hk]
      rw[this];exact List.getElem_mem _
     exact(ih k j _ u jB hc hu (h2 _ hc)).kq (lZ (Qb _ Qw) hu))
    rw[hd]at this;exact this
 |pt i k j t cs ds hD hi hl Qb _ ih=>
  intro v hv;cases hv with
  |pt _ _ _ _ b t' s Qi=>
   obtain⟨hok,z,hz,Qj⟩:=hw.rows i _ hi;have:z=.at b t' s:=by have hz:w.nm i 0=some z:=hz;rw[Qi]at hz;cases hz;rfl
   subst this;obtain⟨rfl,cur,hh,⟨hs,Qa⟩,hr⟩:=Qj;have RT:(Row.var t cs).bt=0:=rfl;have Qa:cs.length<=t':=Qa;have e0:k*(Row.var t cs).bt+j=j:=by rw[RT];omega
   rw[e0];refine .ip ds ⟨b,j,none⟩ (fun q=>cur.getD (j+q) undef) (hw.lt Qi) (fun h=>h.2 i 0 _ _ hD Qi) (fun q hq=>?_) (fun q u hu=>?_)
   ·show w.cell? _=_;simp only[List.length_drop]at hl;have:j+q<cur.size:=jB;rw[kK,tj b _ cur _ (0,0) hh];simp[this]
   ·have UA:q<(cs.drop j).length:=by rw[hl];exact(List.getElem?_eq_some_iff.1 hu).1
    have hc:(cs.drop j)[q]?=some (cs.drop j)[q]:=List.getElem?_eq_getElem UA;simp only[List.length_drop]at UA;have:j+q<cur.size:=jB;refine(ih q _ u hc hu (hr (j+q) _ _ (by rw[<-List.getElem?_drop];exact hc) ?_)).kq (lZ Qb hu);simp[this]
theorem dz.rs{D:PR}{H:Hp}(dd:PH)(i sz n:Nat)(e:PM)(css:PF)(dss:PF)(hD:D i=true)(hi:H.get i=some (.aE e sz css))(hn:n=css.length)(hd:dss.length=css.length)(SV:∀ds∈dss,ds.length=sz)(Qb:QL dq dss)
  (h:∀k (j:Nat) c d,k<css.length->(css.getD k [])[j]?=some c->(dss.getD k [])[j]?=some d->dz D H c d):dz D H (.rs i n sz n) (.sl false sz dss dd):=
 .A5 dd i sz n n e css dss hD hi hn jl jB SV Qb fun k j c d hk=>h k j c d jB
def dz.row{dd:PH}{i:Nat}{e:PM}{enc:α->PH}[he:bD enc sz](l:List α)(hD:D i=true)(hi:H.get i=some (.aE e sz (l.map enc)))(hn:n=l.length):dz D H (.rs i n sz n) (.sl false sz (l.map enc) dd):=
 .rs dd i sz n e _ _ hD hi (by simpa using hn) rfl (fun ds SV=>by obtain⟨x,_,rfl⟩:=List.mem_map.1 SV;exact he.len x) (la l) fun k j c d hk h1 h2=>by
  rw[h1]at h2;cases h2;have P8:k<l.length:=by simpa using hk
  have e1:(l.map enc).getD k []=enc l[k]:=by simp[P8]
  rw[e1]at h1;exact .same c (ql (fun _ h=>by cases h) _ (lZ (he.free _) h1))
def gL.free{r r':AV}(D:PR)(hB:H.B.all (fi D)=true)(hl:gJ D H.l)(hv:dz D H r r'):gL r H r' ⟨H.B,er D H.l⟩:=fun w v h1 h2=>by obtain⟨a,b⟩:=FY h1 hB hl;exact⟨w.ck D,rfl,a,hv.sound h1 h2,b⟩
def bT(D:PR)(H:Hp):PH->PH->Prop
 |[],[]=>True
 |a::l,b::m=>dz D H a b/\bT D H l m
 |_,_=>False
theorem bT.get{D:PR}{H:Hp}:∀{l m:PH},bT D H l m->l.length=m.length/\∀(i:Nat) a b,l[i]?=some a->m[i]?=some b->dz D H a b
 |[],[],_=>⟨rfl,fun i a b h=>by simp at h⟩
 |x::l,y::m,h=>by
  have ih:=bT.get h.2;refine⟨by simp[ih.1],fun i a b ha hb=>?_⟩;cases i with
  |zero=>simp at ha hb;subst ha hb;exact h.1
  |succ i=>exact ih.2 i a b (by simpa using ha) (by simpa using hb)
theorem bT.agg{D:PR}{H:Hp}{cs ds:PH}(h:bT D H cs ds):dz D H (.agg cs) (.agg ds):=.agg cs ds h.get.1 h.get.2
theorem bT.ba{D:PR}{H:Hp}{cs ds:PH}(h:bT D H cs ds):dz D H (.ba cs) (.ba ds):=.ba cs ds h.get.1 h.get.2
theorem bT.pt{D:PR}{H:Hp}{i k j:Nat}{t:PM}{cs ds:PH}(hD:D i=true)(hi:H.get i=some (.var t cs))(Qb:aS dq ds=true)(h:bT D H (cs.drop j) ds):dz D H (.pt i 0 k j) (.ip ds):=.pt i k j t cs ds hD hi h.get.1 Qb h.get.2
def cU.free{F F':PH}(D:PR)(hB:H.B.all (fi D)=true)(hl:gJ D H.l)(hv:bT D H F F'):cU F H F' ⟨H.B,er D H.l⟩:=fun w tm h1 h2=>by
 obtain⟨a,b⟩:=FY h1 hB hl;obtain⟨Rc,hg⟩:=hv.get;refine⟨w.ck D,rfl,a,⟨by rw[<-Rc];exact h2.1,fun i c v hc hv=>?_⟩,b⟩;have hi:i<F.length:=by rw[Rc];exact(List.getElem?_eq_some_iff.1 hc).1
 exact(hg i F[i] c (List.getElem?_eq_getElem hi) hc).sound h1 (h2.2 i _ v (List.getElem?_eq_getElem hi) hv)
-- what is lent: a function that is Ui nothing of one's own but to read
mutual
def AV.flat:AV->Bool
 |.raw _=>true
 |.any=>true
 |.agg cs=>uD cs
 |.ba cs=>uD cs
 |.gd _ v=>v.flat
 |_=>false
def uD:PH->Bool
 |[]=>true
 |a::l=>a.flat && uD l
end
theorem Am:∀{l:PH},uD l=true->∀{i:Nat} {a:AV},l[i]?=some a->a.flat=true
 |[],_,i,a,h=>by simp at h
 |x::l,hl,i,a,h=>by
  simp only[uD,Bool.and_eq_true]at hl;cases i with
  |zero=>simp at h;subst h;exact hl.1
  |succ i=>exact Am hl.2 (by simpa using h)
theorem ar.flat{w:NW}{a:AV}{v:Value}(h:ar w a v):∀{w':NW},a.flat=true->ar w' a v:=by
 induction h with
 |raw v=>intro w' _;exact .raw v
 |any v=>intro w' _;exact .any v
 |agg cs vs hl _ ih=>intro w' ha;simp only[AV.flat]at ha;exact .agg cs vs hl fun i a v h1 h2=>ih i a v h1 h2 (Am ha h1)
 |ba cs vs hl _ ih=>intro w' ha;simp only[AV.flat]at ha;exact .ba cs vs hl fun i a v h1 h2=>ih i a v h1 h2 (Am ha h1)
 |gd p a v _ hu ih=>intro w' ha;exact .gd p a v (fun hp=>ih hp (by simpa only[AV.flat]using ha)) hu
 |gb=>intro w' ha;simp only[AV.flat]at ha;cases ha
 |sl=>intro w' ha;simp only[AV.flat]at ha;cases ha
 |ip=>intro w' ha;simp only[AV.flat]at ha;cases ha
 |fJ=>intro w' ha;simp only[AV.flat]at ha;cases ha
 |pt=>intro w' ha;simp only[AV.flat]at ha;cases ha
 |ik=>intro w' ha;simp only[AV.flat]at ha;cases ha
 |rs=>intro w' ha;simp only[AV.flat]at ha;cases ha
 |kX=>intro w' ha;simp only[AV.flat]at ha;cases ha
 |rv=>intro w' ha;simp only[AV.flat]at ha;cases ha
 |mr=>intro w' ha;simp only[AV.flat]at ha;cases ha
 |bd=>intro w' ha;simp only[AV.flat]at ha;cases ha
 |iq=>intro w' ha;simp only[AV.flat]at ha;cases ha
 |mv=>intro w' ha;simp only[AV.flat]at ha;cases ha
-- a slot that holds nothing yet, as a row of one's own without elements
theorem cU.nil{F:PH}{H:Hp}(i slot:Nat)(e:PM){sz:Nat}(hi:H.get i=none)(h0:0<sz)(hs:F[slot]?=some (.raw (.slice none 0 0))\/∃x s d,F[slot]?=some (.sl true s x d)/\x=[]):cU F H (F.set slot (.rs i 0 sz 0)) (H.put i (.aE e sz [])):=fun w tm h1 h2=>by
 obtain⟨a,b⟩:=vr h1 hi e h0;refine⟨w.name i 0 .nil,rfl,a,⟨by rw[List.length_set];exact h2.1,fun k c v hc hv=>?_⟩,b.px⟩;rw[List.getElem?_set]at hc;by_cases hk:slot=k
 ·subst hk;rw[if_pos rfl]at hc;split at hc
  ·cases hc;have Qp:∃A,v=.slice A 0 0:=by
    rcases hs with hs|⟨x,s,d,hs,rfl⟩
    ·exact⟨none,by have:=h2.2 slot _ v hs hv;cases this;rfl⟩
    ·have:=h2.2 slot _ v hs hv;cases this with
     |gb _ _ A c hx=>have:=hx rfl;subst this;exact⟨A,rfl⟩
     |sl _ _ _ _ _ _ hn=>simp at hn
   obtain⟨A,rfl⟩:=Qp;exact .ik _ _ _ _ (NW.bU _ _ _ _)
  ·cases hc
 ·rw[if_neg hk]at hc;exact(h2.2 k c v hc hv).ext b
def nth{α:Type}[Inhabited α](l:List α)(i:Nat):α:=l.getD i default
variable{α:Type}{i:Nat}
def dT[Inhabited α]{l:List α}(h:i<l.length):nth l i=l[i]:=by simp[nth,h]
def H8[Inhabited α]{l:List α}(h:i<l.length):l.take (i+1)=l.take i++[nth l i]:=by rw[dT h,List.take_succ_eq_append_getElem h]
variable{β:Type}
def BK[Inhabited α][Inhabited β](f:α->β){l:List α}(h:i<l.length):nth (l.map f) i=f (nth l i):=by rw[dT h,dT (by simpa using h)];simp
@[reducible] def aX{α:Type}[Inhabited α](enc:α->PH)(sz:Nat)(l:List α):AV:=.sl false sz (l.map enc) (enc default)
@[go_sem] def juS:(∀(next:PD) (Q:Exit->PD) (F:PH) (H:Hp),sA next Q .normal F H=next F H)/\(∀(next:PD) (Q:Exit->PD) (F:PH) (H:Hp),sA next Q .ret F H=Q .ret F H)/\(∀(next:PD) (Q:Exit->PD) (id:Nat) (F:PH) (H:Hp),sA next Q (.exit id) F H=Q (.exit id) F H)/\(∀(id:Nat) (Q:Exit->PD) (F:PH) (H:Hp),rC id Q .normal F H=Q .normal F H)/\(∀(id:Nat) (Q:Exit->PD) (F:PH) (H:Hp),rC id Q .ret F H=Q .ret F H):=by and_intros<;>(intros;rfl)
@[go_sem] def jvK(id:Nat)(Q:Exit->PD)(F:PH)(H:Hp):rC id Q (.exit id) F H=Q .normal F H:=by simp[rC]
def AP(K:PE)(_:gq K):PE:=K
def wm(K:AV->Prop)(_:gq K):AV->Prop:=K
@[go_sem] def j1A:(∀(K:PE) (d:gq K) (r:AV) (H:Hp),AP K d r H=K r H)/\(∀(K:AV->Prop) (d:gq K) (r:AV),wm K d r=K r):=by and_intros<;>(intros;rfl)
variable{r:AV}{H:Hp}
def Kt{K:PE}{d:gq K}(h:K r H):AP K d r H:=h
def tD(o:Option Bool)(A:Bool->Prop)(_:gq A):Prop:=match o with
 |some b=>A b
 |none=>False
@[go_sem] def jxT(b:Bool)(A:Bool->Prop)(d:gq A):tD (some b) A d=A b:=(rfl)
def pQ(q:Bool)(A B:Prop)(_:gq A)(_:gq B):Prop:=if q=true then A else B
@[go_sem] def j2N:(∀(A B:Prop) (d:gq A) (e:gq B),pQ true A B d e=A)/\(∀(A B:Prop) (d:gq A) (e:gq B),pQ false A B d e=B)/\(∀{P:PS} {ops:Array Oper} {K:PD} (F:PH) (H:Hp),kD P ops K [] F H=K F H):=by and_intros<;>(intros;rfl)
variable{P:PS}{ops:Array Oper}{K:PD}
@[go_sem] def j23(dst:Option Tmp)(op:Op)(ty:PM)(pos:String)(after:Array Edge)(rest:List Oper)(F:PH)(H:Hp) :
  kD P ops K (⟨dst,op,ty,pos,after,none⟩::rest) F H=vc P (bV F) H ty (AP (fun r H'=>kD P ops K rest (cn F dst r) H') .mk) op:=(rfl)
@[go_sem] def j1s(dst:Option Tmp)(op:Op)(ty:PM)(pos:String)(after:Array Edge)(j:Nat)(want:Bool)(rest:List Oper)(F:PH)(H:Hp) :
  kD P ops K (⟨dst,op,ty,pos,after,some (j,want)⟩::rest) F H=tD (lW ops F j want) (fun b=>pQ (ku op || ij op) (eF P F H b (wm (fun r=>kD P ops K rest (cn F dst r) H) .mk) op)
    ((b=true->vc P (bV F) H ty (AP (fun r H'=>kD P ops K rest (cn F dst r) H') .mk) op)/\(b=false->kD P ops K rest (cn F dst .any) H)) .mk .mk) .mk:=by
 unfold tD pQ;rfl
@[go_sem] def jyT(a:Nat):((a:Int)+1).toNat=a+1:=jB
@[go_sem] def jyU(a b:Nat):((a:Int)-(b:Int)).toNat=a-b:=jB
@[go_sem] def jyV(a:Nat):((a:Int)-1).toNat=a-1:=jB
attribute [go_sem] Int.cast_ofNat_Int
def rk{n:Int}(h:-9223372036854775808<=n/\n<=9223372036854775807):IntKind.i64.wrap n=n:=by have h1:(2:Int) ^ 64=18446744073709551616:=jC;have h2:(2:Int) ^ (64-1)=9223372036854775808:=jC;simp only[IntKind.wrap,IntKind.bits,IntKind.signed,Bool.true_and,h1,h2,decide_eq_true_eq];split<;>omega
variable{fn:Func}{F:PH}
def Ig{f:FuncId}{c:Code}{args:PH}(hf:P.funcs[f]?=some fn)(hb:fn.body=some c)(hF:args++List.replicate (fn.ntmps-args.length) .any=F)
  (h:dp P c (j9 P fn fun r' l'=>r'=r/\l'=[]) F ⟨[],[]⟩):dO P f args r:=EP hf hb (by rw[hF];exact h)
variable{l:PG}{R:AV->List PU->Prop}
def KN{f:FuncId}{c:Code}{args:PH}(hf:P.funcs[f]?=some fn)(hb:fn.body=some c)(hF:args++List.replicate (fn.ntmps-args.length) .any=F){L:PK}(hL:ids l=L)
  (h:dp P c (j9 P fn R) F ⟨L,l⟩):ai P f args l R:=EP hf hb (by rw[hF];subst hL;exact h)
section
variable {P:PS}{ev:PN}{H:Hp}{ty:PM}{K:PE}
@[go_sem] def j4p(x:Operand):vc P ev H ty K (.move x)=K (ev x) H:=by simp[vc,cW,vq]
@[go_sem] def j1n(x:Operand):vc P ev H ty K (.assign x)=K (ev x) H:=by simp[vc,cW,vq]
@[go_sem] def j4q(c a b:Operand):vc P ev H ty K (.pick c a b)=((mO (ev c) (ev a) (ev b)).1/\K (mO (ev c) (ev a) (ev b)).2 H):=by simp[vc,cW,vq]
@[go_sem] def jx0(x:Operand):vc P ev H ty K (.nilCheck x)=((qt P (ev x)).1/\K (qt P (ev x)).2 H):=by simp[vc,cW,vq]
@[go_sem] def j4r(op:UnOp)(t:PM)(x:Operand):vc P ev H ty K (.unOp op t x)=((rE op (ev x)).1/\K (rE op (ev x)).2 H):=by simp[vc,cW,vq]
@[go_sem] def j4o(t:PM)(x:Operand):vc P ev H ty K (.load t x)=((oh P H t (ev x)).1/\K (oh P H t (ev x)).2 H):=by simp[vc,cW,vq]
@[go_sem] def jvz(t:PM)(x:Operand)(f:Nat):vc P ev H ty K (.fieldAddr t x f)=((rz P t (ev x) f).1/\K (rz P t (ev x) f).2 H):=by simp[vc,cW,vq]
@[go_sem] def j2X(t:PM)(x:Operand)(f:Nat):vc P ev H ty K (.field t x f)=((tW P t (ev x) f).1/\K (tW P t (ev x) f).2 H):=by simp[vc,cW,vq]
@[go_sem] def jvA(t:PM)(x i:Operand):vc P ev H ty K (.indexAddr t x i)=((ru P t (ev x) (ev i)).1/\K (ru P t (ev x) (ev i)).2 H):=by simp[vc,cW,vq]
@[go_sem] def j2Y(t:PM)(x i:Operand):vc P ev H ty K (.index t x i)=((rQ P t (ev x) (ev i)).1/\K (rQ P t (ev x) (ev i)).2 H):=by simp[vc,cW,vq]
@[go_sem] def jy2(x:Operand)(i:Nat):vc P ev H ty K (.extract x i)=((uv (ev x) i).1/\K (uv (ev x) i).2 H):=by simp[vc,cW,vq]
@[go_sem] def j2Z(t:PM)(a:Operand)(lo hi mx:Option Operand):vc P ev H ty K (.slice t a lo hi mx)=((rL P t (ev a) (lo.map ev) (hi.map ev) (mx.map ev)).1/\K (rL P t (ev a) (lo.map ev) (hi.map ev) (mx.map ev)).2 H):=by simp[vc,cW,vq]
@[go_sem] def jxZ(fn:Fn)(a b:Array Operand):vc P ev H ty K (.makeFunc fn a b)=((uk fn (a.toList.map ev) (b.toList.map ev)).1/\K (uk fn (a.toList.map ev) (b.toList.map ev)).2 H):=by simp[vc,cW,vq]
@[go_sem] def jy1(s d:PM)(x:Operand):vc P ev H ty K (.convert s d x)=((tZ P s d (ev x)).1/\K (tZ P s d (ev x)).2 H):=by simp[vc,cW,vq]
@[go_sem] def j2W(t:PM)(ps:Array (Nat×Operand)):vc P ev H ty K (.build t ps)=((tO P t (ps.toList.map fun p=>(p.1,ev p.2))).1/\K (tO P t (ps.toList.map fun p=>(p.1,ev p.2))).2 H):=by simp[vc,cW,vq]
@[go_sem] def j63(as:Array Operand)(ts:Array PM):vc P ev H ty K (.call ⟨.builtin .len,as,ts⟩)=((l9 P H .len ts.toList (as.toList.map ev)).1/\K (l9 P H .len ts.toList (as.toList.map ev)).2 H):=by simp[vc,cW,vq]
@[go_sem] def j66(as:Array Operand)(ts:Array PM):vc P ev H ty K (.call ⟨.builtin .max,as,ts⟩)=((l9 P H .max ts.toList (as.toList.map ev)).1/\K (l9 P H .max ts.toList (as.toList.map ev)).2 H):=by simp[vc,cW,vq]
@[go_sem] def j67(as:Array Operand)(ts:Array PM):vc P ev H ty K (.call ⟨.builtin .min,as,ts⟩)=((l9 P H .min ts.toList (as.toList.map ev)).1/\K (l9 P H .min ts.toList (as.toList.map ev)).2 H):=by simp[vc,cW,vq]
@[go_sem] def j6Y(t:PM)(x y:Operand)(t':PM):vc P ev H ty K (.binOp .add t x y t')=((fw P .add t (ev x) (ev y)).1/\K (fw P .add t (ev x) (ev y)).2 H):=by simp[vc,cW,vq]
@[go_sem] def j7c(t:PM)(x y:Operand)(t':PM):vc P ev H ty K (.binOp .sub t x y t')=((fw P .sub t (ev x) (ev y)).1/\K (fw P .sub t (ev x) (ev y)).2 H):=by simp[vc,cW,vq]
@[go_sem] def j68(t:PM)(x y:Operand)(t':PM):vc P ev H ty K (.binOp .mul t x y t')=((fw P .mul t (ev x) (ev y)).1/\K (fw P .mul t (ev x) (ev y)).2 H):=by simp[vc,cW,vq]
@[go_sem] def j7a(t:PM)(x y:Operand)(t':PM):vc P ev H ty K (.binOp .quo t x y t')=((fw P .quo t (ev x) (ev y)).1/\K (fw P .quo t (ev x) (ev y)).2 H):=by simp[vc,cW,vq]
@[go_sem] def j7b(t:PM)(x y:Operand)(t':PM):vc P ev H ty K (.binOp .rem t x y t')=((fw P .rem t (ev x) (ev y)).1/\K (fw P .rem t (ev x) (ev y)).2 H):=by simp[vc,cW,vq]
@[go_sem] def j65(t:PM)(x y:Operand)(t':PM):vc P ev H ty K (.binOp .lss t x y t')=((fw P .lss t (ev x) (ev y)).1/\K (fw P .lss t (ev x) (ev y)).2 H):=by simp[vc,cW,vq]
@[go_sem] def j64(t:PM)(x y:Operand)(t':PM):vc P ev H ty K (.binOp .leq t x y t')=((fw P .leq t (ev x) (ev y)).1/\K (fw P .leq t (ev x) (ev y)).2 H):=by simp[vc,cW,vq]
@[go_sem] def j62(t:PM)(x y:Operand)(t':PM):vc P ev H ty K (.binOp .gtr t x y t')=((fw P .gtr t (ev x) (ev y)).1/\K (fw P .gtr t (ev x) (ev y)).2 H):=by simp[vc,cW,vq]
@[go_sem] def j61(t:PM)(x y:Operand)(t':PM):vc P ev H ty K (.binOp .geq t x y t')=((fw P .geq t (ev x) (ev y)).1/\K (fw P .geq t (ev x) (ev y)).2 H):=by simp[vc,cW,vq]
@[go_sem] def j60:(∀(t:PM) (x y:Operand) (t':PM),vc P ev H ty K (.binOp .eql t x y t')=pk P false t (ev x) (ev y) H K)/\(∀(t:PM) (x y:Operand) (t':PM),vc P ev H ty K (.binOp .neq t x y t')=pk P true t (ev x) (ev y) H K)/\(∀(t:PM) (x:Operand),vc P ev H ty K (.box t x)=p6 H t (ev x) K)/\(∀(t:PM),vc P ev H ty K (.alloc t)=nb P H t K)/\(∀(t:PM) (a x:Operand),vc P ev H ty K (.store t a x)=ua P H t (ev a) (ev x) K)/\(∀(t:PM) (n:Nat) (ps:Array (Nat×Operand)),vc P ev H ty K (.buildSlice t n ps)=mG P H t n (ps.toList.map fun p=>(p.1,ev p.2)) K)/\(∀(f:Operand) (as:Array Operand) (ts:Array PM),vc P ev H ty K (.call ⟨.value f,as,ts⟩)=fh P (ev f) (as.toList.map ev) H K):=by and_intros<;>(intros;rfl)
@[go_sem] def j1m(t:PM)(a x:Operand):vc P ev H ty K (.call ⟨.builtin .append,#[a,x],#[t,t]⟩)=pj P t t (ev a) (ev x) H K:=by simp[vc]
@[go_sem] def jxY(t t':PM)(a x:Operand):vc P ev H ty K (.call ⟨.builtin .append,#[a,x],#[t,t']⟩)=pj P t t' (ev a) (ev x) H K:=by simp[vc]
@[go_sem] def j4n(as:Array Operand)(ts:Array PM):vc P ev H ty K (.call ⟨.builtin .copy,as,ts⟩)=qV P .copy ts.toList (as.toList.map ev) H K:=by simp[vc,cW]
end
section
variable {P:PS}{F:PH}{H:Hp}{g:Bool}{K:AV->Prop}
@[go_sem] def j4w(c a b:Operand):eF P F H g K (.pick c a b)=((g=true->(lc (bV F c)).1=true/\(mO (bF F c) (bV F a) (bV F b)).1)/\K (.gd g (mO (bF F c) (bV F a) (bV F b)).2)):=(rfl)
@[go_sem] def jx2(x:Operand):eF P F H g K (.nilCheck x)=((g=true->gr F (.nilCheck x)=true/\(qt P (bF F x)).1)/\K (.gd g (qt P (bF F x)).2)):=by simp[eF,ij,cW,vq]
@[go_sem] def j4x(op:UnOp)(t:PM)(x:Operand):eF P F H g K (.unOp op t x)=((g=true->gr F (.unOp op t x)=true/\(rE op (bF F x)).1)/\K (.gd g (rE op (bF F x)).2)):=by simp[eF,ij,cW,vq]
@[go_sem] def j4u(t:PM)(x:Operand):eF P F H g K (.load t x)=((g=true->gr F (.load t x)=true/\(oh P H t (bF F x)).1)/\K (.gd g (oh P H t (bF F x)).2)):=by simp[eF,ij,cW,vq]
@[go_sem] def jvB(t:PM)(x:Operand)(f:Nat):eF P F H g K (.fieldAddr t x f)=((g=true->gr F (.fieldAddr t x f)=true/\(rz P t (bF F x) f).1)/\K (.gd g (rz P t (bF F x) f).2)):=by simp[eF,ij,cW,vq]
@[go_sem] def jvC(t:PM)(x i:Operand):eF P F H g K (.indexAddr t x i)=((g=true->gr F (.indexAddr t x i)=true/\(ru P t (bF F x) (bF F i)).1)/\K (.gd g (ru P t (bF F x) (bF F i)).2)):=by simp[eF,ij,cW,vq]
@[go_sem] def j24(t:PM)(x i:Operand):eF P F H g K (.index t x i)=((g=true->gr F (.index t x i)=true/\(rQ P t (bF F x) (bF F i)).1)/\K (.gd g (rQ P t (bF F x) (bF F i)).2)):=by simp[eF,ij,cW,vq]
@[go_sem] def j25(t:PM)(a:Operand)(lo hi mx:Option Operand):eF P F H g K (.slice t a lo hi mx)=((g=true->gr F (.slice t a lo hi mx)=true/\(rL P t (bF F a) (lo.map (bF F)) (hi.map (bF F)) (mx.map (bF F))).1)/\K (.gd g (rL P t (bF F a) (lo.map (bF F)) (hi.map (bF F)) (mx.map (bF F))).2)):=by simp[eF,ij,cW,vq]
@[go_sem] def j7h(as:Array Operand)(ts:Array PM):eF P F H g K (.call ⟨.builtin .len,as,ts⟩)=((g=true->gr F (.call ⟨.builtin .len,as,ts⟩)=true/\(l9 P H .len ts.toList (as.toList.map (bF F))).1)/\K (.gd g (l9 P H .len ts.toList (as.toList.map (bF F))).2)):=by simp[eF,ij,cW,vq]
@[go_sem] def j7d(t:PM)(x y:Operand)(t':PM):eF P F H g K (.binOp .add t x y t')=((g=true->gr F (.binOp .add t x y t')=true/\(fw P .add t (bF F x) (bF F y)).1)/\K (.gd g (fw P .add t (bF F x) (bF F y)).2)):=by simp[eF,ij,cW,vq]
@[go_sem] def j7j(t:PM)(x y:Operand)(t':PM):eF P F H g K (.binOp .lss t x y t')=((g=true->gr F (.binOp .lss t x y t')=true/\(fw P .lss t (bF F x) (bF F y)).1)/\K (.gd g (fw P .lss t (bF F x) (bF F y)).2)):=by simp[eF,ij,cW,vq]
@[go_sem] def j7i(t:PM)(x y:Operand)(t':PM):eF P F H g K (.binOp .leq t x y t')=((g=true->gr F (.binOp .leq t x y t')=true/\(fw P .leq t (bF F x) (bF F y)).1)/\K (.gd g (fw P .leq t (bF F x) (bF F y)).2)):=by simp[eF,ij,cW,vq]
@[go_sem] def j7g(t:PM)(x y:Operand)(t':PM):eF P F H g K (.binOp .gtr t x y t')=((g=true->gr F (.binOp .gtr t x y t')=true/\(fw P .gtr t (bF F x) (bF F y)).1)/\K (.gd g (fw P .gtr t (bF F x) (bF F y)).2)):=by simp[eF,ij,cW,vq]
@[go_sem] def j7f(t:PM)(x y:Operand)(t':PM):eF P F H g K (.binOp .geq t x y t')=((g=true->gr F (.binOp .geq t x y t')=true/\(fw P .geq t (bF F x) (bF F y)).1)/\K (.gd g (fw P .geq t (bF F x) (bF F y)).2)):=by simp[eF,ij,cW,vq]
@[go_sem] def j4v(x:Operand):eF P F H g K (.move x)=((g=true->gr F (.move x)=true)/\K (.gd g (bF F x))):=by simp[eF,ij,cW,vq]
@[go_sem] def j7e(t:PM)(x y:Operand)(t':PM):eF P F H g K (.binOp .eql t x y t')=((g=true->gr F (.binOp .eql t x y t')=true/\(fw P .eql t (bF F x) (bF F y)).1)/\K (.gd g (fw P .eql t (bF F x) (bF F y)).2)):=by simp[eF,ij,vq]
@[go_sem] def j7k(t:PM)(x y:Operand)(t':PM):eF P F H g K (.binOp .neq t x y t')=((g=true->gr F (.binOp .neq t x y t')=true/\(fw P .neq t (bF F x) (bF F y)).1)/\K (.gd g (fw P .neq t (bF F x) (bF F y)).2)):=by simp[eF,ij,vq]
@[go_sem] def j4t(f:Operand)(as:Array Operand)(ts:Array PM):eF P F H g K (.call ⟨.value f,as,ts⟩)=∃r,(g=true->gr F (.call ⟨.value f,as,ts⟩)=true/\fh P (bF F f) (as.toList.map (bF F)) H fun r' H'=>r'=r/\H'=H)/\K (.gd g r):=(rfl)
@[go_sem] def j3g:(∀(t:Tmp),bV F (.tmp t)=F.getD t .any)/\(∀(v:Value),bV F (.const v)=.raw v)/\(∀(f:FuncId),bV F (.func f)=.raw (.func (.func f) #[] #[]))/\(∀(d:Tmp) (a:AV),cn F (some d) a=F.set d a)/\(∀(a:AV),cn F none a=F):=by and_intros<;>(intros;rfl)
end
@[go_sem] def j0P(len s:Nat)(i:Int)(f:Nat->AV):vS (some (len,s)) i f=(0<=i/\i<len,f (i.toNat*s)):=(rfl)
attribute [go_sem] bF gr lc lW ku ij cW mO qt wJ xL wD fw rE oh pi rz tW yz ru rQ uv qe rL G3 uk yu tZ sX yp vo l9 qs tO ua pk mG jQ
attribute [go_sem] cM Op.operands Call.operands v7
section
@[go_sem] def jzr:(∀(cs:PH),(AV.agg cs).cells=cs)/\(∀(k:IntKind) (n:Int),(AV.raw (.int k n)).cells=[.raw (.int k n)])/\(∀(s:PL),(AV.raw (.string s)).cells=[.raw (.string s)])/\(∀(a:Option Addr) (n c:Nat),(AV.raw (.slice a n c)).cells=[.raw (.slice a n c)])/\(∀(x:Bool) (sz:Nat) (css:PF) (d:PH),(AV.sl x sz css d).cells=[.sl x sz css d])/\(∀(i m k j:Nat),(AV.pt i m k j).cells=[.pt i m k j])/\(∀(i m k j:Nat),(AV.rs i m k j).cells=[.rs i m k j])/\(∀(k:IntKind) (n:Int),(AV.raw (.int k n)).one=true)/\(∀(s:PL),(AV.raw (.string s)).one=true)/\(∀(a:Option Addr) (n c:Nat),(AV.raw (.slice a n c)).one=true)/\(∀(x:Bool) (sz:Nat) (css:PF) (d:PH),(AV.sl x sz css d).one=true)/\(∀(i m k j:Nat),(AV.pt i m k j).one=true)/\(∀(i m k j:Nat),(AV.rs i m k j).one=true):=by and_intros<;>(intros;rfl)
end
attribute [go_sem] Hp.get Hp.put ak bf yy fp entry ids sN y6 we room xg yO lL
attribute [go_sem] AV.all aS dq AV.flat uD pF qU fits fresh gJ er fi CA Eh bT
@[go_sem] def jz2(sz:Nat):nI sz []=True:=by simp[Ij]
@[go_sem] def jyD(sz:Nat)(cs:PH)(css:PF):nI sz (cs::css)=((cs.length=sz/\cM cs=true)/\nI sz css):=by simp[nI]
@[go_sem] def jz1(enc:α->PH)(sz:Nat)[bD enc sz](l:List α):nI sz (l.map enc)=True:=by simp[Ep]
@[go_sem] def j36(q:PR):QL q []=True:=by simp[GL]
@[go_sem] def j2I(q:PR)(cs:PH)(css:PF):QL q (cs::css)=(aS q cs=true/\QL q css):=by simp[QL]
@[go_sem] def jyQ(q:PR)(a b:PF):QL q (a++b)=(QL q a/\QL q b):=by apply propext;exact⟨fun h=>⟨fun c hc=>h c (List.mem_append_left _ hc),fun c hc=>h c (List.mem_append_right _ hc)⟩,fun h=>IY h.1 h.2⟩
variable{sz:Nat}
@[go_sem] def j35(q:PR)(enc:α->PH)[bD enc sz](l:List α):QL q (l.map enc)=True:=by simp[la]
@[go_sem] def jzZ[Inhabited α](enc:α->PH)(l:List α)(k:Nat)(h:k<l.length):(l.map enc).getD k []=enc (nth l k):=by simp[nth,h]
@[go_sem] def jyC[Inhabited α](enc:α->PH)(l:List α)(k:Nat):(l.map enc).getD k (enc default)=enc (nth l k):=by unfold nth;rcases Nat.lt_or_ge k l.length with h|h<;>simp[h]
@[go_sem] def j0C(enc:α->PH)(l:List α)(k:Nat):(l.map enc).take k=(l.take k).map enc:=jE
@[go_sem] def j08(l:List α):l.take l.length=l:=jE
@[go_sem] def jwX(f:α->β)(l:List α):(l.map f).length=l.length:=jE
@[go_sem] def jsH(a b:List α):(a++b).length=a.length+b.length:=jE
@[go_sem] def jw5(f:α->β)(a b:List α):(a++b).map f=a.map f++b.map f:=jE
@[go_sem] def jth(i:Nat):([]:PK).contains i=false:=(rfl)
@[go_sem] def jsD(i j:Nat)(l:PK):(j::l).contains i=(i == j || l.contains i):=List.contains_cons
@[go_sem] def jxw(e e':PM)(sz sz':Nat)(a b:PF):(Row.aE e sz a=Row.aE e' sz' b)=(e=e'/\sz=sz'/\a=b):=jE
@[go_sem] def jxv(e e':PM)(a b:PH):(Row.var e a=Row.var e' b)=(e=e'/\a=b):=jE
attribute [go_sem] List.getD_cons_zero List.getD_cons_succ List.getD_nil List.set_cons_zero List.set_cons_succ List.set_nil List.map_nil List.map_cons List.getElem?_cons_zero List.getElem?_cons_succ List.getElem?_nil List.getElem?_toArray List.all_nil List.all_cons List.append_nil List.nil_append List.cons_append List.length_cons List.length_nil List.take_succ_cons List.take_zero List.take_nil List.drop_succ_cons List.drop_zero List.drop_nil List.flatten_nil List.flatten_cons
def Ml(b:Bool):(b == true)=b:=by cases b<;>rfl
def KU(b:Bool):(b == false)=!b:=by cases b<;>rfl
attribute [go_sem] if_true if_false true_and and_true false_and and_false Option.map_some Option.map_none Option.getD_some Option.getD_none Option.bind_some Option.bind_none Option.isSome_some Option.isNone_some Option.isNone_none Option.some.injEq Bool.and_true Bool.true_and Bool.and_self Bool.not_true Bool.not_false Ml KU Bool.false_eq_true Bool.true_eq_false reduceCtorEq imp_self implies_true forall_const or_true true_or or_self or_false false_or not_true_eq_false not_false_eq_true eq_self ne_eq and_self List.foldl_cons List.foldl_nil Bool.not_eq_true' Bool.or_true Bool.or_false Bool.true_or Bool.false_or decide_true decide_false Nat.zero_add Nat.add_zero Nat.le_refl Int.toNat_natCast
@[go_sem] def jyb(c x:Bool):vn c x false=(c && x):=by cases c<;>rfl
@[go_sem] def jzp(c y:Bool):vn c true y=(c || y):=by cases c<;>rfl
@[go_sem] def jy9(b:Bool):(false ^^ b)=b:=by cases b<;>rfl
@[go_sem] def j1x(b:Bool):(true ^^ b)=!b:=by cases b<;>rfl
@[go_sem] def jsC(id id':Nat)(Q:Exit->PD)(F:PH)(H:Hp):rC id Q (.exit id') F H=if id'=id then Q .normal F H else Q (.exit id') F H:=(rfl)
def mm(J:List (Nat×AV))(F:PH):PH:=J.foldl (fun F p=>F.set p.1 p.2) F
attribute [go_sem] mm l8 D3 List.replicate_succ List.replicate_zero
def Next(n:Nat){S:Type}(W:List (Nat×Nat))(ok:S->Prop)(J:S->List (Nat×AV))(G:S->Hp)(μ:S->Nat)(F₀ F:PH)(H:Hp):Prop:=∃s,μ s<n/\cU F H (mm (J s) (l8 W F₀)) (G s)/\ok s
variable{n:Nat}{W:List (Nat×Nat)}{F₀:PH}
def dZ{S:Type}{ok:S->Prop}{J:S->List (Nat×AV)}{G:S->Hp}{μ:S->Nat}(s:S)(h1:ok s)(h2:μ s<n)(h4:H=G s)(h3:jm F (mm (J s) (l8 W F₀))):Next n W ok J G μ F₀ F H:=⟨s,h2,by rw[<-h4];exact cU.pt H h3,h1⟩
def zb{S:Type}{ok:S->Prop}{J:S->List (Nat×AV)}{G:S->Hp}{μ:S->Nat}(D:PR)(s:S)(h1:ok s)(h2:μ s<n)(hB:H.B.all (fi D)=true)(hl:gJ D H.l)(h4:⟨H.B,er D H.l⟩=G s)(h3:bT D H F (mm (J s) (l8 W F₀))):Next n W ok J G μ F₀ F H:=⟨s,h2,by rw[<-h4];exact cU.free D hB hl h3,h1⟩
def dR{c:Code}{Q:Exit->PD}{S:Type}(W:List (Nat×Nat))(ok:S->Prop)(J:S->List (Nat×AV))(G:S->Hp)(μ:S->Nat)(s₀:S)(h0:ok s₀)(Qa:cU F H (mm (J s₀) (l8 W F)) (G s₀))
  (round:∀s,ok s->∀K:PD,(∀F' H',Next (μ s) W ok J G μ F F' H'->K F' H')->dp P c (sA K Q) (mm (J s) (l8 W F)) (G s)):dp P (.loop c) Q F H:=by
 refine J1 (S:=S) (fun s F' H'=>F'=mm (J s) (l8 W F)/\H'=G s/\ok s) μ s₀ Qa ⟨rfl,rfl,h0⟩ ?_;rintro s F' H' ⟨rfl,rfl,hok⟩;refine round s hok _ ?_;rintro F'' QC ⟨s',h1,h2,h3⟩;exact⟨s',_,_,h1,h2,rfl,rfl,h3⟩
def dS{F':PH}{H':Hp}(h1:H=H')(h2:jm F F'):cU F H F' H':=by rw[<-h1];exact cU.pt H h2
variable{out:PH}
def rN{e:Exit}(he:e=.normal\/e=.ret)(ho:iB P H F fn.results.toList=some out)(hok:ju P H F fn.results.toList)(r:AV)(H':Hp)(Qa:gL (jd out) H r H')(hR:R r H'.l):j9 P fn R e F H:=by rcases he with rfl|rfl<;>exact⟨out,r,H',ho,hok,Qa,hR⟩
variable{t:PM}{K:PE}{zs:PQ}
def wP(i:Nat)(hz:dY P t=some zs)(hi:H.get i=none)(h:K (.pt i 0 0 0) (H.put i (.var t (zs.map .raw)))):nb P H t K:=by unfold nb;rw[hz];exact⟨i,hi,h⟩
def x9{x:AV}(i:Nat)(ho:cM x.cells=true)(hi:H.get i=none)(h:K (.pt i 0 0 0) (H.put i (.var t x.cells))):p6 H t x K:=⟨ho,i,hi,h⟩
def yf:List PU->Nat->Nat
 |[],m=>m
 |(i,_)::l,m=>yf l (if m<=i then i+1 else m)
def nx(l:PG):Nat:=yf l 0
theorem GV:∀(l:PG) (m i:Nat),yf l m<=i->ak l i=none/\m<=i
 |[],m,i,h=>⟨rfl,h⟩
 |(j,r)::l,m,i,h=>by
  obtain⟨h1,h2⟩:=GV l _ i h;simp only[ak];split at h2
  ·rw[jN];exact⟨h1,jB⟩
  ·rw[jN];exact⟨h1,h2⟩
def xY(l:PG)(i:Nat)(h:nx l<=i):ak l i=none:=(GV l 0 i h).1
attribute [go_sem] yf
attribute [go_sem] nx
@[go_sem] def jxg:((none:Option Operand).toArray.toList=[])/\(∀(x:Operand),(some x).toArray.toList=[x]):=by and_intros<;>(intros;rfl)
def Pw{A:Nat->Prop}{d:gq A}(h:A (nx H.l)):tN H A d:=⟨_,xY _ _ jl,h⟩
def Ov(hz:dY P t=some zs)(h:K (.pt (nx H.l) 0 0 0) (H.put (nx H.l) (.var t (zs.map .raw)))):nb P H t K:=wP _ hz (xY _ _ jl) h
def LO{x:AV}(ho:cM x.cells=true)(h:K (.pt (nx H.l) 0 0 0) (H.put (nx H.l) (.var t x.cells))):p6 H t x K:=x9 _ ho (xY _ _ jl) h
variable{css:PF}
def Ou{e:PM}(h1:aS dq css.flatten=true)(h2:K (.sl true sz css []) H):qo e sz css H K:=.inl ⟨h1,h2⟩
def AR{e:PM}(i:Nat)(h0:0<sz)(hi:H.get i=none)(h2:K (.rs i css.length sz css.length) (H.put i (.aE e sz css))):qo e sz css H K:=.inr ⟨h0,i,hi,h2⟩
def JQ{e:PM}(h0:0<sz)(h2:K (.rs (nx H.l) css.length sz css.length) (H.put (nx H.l) (.aE e sz css))):qo e sz css H K:=AR _ h0 (xY _ _ jl) h2
def HW{e:PM}(h0:0<sz)(h2:K (.rs (nx H.l) 0 sz 0) (H.put (nx H.l) (.aE e sz []))):qo e sz [] H K:=JQ h0 h2
def gj(a a':AV):Prop:=∀(w:NW) v,ar w a v->ar w a' v
def gj.refl(a:AV):gj a a:=fun _ _ h=>h
theorem gj.sl{x:Bool}{sz:Nat}{css:PF}{d d':PH}:gj (.sl x sz css d) (.sl false sz css d'):=fun w v hr=>by
 cases hr with
 |gb _ _ A c _=>exact .gb _ _ _ _ (fun e=>by cases e)
 |sl _ _ _ a c vs hn hc hx P5 hb hH I' hr=>exact .sl _ _ _ a c vs hn hc (fun e=>by cases e) P5 hb hH I' hr
def gj.nil{d:PH}:gj (.raw (.slice none 0 0)) (.sl false sz [] d):=fun w v hr=>by have:=cY hr;subst this;exact .gb _ _ _ _ (fun e=>by cases e)
def oU:PH->PH->Prop
 |[],[]=>True
 |a::l,b::m=>gj a b/\oU l m
 |_,_=>False
theorem oU.get:∀{l m:PH},oU l m->l.length=m.length/\∀(i:Nat) a b,l[i]?=some a->m[i]?=some b->gj a b
 |[],[],_=>⟨rfl,fun i a b h=>by simp at h⟩
 |x::l,y::m,h=>by
  have ih:=oU.get h.2;refine⟨by simp[ih.1],fun i a b ha hb=>?_⟩;cases i with
  |zero=>simp at ha hb;subst ha hb;exact h.1
  |succ i=>exact ih.2 i a b (by simpa using ha) (by simpa using hb)
attribute [go_sem] jd
@[go_sem] def jyB(l:PH)(n m:Nat):(l.drop n).getD m .any=l.getD (n+m) .any:=by simp[List.getD_eq_getElem?_getD]
attribute [go_sem] List.drop_drop List.length_drop Array.toList_append
def I0{e:Exit}(he:e=.normal\/e=.ret)(ho:iB P H F fn.results.toList=some out)(hok:ju P H F fn.results.toList)(h1:jd out=r)(h2:H.l=l):j9 P fn (fun r' l'=>r'=r/\l'=l) e F H:=
 rN he ho hok r H (gL.of_eq H h1) ⟨rfl,h2⟩
def O9{e:Exit}(D:PR)(he:e=.normal\/e=.ret)(ho:iB P H F fn.results.toList=some out)(hok:ju P H F fn.results.toList)(hB:H.B.all (fi D)=true)(hl:gJ D H.l)(hv:dz D H (jd out) r)(h2:er D H.l=l):j9 P fn (fun r' l'=>r'=r/\l'=l) e F H:=
 rN he ho hok r _ (gL.free D hB hl hv) ⟨rfl,h2⟩
def xI{D:PR}{a a':AV}(h:a=a')(hq:a.all (fi D)=true):dz D H a a':=by subst h;exact .same _ hq
def lO(B:PK):PR:=fun i=>!(B.contains i)
def Pp{e:Exit}(he:e=.normal\/e=.ret)(ho:iB P H F fn.results.toList=some out)(hok:ju P H F fn.results.toList)(hl:gJ (lO H.B) H.l)(hv:dz (lO H.B) H (jd out) r)(h2:er (lO H.B) H.l=l):j9 P fn (fun r' l'=>r'=r/\l'=l) e F H:=
 O9 (lO H.B) he ho hok (by rw[List.all_eq_true];intro x hx;simp[fi,lO,hx]) hl hv h2
attribute [go_sem] iB ju
def C3{e:Exit}(rs:List ResultVar)(RF:fn.results.toList=rs)(he:e=.normal\/e=.ret)(ho:iB P H F rs=some out)(hok:ju P H F rs)(hl:gJ (lO H.B) H.l)(hv:dz (lO H.B) H (jd out) r)(h2:er (lO H.B) H.l=l):j9 P fn (fun r' l'=>r'=r/\l'=l) e F H:=by subst RF;exact Pp he ho hok hl hv h2
def J9{e:Exit}(rs:List ResultVar)(RF:fn.results.toList=rs)(he:e=.normal\/e=.ret)(ho:iB P H F rs=some out)(hok:ju P H F rs)(h1:jd out=r)(h2:H.l=l):j9 P fn (fun r' l'=>r'=r/\l'=l) e F H:=by subst RF;exact I0 he ho hok h1 h2
attribute [go_sem] lO cond_true cond_false tn
def yo{S:Type}{ok:S->Prop}{J:S->List (Nat×AV)}{G:S->Hp}{μ:S->Nat}(L:PK)(s:S)(h1:ok s)(h2:μ s<n)(hB:H.B.all (fi fun i=>L.contains i)=true)(hl:gJ (fun i=>L.contains i) H.l)(h4:⟨H.B,er (fun i=>L.contains i) H.l⟩=G s)(h3:bT (fun i=>L.contains i) H F (mm (J s) (l8 W F₀))):Next n W ok J G μ F₀ F H:=zb _ s h1 h2 hB hl h4 h3
def Ib{D:PR}(a:AV):dz D H a .any:=.drop a
@[go_sem] def jxR(i:Nat)(e:PM)(m sz:Nat)(css ys:PF)(H:Hp)(K:PE):sn i e m sz m css ys H K=K (.rs i (m+ys.length) sz (m+ys.length)) (H.put i (.aE e sz (css++ys))):=if_pos rfl
def MW{enc:α->PH}(vars more ys:List α){e:PM}{m:Nat}{yss:PF}(hm:m=vars.length+more.length)(hn:n=vars.length)(hc:css=(vars++more).map enc)(hy:yss=ys.map enc)
  (h:K (.rs i (vars.length+ys.length+(more.drop ys.length).length) sz (vars.length+ys.length)) (H.put i (.aE e sz ((vars++ys++more.drop ys.length).map enc)))):sn i e m sz n css yss H K:=by
 subst hm hn hc hy;unfold sn;split
 ·rename_i h';have:more=[]:=List.length_eq_zero_iff.1 jB;subst this;simpa using h
 ·have e1:max (vars.length+more.length) (vars.length+(ys.map enc).length)=vars.length+ys.length+(more.drop ys.length).length:=by simp;omega
  have e2:gX ((vars++more).map enc) vars.length (ys.map enc)=(vars++ys++more.drop ys.length).map enc:=by
   unfold gX;rw[<-List.map_take,List.take_left',<-List.map_drop,List.length_map,List.drop_append,List.drop_eq_nil_of_le jB,List.nil_append]
   ·simp
   ·rfl
  rw[e1,e2];simpa using h
def HG{b c:Bool}(h:b=c):AV.raw (.bool b)=AV.raw (.bool c):=by rw[h]
def Lp{k:IntKind}{b c:Int}(h:b=c):AV.raw (.int k b)=AV.raw (.int k c):=by rw[h]
section
variable {P:PS}{ops:Array Oper}{H:Hp}
def wk(ops:Array Oper)(o:Oper)(F G:PH):Prop:=(∀x∈o.op.operands.toList,bV G x=bV F x)/\∀j b,o.guard=some (j,b)->lW ops G j b=lW ops F j b
def QV(P:PS)(ops:Array Oper)(o:Oper)(F:PH)(H:Hp)(r:AV):Prop:=∀G,wk ops o F G->l5 P ops o G H fun F' H'=>F'=cn G o.dst r/\H'=H
variable{K:PE}
def xS{f:AV}{args:PH}{K':PE}(h:fh P f args H K)(hk:∀r H,K r H->K' r H):fh P f args H K':=by
 unfold fh at*;split at h
 ·rcases h with h|h
  ·exact .inl ⟨h.1,h.2.mono hk⟩
  ·exact .inr fun w vs h1 h2=>by obtain⟨v,w',r,H',e,k,g⟩:=h w vs h1 h2;exact⟨v,w',r,H',e,hk _ _ k,g⟩
 ·exact h.elim
def oA(P:PS)(t:PM)(n:Nat)(parts:List (Nat×AV))(K:AV->Prop):Prop:=match ie P t with
 |some e=>match cR P e with
  |some sz=>((parts.length=n/\v7 sz 0 parts/\n*sz<=16777216/\(n*sz=0\/(dY P e).isSome=true))/\aS dq (lL parts).flatten=true)/\K (.sl true sz (lL parts) [])
  |none=>False
 |none=>False
variable{t:PM}{n:Nat}{parts:List (Nat×AV)}
def OC(h:oA P t n parts fun r=>K r H):mG P H t n parts K:=by
 unfold oA at h;unfold mG;split at h
 ·rename_i e he;split at h
  ·rename_i sz hs;try simp only[he,hs]
   exact⟨h.1.1,.inl ⟨h.1.2,h.2⟩⟩
  ·exact h.elim
 ·exact h.elim
variable{K:AV->Prop}
def zg(h:oA P t n parts K):∃r,K r/\∀K':AV->Prop,K' r->oA P t n parts K':=by
 unfold oA at h;split at h
 ·rename_i e he;split at h
  ·rename_i sz hs;exact⟨_,h.2,fun K' hk=>by unfold oA;rw[he];simp only[hs];exact⟨h.1,hk⟩⟩
  ·exact h.elim
 ·exact h.elim
def nK:Op->Bool
 |.binOp .eql ..=>true
 |.binOp .neq ..=>true
 |_=>false
variable{o:Oper}{F:PH}
def MY{K:PD}(hg:o.guard=none)(hq:(vq P (bV F) H o.op).1)(hk:K (cn F o.dst (vq P (bV F) H o.op).2) H):l5 P ops o F H K:=
 H5 hg (OI (K:=fun r H'=>K (cn F o.dst r) H') hq hk)
def uc(hg:o.guard=none)(hq:(vq P (bV F) H o.op).1):QV P ops o F H (vq P (bV F) H o.op).2:=fun G hG=>by have e:vq P (bV G) H o.op=vq P (bV F) H o.op:=tf _ hG.1;exact MY hg (by rw[e];exact hq) ⟨by rw[e],rfl⟩
variable{dst:Option Tmp}{after:Array Edge}
def GD{f:Operand}{args:Array Operand}{ts:Array PM}{ty:PM}{pos:String}{r:AV}(h:fh P (bV F f) (args.toList.map (bV F)) H fun r' H'=>r'=r/\H'=H) :
  QV P ops ⟨dst,.call ⟨.value f,args,ts⟩,ty,pos,after,none⟩ F H r:=fun G hG=>by
 refine pD (K:=fun F' H'=>F'=cn G dst r/\H'=H) rfl ?_;show fh P (bV G f) (args.toList.map (bV G)) H _;rw[hG.1 f (by simp[Op.operands,Call.operands]),List.map_congr_left (g:=bV F) (fun x hx=>hG.1 x (by simp[Op.operands,Call.operands]at hx ⊢;exact .inr hx))];exact xS h fun r' H' ⟨e1,e2⟩=>⟨by rw[e1],e2⟩
def A7{parts:Array (Nat×Operand)}{ty:PM}{pos:String}{r:AV}(h:oA P t n (parts.toList.map fun p=>(p.1,bV F p.2)) fun r'=>r'=r) :
  QV P ops ⟨dst,.buildSlice t n parts,ty,pos,after,none⟩ F H r:=fun G hG=>by
 refine pD (K:=fun F' H'=>F'=cn G dst r/\H'=H) rfl ?_;show mG P H t n (parts.toList.map fun p=>(p.1,bV G p.2)) (fun r_1 H'=>cn G dst r_1=cn G dst r/\H'=H);rw[List.map_congr_left (g:=fun p=>(p.1,bV F p.2)) (fun x hx=>by rw[hG.1 x.2 (by simp[Op.operands]at hx ⊢;exact⟨_,hx⟩)])];refine OC ?_;obtain⟨r',e,hk⟩:=zg h;subst e;exact hk _ ⟨rfl,rfl⟩
variable{G:PH}
def BD(o:Op)(h:∀x∈o.operands.toList,bV G x=bV F x):gr G o=gr F o:=by unfold gr;rw[Bool.eq_iff_iff,List.all_eq_true,List.all_eq_true];constructor<;>intro hh x hx<;>have:=hh x hx<;>rw[h x hx]at*<;>exact this
def vO:Op->Bool
 |.pick ..=>true
 |.call { callee:=.invoke ..,.. }=>true
 |_=>false
def xU{g:Bool}(o:Op)(h:ku o=false)(hp:vO o=false):eF P F H g K o=if ij o then(g=true->gr F o=true/\(vq P (bF F) H o).1)/\K (.gd g (vq P (bF F) H o).2)else False:=by
 cases o
 case call c=>
  obtain⟨callee,args,ts⟩:=c;cases callee
  case value f=>cases h
  case invoke f m=>cases hp
  all_goals rfl
 case pick=>cases hp
 all_goals rfl
def Bx{g:Bool}{o:Op}(h:eF P F H g K o):∃r,K (.gd g r)/\∀(G:PH) (K':AV->Prop),(∀x∈o.operands.toList,bV G x=bV F x)->K' (.gd g r)->eF P G H g K' o:=by
 cases hc:ku o with
 |false=>
  by_cases hp:vO o=true
  ·cases o<;>try cases hp
   case call c=>
    obtain⟨callee,args,ts⟩:=c;cases callee<;>try cases hp
    rename_i f m;obtain⟨r,h1,h2⟩:=h;refine⟨r,h2,fun G K' hG hk=>⟨r,fun hg=>⟨BD _ hG ▸ (h1 hg).1,?_⟩,hk⟩⟩;have he:∀x∈(Op.call ⟨.invoke f m,args,ts⟩).operands.toList,bF G x=bF F x:=fun x hx=>by unfold bF;rw[hG x hx]
    rw[he f (by simp[Op.operands,Call.operands]),List.map_congr_left (g:=bF F) (fun x hx=>he x (by simp[Op.operands,Call.operands]at hx ⊢;exact .inr hx))];exact(h1 hg).2
   rename_i c a b;refine⟨_,h.2,fun G K' hG hk=>?_⟩;have he:∀x∈(Op.pick c a b).operands.toList,bF G x=bF F x:=fun x hx=>by unfold bF;rw[hG x hx]
   show(g=true->(lc (bV G c)).1=true/\(mO (bF G c) (bV G a) (bV G b)).1)/\K' (.gd g (mO (bF G c) (bV G a) (bV G b)).2);rw[hG c (by simp[Op.operands]),hG a (by simp[Op.operands]),hG b (by simp[Op.operands]),he c (by simp[Op.operands])];exact⟨h.1,hk⟩
  have hp:vO o=false:=by simpa using hp
  rw[xU o hc hp]at h;split at h
  ·rename_i hq;refine⟨_,h.2,fun G K' hG hk=>?_⟩;have he:∀x∈o.operands.toList,bF G x=bF F x:=fun x hx=>by unfold bF;rw[hG x hx]
   rw[xU o hc hp,if_pos hq,tf _ he,BD o hG];exact⟨h.1,hk⟩
  ·exact h.elim
 |true=>
  cases o<;>try cases hc
  rename_i c;obtain⟨callee,args,ts⟩:=c;cases callee<;>try cases hc
  rename_i f;obtain⟨r,h1,h2⟩:=h;refine⟨r,h2,fun G K' hG hk=>⟨r,fun hg=>⟨BD _ hG ▸ (h1 hg).1,?_⟩,hk⟩⟩;have he:∀x∈(Op.call ⟨.value f,args,ts⟩).operands.toList,bF G x=bF F x:=fun x hx=>by unfold bF;rw[hG x hx]
  rw[he f (by simp[Op.operands,Call.operands]),List.map_congr_left (g:=bF F) (fun x hx=>he x (by simp[Op.operands,Call.operands]at hx ⊢;exact .inr hx))];exact(h1 hg).2
def zG{j:Nat}{want b:Bool}{r:AV}(hg:o.guard=some (j,want))(hb:lW ops F j want=some b)(hq:(ku o.op || ij o.op)=true)(h:eF P F H b (fun r'=>r'=r) o.op):QV P ops o F H r:=fun G hG=>by
 have hv:kD P ops (fun F' H'=>F'=cn G o.dst r/\H'=H) [o] G H:=by simp only[kD,hg,hG.2 j want hg,hb,hq,if_true];obtain⟨r',h1,h2⟩:=Bx h;exact h2 G _ hG.1 ⟨by rw[h1],trivial⟩
 have hs:=vj [o] G H hv;intro w tm Q next h1 h2 hn;have:=hs w tm (fun e a w=>match e with|.normal=>next a w|e=>Q e a w) h1 h2 hn;simp only[wpList]at this;unfold rD;split
 ·rename_i hw;rw[if_pos hw]at this;rcases this with h|⟨ha,hl⟩
  ·refine .inl ?_;unfold Oper.wp at*;generalize (execOp (Act.mk tm []).eval o).run P w=res at*;cases res with
   |ok n w'=>
    cases n<;>simp only[Oper.upon]at h ⊢
    case enter f args=>exact Calls.mono h fun e w'' he=>by cases e<;>exact he
    all_goals exact h
   |halt x w'=>cases x<;>simp only[Oper.upon]at h ⊢;exact h
  ·exact .inr ⟨ha,hl⟩
 ·rename_i hw;rw[if_neg hw]at this;exact this
def po(P:PS)(ops:Array Oper)(H:Hp)(K:PH->Prop):List Oper->PH->Prop
 |[],F=>K F
 |o::rest,F=>match o.guard with
  |none=>match o.op with
   |.call { callee:=.value f,args,.. }=>∃r,(fh P (bV F f) (args.toList.map (bV F)) H fun r' H'=>r'=r/\H'=H)/\po P ops H K rest (cn F o.dst r)
   |.buildSlice t n parts=>oA P t n (parts.toList.map fun p=>(p.1,bV F p.2)) fun r=>po P ops H K rest (cn F o.dst r)
   |op=>(vq P (bV F) H op).1/\po P ops H K rest (cn F o.dst (vq P (bV F) H op).2)
  |some (j,want)=>match lW ops F j want with
   |some b=>(ku o.op || ij o.op)=true/\eF P F H b (fun r=>po P ops H K rest (cn F o.dst r)) o.op
   |none=>False
def yd(P:PS)(ops:Array Oper)(H:Hp)(K:PH->Prop):List Oper->PH->PH->Prop
 |[],F,rs=>rs=[]/\K F
 |o::rest,F,rs=>∃r QJ,rs=r::QJ/\QV P ops o F H r/\yd P ops H K rest (cn F o.dst r) QJ
theorem Cl{K:PH->Prop}:∀(l:List Oper) (F:PH),po P ops H K l F->∃rs,yd P ops H K l F rs
 |[],F,h=>⟨[],rfl,h⟩
 |o::rest,F,h=>by
  have mk:∀r,QV P ops o F H r->po P ops H K rest (cn F o.dst r)->∃rs,yd P ops H K (o::rest) F rs:=fun r h1 h2=>by obtain⟨rs,h3⟩:=Cl rest _ h2;exact⟨r::rs,r,rs,rfl,h1,h3⟩
  obtain⟨dst,op,ty,pos,after,guard⟩:=o;cases guard with
  |none=>
   unfold po at h;simp only at h;split at h
   ·obtain⟨r,h1,h2⟩:=h;exact mk r (GD h1) h2
   ·rename_i t n parts;obtain⟨r,h1,h2⟩:=zg h;exact mk r (A7 (h2 _ rfl)) h1
   ·exact mk _ (uc rfl h.1) h.2
  |some g=>
   obtain⟨j,want⟩:=g;unfold po at h;simp only at h;split at h
   ·rename_i b hb;obtain⟨hq,hv⟩:=h;obtain⟨r,h1,h2⟩:=Bx hv;exact mk _ (zG rfl hb hq (r:=.gd b r) (h2 F _ (fun _ _=>rfl) rfl)) h1
   ·exact h.elim
-- the order
def FL(os:List Oper)(rs:PH)(L:PR)(F:PH):Nat->PH
 |0=>F
 |m+1=>if L m then cn (FL os rs L F m) ((os[m]?).bind (·.dst)) (rs.getD m .any)else FL os rs L F m
def kT(os:List Oper)(rs:PH)(L:PR)(F:PH)(s:Nat):Nat->AV
 |0=>F.getD s .any
 |m+1=>if L m=true/\(os[m]?).bind (·.dst)=some s then rs.getD m .any else kT os rs L F s m
theorem kR(os:List Oper)(rs:PH)(L:PR)(F:PH):∀m,(FL os rs L F m).length=F.length
 |0=>rfl
 |m+1=>by
  unfold FL;split
  ·rw[<-kR os rs L F m];cases(os[m]?).bind (·.dst)<;>simp[cn]
  ·exact kR os rs L F m
theorem rJ(os:List Oper)(rs:PH)(L:PR)(F:PH){s:Nat}(hs:s<F.length):∀m,(FL os rs L F m).getD s .any=kT os rs L F s m
 |0=>rfl
 |m+1=>by
  have ih:=rJ os rs L F hs m;have hl:=kR os rs L F m;unfold FL kT;cases hd:(os[m]?).bind (·.dst)with
  |none=>
   have Qb:¬(L m=true/\(none:Option Tmp)=some s):=fun h=>by have:=h.2;cases this
   rw[if_neg Qb];cases hL:L m
   ·exact ih
   ·exact ih
  |some d=>
   cases hL:L m
   ·simpa using ih
   ·simp only[if_true,cn,true_and,Option.some.injEq];by_cases e:d=s
    ·subst e;simp[hl,hs]
    ·rw[if_neg e];have:(List.set (FL os rs L F m) d (rs.getD m .any)).getD s .any=(FL os rs L F m).getD s .any:=by simp[List.getElem?_set,e]
     rw[this,ih]
variable{os:List Oper}
def CK{rs:PH}{L L':PR}{m m':Nat}(hG:G.length=F.length)(h:∀s,s<F.length->G.getD s .any=kT os rs L F s m):G=FL os rs L F m:=by
 refine List.ext_getElem? fun s=>?_
 rcases Nat.lt_or_ge s F.length with hs|hs
 ·have h1:=h s hs;rw[<-rJ os rs L F hs m]at h1;have h2:G[s]?=some (G.getD s .any):=by simp[hG,hs]
  have h3:(FL os rs L F m)[s]?=some ((FL os rs L F m).getD s .any):=by simp[kR,hs]
  rw[h2,h3,h1]
 ·rw[List.getElem?_eq_none jB,List.getElem?_eq_none (by rw[kR];omega)]
def looks(os:List Oper)(o:Oper):PK:=
 (o.op.operands.toList.filterMap fun|.tmp t=>some t|_=>none)++
 (match o.guard with
   |some (g,_)=>((os[g]?).bind (·.dst)).toList
   |none=>[])
def pH:PK->PK
 |[]=>[]
 |x::l=>if(pH l).contains x then pH l else x::pH l
theorem Bv{x:Nat}:∀{l:PK},x∈pH l<->x∈l
 |[]=>Iff.rfl
 |y::l=>by
  have ih:x∈pH l<->x∈l:=Bv;unfold pH;split
  ·rename_i h;rw[ih,List.mem_cons];refine⟨.inr,fun h'=>h'.elim (fun e=>?_) id⟩;subst e;exact ih.1 (List.contains_iff_mem.1 h)
  ·rw[List.mem_cons,List.mem_cons,ih]
def mj(Q6:List PK)(o:Oper):List PK:=Q6++[pH ((o.after.toList.filter (Region.binds .any)).flatMap fun e=>e.on::Q6.getD e.on [])]
def jR(os:List Oper):List PK:=os.foldl mj []
def su(os:List Oper)(a b:Oper):Bool:=
 (match a.dst with
   |some d=>(looks os b).contains d || b.dst == some d
   |none=>false) ||
 (match b.dst with
   |some d=>(looks os a).contains d
   |none=>false)
def tg(os:List Oper):Bool:=
 let ps:=jR os
 (List.range os.length).all fun j=>match os[j]? with
  |some b=>(b.after.toList.all fun e=>!Region.binds .any e || decide (e.on<j)) &&
   (List.range j).all fun i=>match os[i]? with
    |some a=>!su os a b || (ps.getD j []).contains i
    |none=>true
  |none=>true
theorem zr:∀(os:List Oper) (Q6:List PK) (j:Nat),j<Q6.length->(os.foldl mj Q6)[j]?=Q6[j]?
 |[],Q6,j,_=>rfl
 |o::os,Q6,j,h=>by simp only[List.foldl_cons];rw[zr os _ j (by simp[mj];omega)];unfold mj;rw[List.getElem?_append_left h]
theorem G1:∀(os:List Oper) (Q6:List PK) (j:Nat) (o:Oper),os[j]?=some o->(os.foldl mj Q6).getD (Q6.length+j) []=pH ((o.after.toList.filter (Region.binds .any)).flatMap fun e=>e.on::(if e.on<Q6.length+j then(os.foldl mj Q6).getD e.on []else[]))
 |[],Q6,j,o,h=>by simp at h
 |o'::os,Q6,0,o,h=>by
  simp only[List.getElem?_cons_zero,Option.some.injEq]at h;subst h;simp only[List.foldl_cons,Nat.add_zero];have h1:(os.foldl mj (mj Q6 o')).getD Q6.length []=pH ((o'.after.toList.filter (Region.binds .any)).flatMap fun e=>e.on::Q6.getD e.on []):=by rw[List.getD_eq_getElem?_getD,zr os _ _ (by simp[mj])];unfold mj;rw[List.getElem?_append_right jl];simp
  rw[h1];congr 2
  funext e
  congr 1
  split
  ·rename_i PW;rw[List.getD_eq_getElem?_getD,List.getD_eq_getElem?_getD,zr os _ _ (by simp[mj];omega)];unfold mj;rw[List.getElem?_append_left PW]
  ·rename_i hge;rw[List.getD_eq_getElem?_getD,List.getElem?_eq_none jB];rfl
 |o'::os,Q6,j+1,o,h=>by
  simp only[List.foldl_cons];have:=G1 os (mj Q6 o') j o (by simpa using h);have e:(mj Q6 o').length+j=Q6.length+(j+1):=by simp[mj];omega
  rw[e]at this;exact this
def FQ{j:Nat}(h:os[j]?=some o):(jR os).getD j []=pH ((o.after.toList.filter (Region.binds .any)).flatMap fun e=>e.on::(if e.on<j then(jR os).getD e.on []else[])):=by have:=G1 os [] j o h;simp only[List.length_nil,Nat.zero_add]at this;exact this
def mN(os:List Oper)(L:PR):Prop:=∀j o,os[j]?=some o->L j=true->∀e∈o.after.toList,Region.binds .any e=true->L e.on=true
def uq{L:PR}(hc:mN os L)(PW:∀j o,os[j]?=some o->∀e∈o.after.toList,Region.binds .any e=true->e.on<j):∀n j,j<n->∀o,os[j]?=some o->(∀e∈o.after.toList,Region.binds .any e=true->L e.on=true)->∀i∈(jR os).getD j [],L i=true:=by
 intro n;induction n with
 |zero=>intro j hj;omega
 |succ n ih=>
  intro j hj o ho hL i hi;rw[FQ ho,Bv]at hi;obtain⟨e,he,hi⟩:=List.mem_flatMap.1 hi;obtain⟨SG,T8⟩:=List.mem_filter.1 he;have Xz:=hL e SG T8;rcases List.mem_cons.1 hi with rfl|hi
  ·exact Xz
  ·rw[if_pos (PW j o ho e SG T8)]at hi;have hlt':=PW j o ho e SG T8;have hjlen:=(List.getElem?_eq_some_iff.1 ho).1;have RG:os[e.on]?=some (os[e.on]' jB):=List.getElem?_eq_getElem jB;exact ih e.on jB _ RG (fun e' h1 h2=>hc _ _ RG Xz e' h1 h2) i hi
theorem Bu(o:Oper)(os:List Oper)(r:AV)(rs:PH)(F:PH):∀m,FL (o::os) (r::rs) (fun _=>true) F (m+1)=FL os rs (fun _=>true) (cn F o.dst r) m
 |0=>by simp[FL]
 |m+1=>by have ih:=Bu o os r rs F m;rw[FL,if_pos rfl,ih,FL,if_pos rfl];simp
theorem GC{K:PH->Prop}:∀(l:List Oper) (F:PH) (rs:PH),yd P ops H K l F rs->(∀i o,l[i]?=some o->QV P ops o (FL l rs (fun _=>true) F i) H (rs.getD i .any))/\K (FL l rs (fun _=>true) F l.length)
 |[],F,rs,h=>⟨fun i o hi=>by simp at hi,h.2⟩
 |o::l,F,rs,h=>by
  obtain⟨r,QJ,rfl,h1,h2⟩:=h;obtain⟨g1,g2⟩:=GC l _ QJ h2;refine⟨fun i o' hi=>?_,by rw[List.length_cons,Bu];exact g2⟩;cases i with
  |zero=> simp only[List.getElem?_cons_zero,Option.some.injEq]at hi;subst hi;exact h1
  |succ i=> rw[Bu];exact g1 i o' (by simpa using hi)
def uj(h:tg os=true):(∀j o,os[j]?=some o->∀e∈o.after.toList,Region.binds .any e=true->e.on<j)/\
  ∀i j a b,i<j->os[i]?=some a->os[j]?=some b->su os a b=true->i∈(jR os).getD j []:=by
 simp only[tg,List.all_eq_true,List.mem_range]at h;constructor
 ·intro j o ho e he hb;have:=h j (List.getElem?_eq_some_iff.1 ho).1;rw[ho]at this;simp only[Bool.and_eq_true,List.all_eq_true]at this;have:=this.1 e he;simpa[hb]using this
 ·intro i j a b Vq ha hb hc;have:=h j (List.getElem?_eq_some_iff.1 hb).1;rw[hb]at this;simp only[Bool.and_eq_true,List.all_eq_true,List.mem_range]at this;have:=this.2 i Vq;rw[ha]at this;simp only[hc,Bool.not_true,Bool.false_or]at this;simpa using this
theorem Dq{os:List Oper}{rs F:PH}{L:PR}{i s:Nat}(hw:∀k o,os[k]?=some o->o.dst=some s->L k=decide (k<i)):∀m,kT os rs L F s m=kT os rs (fun _=>true) F s (min m i)
 |0=>by simp[kT]
 |m+1=>by
  have ih:=Dq (rs:=rs) (F:=F) hw m;rw[kT];by_cases hd:(os[m]?).bind (·.dst)=some s
  ·obtain⟨o,ho,hs⟩:=Option.bind_eq_some_iff.1 hd;have hL:=hw m o ho hs;by_cases hm:m<i
   ·rw[if_pos ⟨by rw[hL];simpa using hm,hd⟩,show min (m+1) i=m+1 from jB,kT,if_pos ⟨rfl,hd⟩]
   ·rw[if_neg (by rw[hL];simp[hm]),ih,show min (m+1) i=min m i from jB]
  ·rw[if_neg (by simp[hd]),ih];by_cases hm:m<i
   ·rw[show min (m+1) i=m+1 from jB,show min m i=m from jB,kT,if_neg (by simp[hd])]
   ·rw[show min (m+1) i=min m i from jB]
theorem AK{os:List Oper}{rs F:PH}{L L':PR}{i s:Nat}{o:Oper}(ho:os[i]?=some o)(RH:∀k,L' k=(L k || k == i))(hw:∀k o',os[k]?=some o'->o'.dst=some s->L k=decide (k<i))(hs:o.dst=some s):∀m,i<m->kT os rs L' F s m=rs.getD i .any
 |0,h=>by omega
 |m+1,h=>by
  rw[kT];by_cases hm:m=i
  ·subst hm;rw[if_pos ⟨by rw[RH];simp,by rw[ho];exact hs⟩]
  ·rw[if_neg]
   ·exact AK ho RH hw hs m jB
   ·rintro⟨h1,h2⟩;obtain⟨o',RG,TI⟩:=Option.bind_eq_some_iff.1 h2;rw[RH,hw m o' RG TI]at h1;simp at h1;omega
theorem Bt{os:List Oper}{rs F:PH}{L L':PR}{i s:Nat}{o:Oper}(ho:os[i]?=some o)(RH:∀k,L' k=(L k || k == i))(hs:o.dst≠some s):∀m,kT os rs L' F s m=kT os rs L F s m
 |0=>rfl
 |m+1=>by
  have ih:=Bt (rs:=rs) (F:=F) ho RH hs m;rw[kT,kT,ih,RH];by_cases hm:m=i
  ·subst hm;rw[ho];simp[hs]
  ·simp[hm]
def HU{t:Nat}(h:Operand.tmp t∈o.op.operands.toList):t∈looks os o:=
 List.mem_append_left _ (List.mem_filterMap.2 ⟨_,h,rfl⟩)
def FE(hl:F.length=G.length)(h:∀s∈looks os o,s<F.length->G.getD s .any=F.getD s .any):wk os.toArray o F G:=by
 have QF:∀s∈looks os o,G[s]?=F[s]?:=fun s hs=>by
  rcases Nat.lt_or_ge s F.length with h1|h1
  ·have:=h s hs h1;have e1:G[s]?=some (G.getD s .any):=by simp[<-hl,h1]
   have e2:F[s]?=some (F.getD s .any):=by simp[h1]
   rw[e1,e2,this]
  ·rw[List.getElem?_eq_none jB,List.getElem?_eq_none h1]
 constructor
 ·intro x hx;cases x with
  |tmp t=>simp only[bV,List.getD_eq_getElem?_getD,QF t (HU hx)]
  |const v=>rfl
  |global g=>rfl
  |func f=>rfl
 ·intro j b hg;unfold lW;cases hd:(os.toArray[j]?).bind (·.dst)with
  |none=>rfl
  |some d=> simp only;rw[QF d (List.mem_append_right _ (by rw[hg];simp at hd ⊢;simpa using hd))]
variable{Q:Exit->PD}
def MX{l:List Oper}{rs:PH}(hok:tg l=true)(UB:∀i o,l[i]?=some o->QV P l.toArray o (FL l rs (fun _=>true) F i) H (rs.getD i .any))(hK:Q .normal (FL l rs (fun _=>true) F l.length) H)(w0:NW) :
  ∀(fuel:Nat) (listed:Array Bool),listed.size=l.length->mN l (fun i=>listed.getD i false)->(List.range l.length).countP (fun i=>!listed.getD i false)=fuel->
   ∀(w:NW) tm,aH w H->aY w (FL l rs (fun i=>listed.getD i false) F l.length) tm->Ext w0 H w H->wpAny P .any l.toArray (gw Q w0 H) fuel listed ⟨tm,[]⟩ w.toWorld:=by
 obtain⟨PW,P7⟩:=uj hok
 -- when all are done
 have fin:∀(listed:Array Bool),(∀i,i<l.length->listed.getD i false=true)->∀(w:NW) tm,aH w H->aY w (FL l rs (fun i=>listed.getD i false) F l.length) tm->Ext w0 H w H->gw Q w0 H .normal ⟨tm,[]⟩ w.toWorld:=by
  intro listed Qm w tm h1 h2 h3;have e:FL l rs (fun i=>listed.getD i false) F l.length=FL l rs (fun _=>true) F l.length:=by
   have gen:∀m,m<=l.length->FL l rs (fun i=>listed.getD i false) F m=FL l rs (fun _=>true) F m:=by
    intro m;induction m with
    |zero=>intro _;rfl
    |succ m ih=>intro hm;rw[FL,FL,ih jB,Qm m jB]
   exact gen _ jl
  rw[e]at h2;exact⟨tm,_,H,w,rfl,rfl,hK,h1,h2,h3.px⟩
 intro fuel;induction fuel with
 |zero=>
  intro listed P5 RW Tj w tm h1 h2 h3;have Qm:∀i,i<l.length->listed.getD i false=true:=fun i hi=>by have:=(List.countP_eq_zero.1 Tj) i (List.mem_range.2 hi);simpa using this
  refine⟨?_,fin listed Qm w tm h1 h2 h3⟩;rw[List.eq_nil_iff_forall_not_mem];intro j hj;obtain⟨UC,o,ho,_⟩:=mem_ready.1 hj;have UD:j<l.length:=by have:=(Array.getElem?_eq_some_iff.1 ho).1;simpa using this
  have:=Qm j UD;simp[P5,UD]at this UC;rw[this]at UC;cases UC
 |succ fuel ih=>
  intro listed P5 RW Tj w tm h1 h2 h3;refine⟨fun UE=>?_,fun i hi=>?_⟩
  ·-- some operation is ready
   exfalso;have hex:∃i,i<l.length/\listed.getD i false=false:=by have Q5:0<(List.range l.length).countP (fun i=>!listed.getD i false):=jB;obtain⟨i,hi,hp⟩:=List.countP_pos_iff.1 Q5;exact⟨i,List.mem_range.1 hi,by simpa using hp⟩
   obtain⟨i,⟨hi,hf⟩,Sr⟩:=exists_least hex;have ho:l[i]?=some l[i]:=List.getElem?_eq_getElem hi;have:i∈Region.ready .any l.toArray listed:=mem_ready.2 ⟨by simp[P5,hi]at hf ⊢;exact hf,l[i],by simp[hi],fun e he hb=>by
    have h4:=PW i _ ho e (by simpa using he) hb;cases hv:listed.getD e.on false with
    |true=>rfl
    |false=>have:=Sr e.on ⟨jB,hv⟩;omega⟩
   rw[UE]at this;cases this
  ·obtain⟨Su,o,ho,QR⟩:=mem_ready.1 hi;have RG:l[i]?=some o:=by simpa using ho
   have Rl:=(List.getElem?_eq_some_iff.1 RG).1;have SZ:listed.getD i false=false:=by simp[P5,Rl]at Su ⊢;exact Su
   have Q9:∀e∈o.after.toList,Region.binds .any e=true->listed.getD e.on false=true:=fun e he hb=>QR e (by simpa using he) hb
   have Qo:=uq RW PW (i+1) i jB o RG Q9
   -- who writes where o touches
   have XA:∀k o' s,l[k]?=some o'->o'.dst=some s->(s∈looks l o\/o.dst=some s)->listed.getD k false=decide (k<i):=by
    intro k o' s hk hs Qs;rcases Nat.lt_trichotomy k i with h|h|h
    ·rw[decide_eq_true h];refine Qo k (P7 k i o' o h hk RG ?_);unfold su;rw[hs];rcases Qs with h5|h5
     ·simp[h5]
     ·simp[h5]
    ·subst h;simpa using SZ
    ·rw[decide_eq_false jB];cases hv:listed.getD k false with
     |false=>rfl
     |true=>
      have Rm:i∈(jR l).getD k []:=P7 i k o o' h RG hk (by
       unfold su;rw[hs];rcases Qs with h5|h5
       ·simp[h5]
       ·simp[h5])
      have:=uq RW PW (k+1) k jB o' hk (fun e he hb=>RW k o' hk hv e he hb) i Rm;rw[SZ]at this;cases this
   have Rw:wk l.toArray o (FL l rs (fun _=>true) F i) (FL l rs (fun i=>listed.getD i false) F l.length):=by
    refine FE (by rw[kR,kR]) fun s hs J'=>?_
    rw[kR]at J';rw[rJ _ _ _ _ J',rJ _ _ _ _ J',Dq (fun k o' hk hd=>XA k o' s hk hd (.inl hs)),show min l.length i=i from jB]
   have Ry:=UB i o RG _ Rw;have RH:∀k,(listed.setIfInBounds i true).getD k false=(listed.getD k false || k == i):=fun k=>by
    by_cases hk:k=i
    ·subst hk;simp[P5,Rl]
    ·simp[Array.getElem?_setIfInBounds_ne (Ne.symm hk),hk]
   have SH:cn (FL l rs (fun i=>listed.getD i false) F l.length) o.dst (rs.getD i .any)=FL l rs (fun k=>(listed.setIfInBounds i true).getD k false) F l.length:=by
    refine CK (m':=0) (L':=fun _=>true) (by cases o.dst<;>simp[cn,kR]) fun s hs=>?_
    by_cases hd:o.dst=some s
    ·rw[AK (L:=fun i=>listed.getD i false) RG RH (fun k o' hk UF=>XA k o' s hk UF (.inr hd)) hd _ Rl,hd];simp[cn,kR,hs]
    ·rw[Bt (L:=fun i=>listed.getD i false) RG RH hd,<-rJ _ _ _ _ hs];cases UF:o.dst with
     |none=>rfl
     |some d=>
      have:d≠s:=fun e=>hd (by rw[UF,e])
      simp[cn,List.getElem?_set,this]
   have:=Ry w tm (gw Q w0 H) (wpAny P .any l.toArray (gw Q w0 H) fuel (listed.setIfInBounds i true)) h1 h2 (by
    rintro Qt w' F' H' ⟨rfl,rfl⟩ g1 g2 g3;refine ih (listed.setIfInBounds i true) (by simpa using P5) ?_ ?_ w' Qt g1 (by rw[<-SH];exact g2) (h3.trans g3)
    ·intro j o' hj Rt e he hb;simp only[RH]at Rt ⊢;rcases Bool.or_eq_true_iff.1 Rt with h6|h6
     ·have h7:listed.getD e.on false=true:=RW j o' hj h6 e he hb;rw[h7];rfl
     ·obtain rfl:j=i:=by simpa using h6
      rw[RG]at hj;cases hj;rw[Q9 e he hb];rfl
    ·have:∀(n:Nat),i<n->(List.range n).countP (fun k=>!(listed.setIfInBounds i true).getD k false)+1=(List.range n).countP (fun k=>!listed.getD k false):=by
      intro n;induction n with
      |zero=>intro h;omega
      |succ n ihn=>
       intro h;rw[List.range_succ,List.countP_append,List.countP_append];by_cases hn:n=i
       ·subst hn;have:(List.range n).countP (fun k=>!(listed.setIfInBounds n true).getD k false)=(List.range n).countP (fun k=>!listed.getD k false):=by
         refine List.countP_congr fun k hk=>?_
         rw[RH];have:k≠n:=by have:=List.mem_range.1 hk;omega
         simp[this]
        rw[this];simp only[List.countP_singleton,RH,SZ];simp
       ·rw[<-ihn jB];simp only[List.countP_singleton,RH];have:(n == i)=false:=by simpa using hn
        rw[this,Bool.or_false];omega
     have:=this l.length Rl;omega)
   unfold wpOp;rw[ho];exact this
def KC{id:Nat}{l:List Oper}(hm:P.follows .mixedOrders=true)(hok:tg l=true)(h:po P l.toArray H (fun F'=>Q .normal F' H) l F):dp P (.region id l.toArray true) Q F H:=fun w tm h1 h2=>by
 obtain⟨rs,D'⟩:=Cl l F h;obtain⟨UB,hK⟩:=GC l F rs D';have hz:∀i,(Array.replicate l.toArray.size false).getD i false=false:=fun i=>by by_cases hi:i<l.length<;>simp[Array.getElem?_replicate,hi]
 refine wp_region_any hm ?_;have e0:FL l rs (fun i=>(Array.replicate l.toArray.size false).getD i false) F l.length=F:=by
  have gen:∀m,FL l rs (fun i=>(Array.replicate l.toArray.size false).getD i false) F m=F:=by
   intro m;induction m with
   |zero=>rfl
   |succ m ih=>rw[FL,hz,if_neg jE,ih]
  exact gen _
 exact MX hok UB hK w l.toArray.size (Array.replicate l.toArray.size false) jE (fun j o _ hj=>by have:=(hz j).symm.trans hj;cases this) (by rw[List.countP_eq_length.2 (fun i _=>by rw[hz];rfl)];simp) (w.to w.drew) tm h1.drew (by rw[e0];exact h2.ext (Ext.drew w H)) (Ext.drew w H)
end
section
variable {P:PS}{ops:Array Oper}{H:Hp}{K:PH->Prop}{F:PH}{dst:Option Tmp}{ty:PM}{pos:String}{after:Array Edge}{rest:List Oper}
end
end Go.Gd