/- Lemmas. No conditions. -/
import Derived.Test.YtbjookcdpondlaaGreatDoorGdE
import Derived.Deep.RegionWith
import Derived.Laws.Append
set_option linter.all false
namespace Go.Gd
open Go
section
variable {P:SQ}{w:NW}{H:Hp}
variable{a:Option AV}{v:Option Value}
def nR{i:Option Int}(ha:rq a=some i)(hr:∀x y,a=some x->v=some y->aB w x y)(hs:a.isSome=v.isSome):(i=none/\v=none)\/∃k n,i=some n/\v=some (.int k n):=by
 cases a with
 |none=>
  simp[rq]at ha;cases v with
  |none=>exact .inl ⟨ha.symm,rfl⟩
  |some _=>simp at hs
 |some x=>
  cases v with
  |none=>simp at hs
  |some y=>
   unfold rq at ha;split at ha<;>try cases ha
   ·rename_i h;cases h
   ·rename_i k n h;cases h;have:=dH (hr _ _ rfl rfl);subst this;exact .inr ⟨k,n,rfl,rfl⟩
variable{vlo vhi:Option Value}{lo:Option Int}
def vf{isSlice:Bool}{len cap:Nat}{hi:Option Int}(SU:(lo=none/\vlo=none)\/∃k n,lo=some n/\vlo=some (.int k n))(Xj:(hi=none/\vhi=none)\/∃k n,hi=some n/\vhi=some (.int k n))
  (h0:0<=lo.getD 0) (h1:lo.getD 0<=hi.getD len) (h2:hi.getD len<=cap):(Instr.sliceBounds isSlice len cap vlo vhi none).run P w=.ok ((lo.getD 0).toNat,(hi.getD len).toNat,cap) w:=by
 rcases SU with⟨rfl,rfl⟩|⟨k,n,rfl,rfl⟩<;>rcases Xj with⟨rfl,rfl⟩|⟨k',m,rfl,rfl⟩<;>simp only[Option.getD_some,Option.getD_none]at*
 ·simp[Instr.sliceBounds]
 ·simp[Instr.sliceBounds,run_sliceBound w _ _ _ _ (show 0<=m from jB) h2]
 ·simp[Instr.sliceBounds,run_sliceBound w _ _ _ _ h0 h1]
 ·simp[Instr.sliceBounds,run_sliceBound w _ _ _ _ (show 0<=m from jB) h2,run_sliceBound w _ _ _ _ h0 (show n<=((m.toNat:Nat):Int) from jB)]
def PR{len cap:Nat}{k k2:IntKind}{m q:Int}(SU:(lo=none/\vlo=none)\/∃k n,lo=some n/\vlo=some (.int k n))
  (h0:0<=lo.getD 0) (h1:lo.getD 0<=q) (h2:q<=m) (h3:m<=cap):(Instr.sliceBounds true len cap vlo (some (.int k2 q)) (some (.int k m))).run P w.toWorld=.ok ((lo.getD 0).toNat,q.toNat,m.toNat) w.toWorld:=by
 rcases SU with⟨rfl,rfl⟩|⟨k1,n,rfl,rfl⟩<;>simp only[Option.getD_some,Option.getD_none]at*
 ·simp[Instr.sliceBounds,run_sliceBound w.toWorld _ _ _ _ (show 0<=m from jB) h3,run_sliceBound w.toWorld _ _ _ _ (show 0<=q from jB) (show q<=((m.toNat:Nat):Int) from jB)]
 ·simp[Instr.sliceBounds,run_sliceBound w.toWorld _ _ _ _ (show 0<=m from jB) h3,run_sliceBound w.toWorld _ _ _ _ (show 0<=q from jB) (show q<=((m.toNat:Nat):Int) from jB),run_sliceBound w.toWorld _ _ _ _ h0 (show n<=((q.toNat:Nat):Int) from jB)]
variable{vmx:Option Value}
def qQ{t e:SL}{sz:Nat}(hu:P.underlying t=some (.slice e))(hs:dx P e=some sz){A:Option Addr}{n c lo hi mx:Nat}(hb:(Instr.sliceBounds true n c vlo vhi vmx).run P w.toWorld=.ok (lo,hi,mx) w.toWorld) :
  ∃A',(Instr.sliceAt t (.slice A n c) vlo vhi vmx).run P w.toWorld=.ok (.slice A' (hi-lo) (mx-lo)) w.toWorld/\((A=none/\A'=none)\/∃ad,A=some ad/\A'=some (if mx=lo then ad else ad.add (lo*sz))):=by
 cases A with
 |none=>exact⟨none,by simp[Instr.sliceAt,run_underlying hu,Instr.slice,hb,mL hs],.inl ⟨rfl,rfl⟩⟩
 |some ad=>exact⟨some (if mx=lo then ad else ad.add (lo*sz)),by simp only[Instr.sliceAt,run_underlying hu,Instr.slice,hb,mL hs,Sem.run_bind,Result.andThen_ok,Sem.run_pure,Option.map_some];split<;>rfl,.inr ⟨ad,rfl,rfl⟩⟩
def GV{i:Int}(ha:rq a=some (some i))(hr:∀x y,a=some x->v=some y->aB w x y)(hs:a.isSome=v.isSome):∃k,v=some (.int k i):=by
 rcases nR ha hr hs with⟨h,_⟩|⟨k,n,h,rfl⟩
 ·cases h
 ·cases h;exact⟨k,rfl⟩
def uh(ha:rq a=some none)(hr:∀x y,a=some x->v=some y->aB w x y)(hs:a.isSome=v.isSome):v=none:=by
 rcases nR ha hr hs with⟨_,h⟩|⟨k,n,h,rfl⟩
 ·exact h
 ·cases h
def R6(t:SL){a:AV}{lo hi mx:Option AV}{va:Value}(ha:aB w a va)(SU:∀x y,lo=some x->vlo=some y->aB w x y)(slo:lo.isSome=vlo.isSome)
  (Xj:∀x y,hi=some x->vhi=some y->aB w x y) (shi:hi.isSome=vhi.isSome) (Xr:∀x y,mx=some x->vmx=some y->aB w x y) (smx:mx.isSome=vmx.isSome):j4 P w (Instr.sliceAt t va vlo vhi vmx) (td P t a lo hi mx):=by
 intro hq;unfold td at*;split at hq<;>try exact hq.elim
 ·rename_i s l h e1 e2 e3;obtain rfl:=uh e3 Xr smx;have:=dH ha;subst this;have ht:=yI hq.1;obtain⟨h0,h1,h2⟩:=hq.2;have hb:=vf (P:=P) (w:=w) (isSlice:=false) (nR e1 SU slo) (nR e2 Xj shi) h0 h1 h2;exact⟨_,by simp[Instr.sliceAt,run_underlying ht,Instr.slice,hb],.raw _⟩
 ·rename_i x sz css d l h e1 e2 e3;obtain rfl:=uh e3 Xr smx;obtain⟨e,hu,hs⟩:=rn hq.1;obtain⟨h0,h1,h2⟩:=hq.2;have key:∀n c:Nat,n=css.length->n<=c->(Instr.sliceBounds true n c vlo vhi none).run P w.toWorld=.ok ((l.getD 0).toNat,(h.getD css.length).toNat,c) w.toWorld:=fun n c hn hc=>by
   subst hn;exact vf (P:=P) (w:=w) (isSlice:=true) (nR e1 SU slo) (nR e2 Xj shi) h0 h1 jB
  generalize hL:l.getD 0=L at*;generalize hh:h.getD (css.length:Int)=Hh at*;obtain⟨Ln,rfl⟩:=Int.eq_ofNat_of_zero_le h0;obtain⟨Hn,rfl⟩:=Int.eq_ofNat_of_zero_le (show(0:Int)<=Hh from jB);simp only[Int.toNat_natCast]at key ⊢;have D':((css.drop Ln).take (Hn-Ln)).length=Hn-Ln:=by simp;omega
  cases ha with
  |gw _ _ A c hx=>
   obtain⟨A',I',_⟩:=qQ hu hs (A:=A) (key 0 c rfl (Nat.zero_le _));obtain rfl:Hn=0:=by simp at h2;omega
   refine⟨_,I',?_⟩;simp only[Nat.zero_sub,List.take_zero];exact .gw _ _ _ _ (fun h=>by cases h)
  |sl _ _ _ ad c vs hn hc hx SY Ul hH J' hr=>
   obtain⟨A',I',hA⟩:=qQ hu hs (A:=some ad) (key _ c rfl hc);refine⟨_,I',?_⟩;by_cases hz:Hn-Ln=0
   ·rw[hz,List.take_zero];exact .gw _ _ _ _ (fun h=>by cases h)
   ·rcases hA with⟨h,_⟩|⟨ad',h,rfl⟩
    ·cases h
    cases h;rw[jN];have hg:∀i,i<Hn-Ln->((css.drop Ln).take (Hn-Ln)).getD i []=css.getD (Ln+i) []:=fun i hi=>by simp[List.getElem?_take,hi]
    have:=aB.sl (w:=w) (d:=d) false sz ((css.drop Ln).take (Hn-Ln)) (ad.add (Ln*sz)) (c-Ln) (fun j=>vs (Ln*sz+j)) jB jB (fun h=>by cases h) (fun cs UG=>SY _ (List.mem_of_mem_drop (List.mem_of_mem_take UG))) (by rw[qk];exact Ul) (by rw[qk];exact hH)
     (fun i j hi hj=>by
      rw[wA,show Ln*sz+(i*sz+j)=(Ln+i)*sz+j by rw[Nat.add_mul];omega];exact J' _ j jB hj) (fun i j u hi hu=>by
      rw[hg i jB]at hu;rw[show Ln*sz+(i*sz+j)=(Ln+i)*sz+j by rw[Nat.add_mul];omega];exact hr _ j u jB hu)
    rw[D']at this;exact this
 ·rename_i d m sz n h e1 e2 e3;obtain rfl:=uh e3 Xr smx;obtain rfl:=uh e1 SU slo;obtain⟨e,hu,hs⟩:=rn hq.1;obtain⟨h1,h2⟩:=hq.2;have key:∀c:Nat,n<=c->(Instr.sliceBounds true n c none vhi none).run P w.toWorld=.ok (0,(h.getD n).toNat,c) w.toWorld:=fun c hc=>by
   have:=vf (P:=P) (w:=w) (isSlice:=true) (len:=n) (cap:=c) (lo:=none) (vlo:=none) (.inl ⟨rfl,rfl⟩) (nR e2 Xj shi) jE (by simpa using h1) jB;simpa using this
  cases ha with
  |iV _ _ _ A hn=>
   obtain⟨A',I',_⟩:=qQ hu hs (A:=A) (key 0 (Nat.zero_le _));have h0:(h.getD 0).toNat=0:=by simp at h2;omega
   refine⟨_,I',?_⟩;simp only[Nat.sub_zero,Int.ofNat_zero];rw[h0];exact .iV d m sz A' hn
  |rs _ _ _ _ b t c hn hc Ta U4=>
   obtain⟨A',I',hA⟩:=qQ hu hs (A:=some ⟨b,0,none⟩) (key c Ta);refine⟨_,I',?_⟩;rcases hA with⟨h',_⟩|⟨ad',h',rfl⟩
   ·cases h'
   cases h';have:(if c=0 then(⟨b,0,none⟩:Addr)else(⟨b,0,none⟩:Addr).add (0*sz))=⟨b,0,none⟩:=by rw[Nat.zero_mul,ES];simp
   rw[this];simp only[Nat.sub_zero];exact .rs d m sz _ b t c hn hc jB U4
 ·rename_i d m sz n l h e1 e2 e3;obtain rfl:=uh e3 Xr smx;obtain⟨e,hu,hs⟩:=rn hq.1;obtain⟨h0,h1,h2⟩:=hq.2;have key:∀c:Nat,n<=c->(Instr.sliceBounds true n c vlo vhi none).run P w.toWorld=.ok (l.toNat,(h.getD n).toNat,c) w.toWorld:=fun c hc=>
   vf (P:=P) (w:=w) (isSlice:=true) (len:=n) (cap:=c) (lo:=some l) (nR e1 SU slo) (nR e2 Xj shi) h0 h1 jB
  cases ha with
  |iV _ _ _ A hn=>
   obtain⟨A',I',_⟩:=qQ hu hs (A:=A) (key 0 (Nat.zero_le _));refine⟨_,I',?_⟩;have:(h.getD (0:Nat)).toNat-l.toNat=0:=by simp at h1 h2 ⊢;omega
   rw[this];exact .lV d m sz _ _ _
  |rs _ _ _ _ b t c hn hc Ta U4=>
   obtain⟨A',I',hA⟩:=qQ hu hs (A:=some ⟨b,0,none⟩) (key c Ta);refine⟨_,I',?_⟩;by_cases hz:(h.getD n).toNat-l.toNat=0
   ·rw[hz];exact .lV d m sz _ _ _
   ·rcases hA with⟨h',_⟩|⟨ad',h',rfl⟩
    ·cases h'
    cases h';rw[jN,lN,Nat.zero_add];exact .rv d m sz _ _ b t _ hn jB
 ·rename_i d m sz o n l h e1 e2 e3;obtain rfl:=uh e3 Xr smx;obtain⟨e,hu,hs⟩:=rn hq.1;obtain⟨h0,h1,h2⟩:=hq.2;have key:∀c:Nat,n<=c->(Instr.sliceBounds true n c vlo vhi none).run P w.toWorld=.ok ((l.getD 0).toNat,(h.getD n).toNat,c) w.toWorld:=fun c hc=>
   vf (P:=P) (w:=w) (isSlice:=true) (len:=n) (cap:=c) (nR e1 SU slo) (nR e2 Xj shi) h0 h1 jB
  cases ha with
  |lV _ _ _ _ c A=>
   obtain⟨A',I',_⟩:=qQ hu hs (A:=A) (key c (Nat.zero_le _));refine⟨_,I',?_⟩;have:(h.getD (0:Nat)).toNat-(l.getD 0).toNat=0:=by simp at h1 h2 ⊢;omega
   rw[this];exact .lV d m sz _ _ _
  |rv _ _ _ _ _ b t c hn Ta=>
   obtain⟨A',I',hA⟩:=qQ hu hs (A:=some ⟨b,o*sz,none⟩) (key c Ta);refine⟨_,I',?_⟩;by_cases hz:(h.getD n).toNat-(l.getD 0).toNat=0
   ·rw[hz];exact .lV d m sz _ _ _
   ·rcases hA with⟨h',_⟩|⟨ad',h',rfl⟩
    ·cases h'
    cases h';rw[jN,lN,<-Nat.add_mul];exact .rv d m sz _ _ b t _ hn jB
 ·rename_i d m sz n l h x e1 e2 e3;obtain⟨kx,rfl⟩:=GV e3 Xr smx;obtain⟨kh,rfl⟩:=GV e2 Xj shi;obtain⟨e,hu,hs⟩:=rn hq.1;obtain⟨h0,h1,h2,h3⟩:=hq.2;have key:∀c:Nat,n<=c->(Instr.sliceBounds true n c vlo (some (.int kh h)) (some (.int kx x))).run P w.toWorld=.ok ((l.getD 0).toNat,h.toNat,x.toNat) w.toWorld:=fun c hc=>
   PR (P:=P) (w:=w) (len:=n) (cap:=c) (nR e1 SU slo) h0 h1 h2 jB
  cases ha with
  |iV _ _ _ A hn=>
   obtain⟨A',I',_⟩:=qQ hu hs (A:=A) (key 0 (Nat.zero_le _));refine⟨_,I',?_⟩;have:h.toNat-(l.getD 0).toNat=0:=by simp at h1 h2 h3 ⊢;omega
   rw[this];exact .lV d m sz _ _ _
  |rs _ _ _ _ b t c hn hc Ta U4=>
   obtain⟨A',I',hA⟩:=qQ hu hs (A:=some ⟨b,0,none⟩) (key c Ta);refine⟨_,I',?_⟩;by_cases hz:h.toNat-(l.getD 0).toNat=0
   ·rw[hz];exact .lV d m sz _ _ _
   ·rcases hA with⟨h',_⟩|⟨ad',h',rfl⟩
    ·cases h'
    cases h';rw[jN,lN,Nat.zero_add];exact .rv d m sz _ _ b t _ hn jB
 ·rename_i l h e1 e2 e3;obtain rfl:=uh e3 Xr smx;have:=dH ha;subst this;obtain⟨_,SY,h0,h1⟩:=hq;obtain⟨sz,SY⟩:=Option.isSome_iff_exists.1 SY;obtain⟨e,hu,hs⟩:=rn SY;have hb:=vf (P:=P) (w:=w) (isSlice:=true) (len:=0) (cap:=0) (nR e1 SU slo) (nR e2 Xj shi) jB jF jF;simp only[h0,Int.toNat_zero,h1,Int.ofNat_zero]at hb;exact⟨_,by simp[Instr.sliceAt,run_underlying hu,Instr.slice,hb,mL hs],.raw _⟩
def O4(s d:SL){a:AV}{v:Value}(h:aB w a v):j4 P w (convert s d v) (u5 P s d a):=by
 intro hq;unfold u5 at*;split at hq<;>try exact hq.elim
 ·rename_i k' n k e;have:=dH h;subst this;have hd:P.underlying d=some (.int k):=by unfold A9 at e;split at e<;>simp_all
  obtain⟨ds,hs⟩:=Option.isSome_iff_exists.1 hq;refine⟨.int k (k.wrap n),?_,.raw _⟩;cases ds<;>simp[convert,run_underlying hs,run_underlying hd,Conv.intToInt]
 ·rename_i s' e;have:=dH h;subst this;have hd:=yI hq.2;obtain⟨ds,hs⟩:=Option.isSome_iff_exists.1 hq.1;refine⟨.string s',?_,.raw _⟩;cases ds<;>simp[convert,run_underlying hs,run_underlying hd]
def F4(mx:Bool)(ts:Array SL)(ty:SL){l:SG}{vs:SO}(h:cA w l vs):j4 P w (if mx then Builtin.max_ ts ty vs.toArray else Builtin.min_ ts ty vs.toArray) (xT mx l):=by
 intro hq;unfold xT at*;split at hq<;>try exact hq.elim
 rename_i k a k' b;obtain⟨hl,hr⟩:=h;match vs,hl with
 |[x,y],_=> obtain rfl:k=k':=hq;obtain rfl:=dH (hr 0 _ _ rfl rfl);obtain rfl:=dH (hr 1 _ _ rfl rfl);cases mx<;>exact⟨_,by simp[Builtin.max_,Builtin.min_,Builtin.max2,Builtin.min2];rfl,by simpa using aB.raw _⟩
theorem As{pl:Nat->Option (Nat×Nat)}:∀{parts:List (Nat×AV)} {vparts:List (Nat×Value)} {cells:SG} {cur:SN} {out:SG},
  rD pl cells parts=some out->parts.map (·.1)=vparts.map (·.1)->(∀(i:Nat) a v,parts[i]?=some a->vparts[i]?=some v->cA w a.2.cells v.2.cells.toList)->cA w cells cur.toList->
  ∃vs,Instr.fill pl cur vparts=some vs/\cA w out vs.toList
 |[],[],cells,cur,out,h,_,_,hc=>by simp only[rD,Option.some.injEq]at h;subst h;exact⟨cur,rfl,hc⟩
 |[],_::_,_,_,_,_,he,_,_=>by simp at he
 |_::_,[],_,_,_,_,he,_,_=>by simp at he
 |(i,a)::parts,(i',v)::vparts,cells,cur,out,h,he,hr,hc=>by
  simp only[List.map_cons,List.cons.injEq]at he;obtain⟨rfl,he⟩:=he;simp only[rD]at h;split at h
  ·rename_i off k hp;split at h
   ·rename_i hk;have hv:=hr 0 _ _ rfl rfl;simp only at hv;have D':v.cells.size=k:=by have:=hv.1;simp at this;omega
    have V0:cells.length=cur.size:=by simpa using hc.1
    have SV:∀(l:SO) (o:Nat) (c:SN),(l.toArray.zipIdx.foldl (fun cs (x,j)=>cs.setIfInBounds (o+j) x) c)=(c.toList.take o++l++c.toList.drop (o+l.length)).toArray\/c.size<o+l.length:=by
     intro l o c;by_cases hb:c.size<o+l.length
     ·exact .inr hb
     ·refine .inl ?_;have gen:∀(l:SO) (s:Nat) (c:SN),o+s+l.length<=c.size->((l.zipIdx s).foldl (fun(cs:SN) (p:Value×Nat)=>cs.setIfInBounds (o+p.2) p.1) c)=(c.toList.take (o+s)++l++c.toList.drop (o+s+l.length)).toArray:=by
       intro l;induction l with
       |nil=>intro s c _;simp
       |cons x l ih=>
        intro s c hb;simp only[List.zipIdx_cons,List.foldl_cons];rw[ih (s+1) _ (by simp at hb ⊢;omega)];apply Array.ext';simp only[Array.toList_setIfInBounds];apply List.ext_getElem?;intro m;simp only[List.length_cons]at hb;rcases Nat.lt_or_ge m (o+s)with h1|h1
        ·rw[List.append_assoc,List.getElem?_append_left jF,List.append_assoc,List.getElem?_append_left jF];simp only[List.getElem?_take,List.getElem?_set];rw[jP,jN,if_pos h1]
        ·rcases Nat.lt_or_ge m (o+s+1)with h2|h2
         ·obtain rfl:m=o+s:=jB;rw[List.append_assoc,List.getElem?_append_left jF,List.append_assoc,List.getElem?_append_right jF];simp only[List.getElem?_take,List.getElem?_set,List.length_take,Array.length_toList];rw[jP];simp only[Nat.add_assoc,if_true];rw[jP,show o+s-min (o+s) c.size=0 from jB];rfl
         ·rw[List.append_assoc,List.append_assoc,List.cons_append,List.getElem?_append_right (l₁:=List.take (o+(s+1)) _) jF,List.getElem?_append_right (l₁:=List.take (o+s) _) jF];simp only[List.length_take,List.length_set,Array.length_toList];rw[show m-min (o+s) c.size=(m-min (o+(s+1)) c.size)+1 from jB,List.getElem?_cons_succ];rcases Nat.lt_or_ge (m-min (o+(s+1)) c.size) l.length with h3|h3
          ·rw[List.getElem?_append_left h3,List.getElem?_append_left h3]
          ·rw[List.getElem?_append_right h3,List.getElem?_append_right h3];simp only[List.getElem?_drop,List.getElem?_set,List.length_cons];rw[jN];congr 1
           omega
      have:=gen l 0 c jB;simp only[Nat.add_zero]at this;rw[<-this,<-Array.foldl_toList];simp
    have TJ:¬(cur.size<off+v.cells.toList.length):=by simp;omega
    have hs:=(SV v.cells.toList off cur).resolve_right TJ;rw[Array.toArray_toList]at hs;obtain⟨vs,h1,h2⟩:=As (cur:=(cur.toList.take off++v.cells.toList++cur.toList.drop (off+v.cells.toList.length)).toArray) h he (fun i a v ha hv=>hr (i+1) a v (by simpa using ha) (by simpa using hv)) (by
     refine⟨by simp[kQ];omega,fun m x y hx hy=>?_⟩;simp only[kQ]at hx;rcases Nat.lt_or_ge m off with g1|g1
     ·rw[List.append_assoc,List.getElem?_append_left jF,List.getElem?_take,if_pos g1]at hx hy;exact hc.2 m x y hx hy
     ·rcases Nat.lt_or_ge m (off+a.cells.length)with g2|g2
      ·rw[List.append_assoc,List.getElem?_append_right jF,List.getElem?_append_left jF]at hx hy;simp only[List.length_take,Array.length_toList]at hx hy;rw[show m-min off cells.length=m-off from jB]at hx;rw[show m-min off cur.size=m-off from jB]at hy;exact hv.2 _ x y hx hy
      ·rw[List.getElem?_append_right jF]at hx hy;simp only[List.length_append,List.length_take,Array.length_toList,List.getElem?_drop]at hx hy;rw[show off+a.cells.length+(m-(min off cells.length+a.cells.length))=m from jB]at hx;rw[show off+v.cells.size+(m-(min off cur.size+v.cells.size))=m from jB]at hy;exact hc.2 m x y hx hy)
    refine⟨vs,?_,h2⟩;simp only[Instr.fill,hp];rw[if_neg jF,hs];exact h1
   ·cases h
  ·cases h
def Pf{t:SL}{pl:List (Nat×Nat)}(h:jg P t=some pl):∃fs:Array Field,P.underlying t=some (.struct fs)/\(fs.mapM (m:=Sem) fun f=>do pure (f.offset,<-sizeOf f.type)).run P w.toWorld=.ok pl.toArray w.toWorld:=by
 unfold jg at h;split at h
 ·rename_i fs hu;refine⟨fs,hu,?_⟩;rw[Array.mapM_eq_mapM_toList];have gen:∀(l:List Field) (pl:List (Nat×Nat)),l.mapM (fun f=>(dx P f.type).map fun k=>(f.offset,k))=some pl->(l.mapM (m:=Sem) fun f=>do pure (f.offset,<-sizeOf f.type)).run P w.toWorld=.ok pl w.toWorld:=by
   intro l;induction l with
   |nil=>intro pl h;simp at h;subst h;simp
   |cons f l ih=> intro pl h;rw[List.mapM_cons]at h;simp only[Option.bind_eq_bind,Option.bind_eq_some_iff,Option.map_eq_some_iff,Option.pure_def,Option.some.injEq]at h;obtain⟨p,⟨k,hk,rfl⟩,rest,Ti,rfl⟩:=h;rw[List.mapM_cons];simp only[Sem.run_bind,mL hk,Result.andThen_ok,Sem.run_pure,ih rest Ti]
  simp only[Sem.run_map,gen fs.toList pl h,Result.andThen_ok]
 ·cases h
def OU(t:SL){parts:List (Nat×AV)}{vparts:Array (Nat×Value)}(h1:parts.map (·.1)=vparts.toList.map (·.1))(h2:∀(i:Nat) a v,parts[i]?=some a->vparts.toList[i]?=some v->aB w a.2 v.2):j4 P w (Instr.build t vparts) (uU P t parts):=by
 intro hq;unfold uU at*;split at hq<;>try exact hq.elim
 rename_i zs pl e1 e2;split at hq<;>try exact hq.elim
 rename_i out hf;obtain⟨z,hz,rfl⟩:=zS (w:=w) e1;obtain⟨fs,hu,hp⟩:=Pf (w:=w) e2;simp only[dp,List.all_eq_true]at hq;have UP:∀(i:Nat) a,parts[i]?=some a->dp a.2.cells=true:=fun i a ha=>by simp only[dp,List.all_eq_true];intro x hx;exact hq x (List.mem_flatten.2 ⟨_,List.mem_map.2 ⟨a,List.mem_of_getElem? ha,rfl⟩,hx⟩)
 obtain⟨vs,g1,g2⟩:=As (w:=w) (cur:=z.cells) hf h1 (fun i a v ha hv=>(h2 i a v ha hv).gL (UP i a ha))
  ⟨jE,fun i a v ha hv=>by simp only[List.getElem?_map,Option.map_eq_some_iff]at ha;obtain⟨x,hx,rfl⟩:=ha;rw[hx]at hv;cases hv;exact .raw _⟩
 refine⟨.agg vs,?_,.agg _ _ (by have:=g2.1;simpa using this) fun i a v ha hv=>g2.2 i a v ha (by simpa using hv)⟩;have e:(fun i:Nat=>pl.toArray[i]?)=(fun i:Nat=>pl[i]?):=by funext i;simp
 simp only[Instr.build,Sem.run_bind,hz,Result.andThen_ok,run_underlying hu,hp,e,g1,Sem.run_pure]
end
section
variable {P:SQ}{w:NW}{H:Hp}{ρ:Operand->Value}{ev:SM}
def wJ(hr:∀x,aB w (ev x) (ρ x))(l:List Operand):cA w (l.map ev) (l.map ρ):=
 ⟨jE,fun i a v ha hv=>by simp only[List.getElem?_map,Option.map_eq_some_iff]at ha hv;obtain⟨x,hx,rfl⟩:=ha;obtain⟨y,hy,rfl⟩:=hv;rw[hx]at hy;cases hy;exact hr x⟩
def CT(hr:∀x,aB w (ev x) (ρ x))(o:Option Operand):∀x y,o.map ev=some x->o.map ρ=some y->aB w x y:=by
 intro x y hx hy;cases o with
 |none=>cases hx
 |some z=>cases hx;cases hy;exact hr z
def mI{s:Sem Value}{q:PA}(hq:q.1)(h:j4 P w s q):∃v,(do pure (Next.value (<-s)):Sem Next).run P w.toWorld=.ok (.value v) w.toWorld/\aB w q.2 v:=by obtain⟨v,h1,h2⟩:=h hq;exact⟨v,by simp[h1],h2⟩
def HU{c a b:Operand}{x y z:AV}{dst:Option Tmp}{ty:SL}{pos:String}{after:Array Edge}{guard:Option (Nat×Bool)}(hc:aB w x (ρ c))(ha:aB w y (ρ a))(hb:aB w z (ρ b))(hq:(oh x y z).1) :
  ∃v,(execOp ρ ⟨dst,.pick c a b,ty,pos,after,guard⟩).run P w.toWorld=.ok (.value v) w.toWorld/\aB w (oh x y z).2 v:=by
 obtain⟨v,h1,h2⟩:=Fi (P:=P) hc ha hb hq;refine⟨v,?_,h2⟩;simp only[execOp,Sem.run_bind,Sem.run_pure]at h1 ⊢;cases hb:(asBool (ρ c)).run P w with
 |ok x w'=>rw[hb]at h1;simp only[Result.andThen_ok,Result.ok.injEq]at h1 ⊢;exact⟨by rw[h1.1],h1.2⟩
 |halt e w'=>rw[hb]at h1;simp at h1
def yr(o:Oper)(hw:aT w H)(hr:∀x,aB w (ev x) (ρ x))(hq:(vq P ev H o.op).1):∃v,(execOp ρ o).run P w.toWorld=.ok (.value v) w.toWorld/\aB w (vq P ev H o.op).2 v:=by
 obtain⟨dst,op,ty,pos,after,guard⟩:=o;cases op
 case move x=>exact⟨_,rfl,hr x⟩
 case assign x=>exact⟨_,rfl,hr x⟩
 case pick c a b=>
  obtain⟨v,h1,h2⟩:=Fi (P:=P) (hr c) (hr a) (hr b) hq;refine⟨v,?_,h2⟩;simp only[execOp,Sem.run_bind,Sem.run_pure]at h1 ⊢;cases hb:(asBool (ρ c)).run P w with
  |ok x w'=>rw[hb]at h1;simp only[Result.andThen_ok,Result.ok.injEq]at h1 ⊢;exact⟨by rw[h1.1],h1.2⟩
  |halt e w'=>rw[hb]at h1;simp at h1
 case nilCheck x=>exact KI x rfl (hr x) _ rfl hq
 case binOp op t x y t'=>exact mI hq (Gm op t x y (hr x) (hr y))
 case unOp op t x=>exact mI hq (Kz op (hr x))
 case load t a=>exact mI hq (RN t (hr a) hw)
 case fieldAddr t a f=>exact mI hq (JX t f (hr a))
 case field t a f=>exact mI hq (JV t f (hr a))
 case indexAddr t a i=>exact mI hq (OZ t (hr a) (hr i))
 case index t a i=>exact mI hq (RP t (hr a) (hr i))
 case extract a i=>exact mI hq (KZ (hr a) i)
 case slice t a lo hi mx=>exact mI hq (R6 t (hr a) (CT hr lo) (by cases lo<;>rfl) (CT hr hi) (by cases hi<;>rfl) (CT hr mx) (by cases mx<;>rfl))
 case makeFunc fn first captured=>
  have:=M4 (P:=P) fn (wJ hr first.toList) (wJ hr captured.toList);have e1:(first.toList.map ρ).toArray=first.map ρ:=by rw[<-Array.toList_map,Array.toArray_toList]
  have e2:(captured.toList.map ρ).toArray=captured.map ρ:=by rw[<-Array.toList_map,Array.toArray_toList]
  rw[e1,e2]at this;exact mI hq this
 case makeInterface t x=>exact mI hq (Kd t (hr x))
 case convert s d x=>exact mI hq (O4 s d (hr x))
 case build t parts=> refine mI hq (OU t jE fun i a v ha hv=>?_);simp only[List.getElem?_map,Option.map_eq_some_iff,Array.toList_map,Array.getElem?_toList]at ha hv;obtain⟨x,hx,rfl⟩:=ha;obtain⟨y,hy,rfl⟩:=hv;rw[hx]at hy;cases hy;exact hr x.2
 case call c=>
  obtain⟨callee,args,argTypes⟩:=c;cases callee
  case builtin b=>
   simp only[vq]at hq ⊢;generalize Z9:argTypes.toList=ts at*;obtain rfl:argTypes=ts.toArray:=by rw[<-Z9]
   have U6:=wJ hr args.toList;have Ub:args.map ρ=(args.toList.map ρ).toArray:=by rw[<-Array.toList_map,Array.toArray_toList]
   have I':∀s:Sem Value,(∀cs,builtin b ts.toArray ty cs (args.toList.map ρ).toArray=(do pure (Next.value (<-s))))->(execOp ρ ⟨dst,.call ⟨.builtin b,args,ts.toArray⟩,ty,pos,after,guard⟩)=(do pure (Next.value (<-s))):=by intro s hs;simp only[execOp,resolve,pure_bind,invoke,Ub];exact hs _
   generalize hus:args.toList.map ρ=us at*;generalize hals:args.toList.map ev=als at*;unfold nC at*;split at hq<;>try exact hq.elim
   ·rename_i t ts x als;cases us with
    |nil=>have:=U6.1;simp at this
    |cons u us=> rw[I' _ (fun _=>rfl)];exact mI hq (Lq ty t ts us hw (U6.2 0 _ _ rfl rfl))
   ·rename_i t ts x als;cases us with
    |nil=>have:=U6.1;simp at this
    |cons u us=> rw[I' _ (fun _=>rfl)];exact mI hq (PF ty t ts us (U6.2 0 _ _ rfl rfl))
   ·rw[I' _ (fun _=>rfl)];have:=F4 (P:=P) true ts.toArray ty U6;exact mI hq this
   ·rw[I' _ (fun _=>rfl)];have:=F4 (P:=P) false ts.toArray ty U6;exact mI hq this
  all_goals exact hq.elim
 all_goals exact hq.elim
end
universe u
def bn(P:Program)(f:FuncId):Bool:=match P.funcs[f]? with
 | some fn => fn.body.isSome && !(fn.name == "runtime.NumGoroutine")
 |none=>false
def aP(P:SQ)(f:FuncId)(args:SG)(r:AV):Prop:=ai P f args [] fun r' l'=>r'=r/\l'=[]
def eu(P:SQ)(f:FuncId)(args:SG)(H:Hp)(K:SD):Prop:=
 ∀(w:NW) (vs:SN),aT w H->bC w args vs->Calls P f vs w.toWorld fun e W=>∃v r H' w',W=NW.toWorld w'/\e=.returned v/\K r H'/\aT w' H'/\aB w' r v/\Ext w H w' H'
theorem eu.mono{P:SQ}{f:FuncId}{args:SG}{H:Hp}{K K':SD}(h:eu P f args H K)(hk:∀r H,K r H->K' r H):eu P f args H K':=
 fun w vs h1 h2=>(h w vs h1 h2).mono fun _ _ ⟨v,r,H',w',e0,e,k,g⟩=>⟨v,r,H',w',e0,e,hk _ _ k,g⟩
def Ay:AV->Option (FuncId×SG×SG)
 |.raw (.func (.func f) first captured)=>some (f,first.toList.map .raw,captured.toList.map .raw)
 |.fZ f cs=>some (f,[],cs)
 |.bd f fs=>some (f,fs,[])
 |_=>none
-- what follows is hidden from simp: an argument that a later one's type hangs on is held fixed
inductive io{α:Sort u}(a:α):Type
 |mk
def uN(H:Hp)(A:Nat->Prop)(_:io A):Prop:=∃i,H.get i=none/\A i
def vu(P:SQ)(H:Hp)(t:SL)(a x:AV)(K:SD):Prop:=match a,dx P t with
 |.pt i m k j,some n=>match H.get i with
  |some r=>(dp x.cells=true/\x.cells.length=n/\Cf r m k j n)/\K .any (H.put i (zh r k j x.cells))
  |none=>False
 |_,_=>False
def od(P:SQ)(H:Hp)(t:SL)(K:SD):Prop:=match ff P t with
 |some zs=>uN H (fun i=>K (.pt i 0 0 0) (H.put i (.var t (zs.map .raw)))) .mk
 |none=>False
def rJ(H:Hp)(t:SL)(x:AV)(K:SD):Prop:=dp x.cells=true/\uN H (fun i=>K (.pt i 0 0 0) (H.put i (.var t x.cells))) .mk
def wK(sz:Nat):Nat->List (Nat×AV)->Prop
 |_,[]=>True
 |k,(i,a)::rest=>(i=k/\dp a.cells=true/\a.cells.length=sz)/\wK sz (k+1) rest
theorem FW{sz:Nat}:∀{k:Nat} {l:List (Nat×AV)},wK sz k l->l.map (·.1)=List.range' k l.length/\∀p∈l,dp p.2.cells=true/\p.2.cells.length=sz
 |_,[],_=>⟨rfl,fun p hp=>by simp at hp⟩
 |k,(i,a)::rest,h=>by
  obtain⟨⟨rfl,h1,h2⟩,h3⟩:=h;obtain⟨g1,g2⟩:=FW h3;refine⟨by simp[g1,List.range'_succ],fun p hp=>?_⟩;rcases List.mem_cons.1 hp with rfl|hp
  ·exact⟨h1,h2⟩
  ·exact g2 p hp
def mK(parts:List (Nat×AV)):SE:=parts.map (·.2.cells)
def sc(e:SL)(sz:Nat)(css:SE)(H:Hp)(K:SD):Prop:=
 (ba cZ css.flatten=true/\K (.sl true sz css []) H)\/(0<sz/\∃i,H.get i=none/\K (.rs i css.length sz css.length) (H.put i (.aK e sz css)))
def nZ(P:SQ)(H:Hp)(t:SL)(n:Nat)(parts:List (Nat×AV))(K:SD):Prop:=match iT P t with
 |some e=>match dx P e with
  |some sz=>(parts.length=n/\wK sz 0 parts/\n*sz<=16777216/\(n*sz=0\/(ff P e).isSome=true))/\
   sc e sz (mK parts) H K
  |none=>False
 |none=>False
def qV(P:SQ)(ne:Bool)(t:SL)(x y:AV)(H:Hp)(K:SD):Prop:=match x,y with
 |.sl _ _ css _,.raw (.slice none 0 0)=>ir P t=true/\∀b:Bool,(b=true->css=[])->K (.raw (.bool (ne ^^ b))) H
 |.rs _ _ _ n,.raw (.slice none 0 0)=>ir P t=true/\∀b:Bool,(b=true->n=0)->K (.raw (.bool (ne ^^ b))) H
 |x,y=>(fH P (if ne then .neq else .eql) t x y).1/\K (fH P (if ne then .neq else .eql) t x y).2 H
def tO(H:Hp):AV->Option (Prop×SE)
 |.sl _ _ css _=>some (True,css)
 |.rs i m sz n=>match H.get i with
  |some (.aK _ sz' css)=>some (sz'=sz/\m=css.length/\n<=m,css.take n)
  |_=>none
 |.rv i m sz o n=>match H.get i with
  |some (.aK _ sz' css)=>some (sz'=sz/\m=css.length/\o+n<=m,(css.drop o).take n)
  |_=>none
 |.raw (.slice none 0 0)=>some (True,[])
 |_=>none
def jY(P:SQ)(t:SL):Nat:=((P.info? t).map (·.bytes)).getD 0
def room(by_ n:Nat):Prop:=n*by_<=140737488355328/\n<=9223372036854775807
def iK(css:SE)(n:Nat)(ys:SE):SE:=css.take n++ys++css.drop (n+ys.length)
def uq(i:Nat)(e:SL)(m sz n:Nat)(css ys:SE)(H:Hp)(K:SD):Prop:=if n=m then K (.rs i (m+ys.length) sz (n+ys.length)) (H.put i (.aK e sz (css++ys)))else K (.rs i (max m (n+ys.length)) sz (n+ys.length)) (H.put i (.aK e sz (iK css n ys)))
def Ng(css ys:SE):iK css css.length ys=css++ys:=by simp[iK]
variable{css:SE}{n:Nat}
def Gf(ys:SE)(h:n<=css.length):(iK css n ys).length=max css.length (n+ys.length):=by simp[iK];omega
variable{sz:Nat}{H:Hp}{K:SD}
def Ma{i:Nat}{e:SL}{ys:SE}(h:uq i e css.length sz n css ys H K):K (.rs i (max css.length (n+ys.length)) sz (n+ys.length)) (H.put i (.aK e sz (iK css n ys))):=by
 unfold uq at h;split at h
 ·rename_i e;subst e;rw[Ng,Nat.max_eq_right jB];exact h
 ·exact h
def CZ(by_:Nat)(e:SL)(sz:Nat)(ys:SE)(a:AV)(H:Hp)(K:SD):Prop:=match a with
 |.rs i m sz' n=>match H.get i with
  |some (.aK e' sz'' css)=>(e'=e/\sz'=sz/\sz''=sz/\m=css.length/\n<=m/\room by_ (n+ys.length))/\uq i e m sz n css ys H K
  |_=>False
 |.raw (.slice none 0 0)=>room by_ ys.length/\uN H (fun i=>K (.rs i ys.length sz ys.length) (H.put i (.aK e sz ys))) .mk
 |.sl true sz' css _=>(sz'=sz/\room by_ (css.length+ys.length)/\(css.length=0\/0<ys.length))/\uN H (fun i=>K (.rs i (css.length+ys.length) sz (css.length+ys.length)) (H.put i (.aK e sz (css++ys)))) .mk
 |_=>False
def xi(P:SQ)(t:SL)(a x:AV)(H:Hp)(K:SD):Prop:=match iT P t with
 |some e=>match dx P e,ff P e,tO H x with
  |some sz,some zs,some (c,ys)=>(zs.length=sz/\0<sz/\c/\lZ sz ys)/\CZ (jY P e) e sz ys a H K
  |_,_,_=>False
 |none=>False
def qs(P:SQ)(t t':SL)(a x:AV)(H:Hp)(K:SD):Prop:=
 ∀(w:NW) va vx ty,aT w H->aB w a va->aB w x vx->∃(w':NW) (H':Hp) (r:AV) (v:Value),(Builtin.append_ #[t,t'] ty #[va,vx]).run P w.toWorld=.ok v w'.toWorld/\K r H'/\aT w' H'/\aB w' r v/\Ext w H w' H'
def tC(P:SQ)(b:Builtin)(ts:List SL)(args:SG)(H:Hp)(K:SD):Prop:=
 ∀(w:NW) vs ty cs,aT w H->cA w args vs->∃(w':NW) (H':Hp) (r:AV) (v:Value),(builtin b ts.toArray ty cs vs.toArray).run P w.toWorld=.ok (.value v) w'.toWorld/\K r H'/\aT w' H'/\aB w' r v/\Ext w H w' H'
def jT(P:SQ)(o:Op)(ty:SL)(ev:SM)(H:Hp)(K:SD):Prop:=
 ∀(w:NW) ρ dst pos after guard,aT w H->(∀x∈o.operands.toList,aB w (ev x) (ρ x))->∃(w':NW) (H':Hp) (r:AV),K r H'/\aT w' H'/\Ext w H w' H'/\
  ((∃v,(execOp ρ ⟨dst,o,ty,pos,after,guard⟩).run P w.toWorld=.ok (.value v) w'.toWorld/\aB w' r v)\/((execOp ρ ⟨dst,o,ty,pos,after,guard⟩).run P w.toWorld=.ok .skip w'.toWorld/\r=.any))
def OX(P:SQ)(f:FuncId)(args:SG)(H:Hp)(K:SD):Prop:=
 ∀(w:NW) vs,aT w H->bC w args vs->∃(v:Value) (w':NW) (r:AV) (H':Hp),(callFunc f vs).run P w.toWorld=.ok (.value v) w'.toWorld/\K r H'/\aT w' H'/\aB w' r v/\Ext w H w' H'
def fz(P:SQ)(f:AV)(args:SG)(H:Hp)(K:SD):Prop:=match Ay f with
 |some (f,first,captured)=>(bn P f=true/\eu P f (first++args++captured) H K)\/OX P f (first++args++captured) H K
 |none=>False
def dI:Op->Bool
 |.box .. |.alloc _|.store .. |.buildSlice .. |.makeMap .. |.makeSlice .. |.mapUpdate .. |.insert .. |.lookup .. |.range .. |.next .. |.entry .. |.typeAssert ..=>false
 |.binOp .eql .. |.binOp .neq ..=>false
 |.call { callee:=.builtin b,.. }=>match b with
  |.len|.cap|.max|.min=>true
  |_=>false
 |.call _=>false
 |_=>true
def vc(P:SQ)(ev:SM)(H:Hp)(ty:SL)(K:SD):Op->Prop
 |.box t x=>rJ H t (ev x) K
 |.alloc t=>od P H t K
 |.store t a x=>vu P H t (ev a) (ev x) K
 |.buildSlice t n parts=>nZ P H t n (parts.toList.map fun p=>(p.1,ev p.2)) K
 |.binOp .eql t x y _=>qV P false t (ev x) (ev y) H K
 |.binOp .neq t x y _=>qV P true t (ev x) (ev y) H K
 |.call { callee:=.value f,args,.. }=>fz P (ev f) (args.toList.map ev) H K
 |.call { callee:=.builtin .append,args,argTypes }=>match argTypes.toList,args.toList with
  |[t,t'],[a,x]=>qs P t t' (ev a) (ev x) H K
  |_,_=>False
 |.call { callee:=.builtin b,args,argTypes }=>if dI (.call ⟨.builtin b,args,argTypes⟩)then(vq P ev H (.call ⟨.builtin b,args,argTypes⟩)).1/\K (vq P ev H (.call ⟨.builtin b,args,argTypes⟩)).2 H else tC P b argTypes.toList (args.toList.map ev) H K
 |o=>if dI o then(vq P ev H o).1/\K (vq P ev H o).2 H else jT P o ty ev H K
section
variable {P:SQ}{ops:Array Oper}{F:SG}{H:Hp}
variable{K:SD}
def Q8{o:Oper}(hq:(vq P (bZ F) H o.op).1)(hk:K (vq P (bZ F) H o.op).2 H):DA P o F H K:=fun w tm h1 h2=>by obtain⟨v,hr,hv⟩:=yr o h1 (fun x=>h2.eval [] x) hq;exact⟨w,H,_,hk,h1,Ext.refl w H,.inl ⟨v,hr,hv⟩⟩
theorem E8{sz:Nat}:∀(parts:List (Nat×AV)) (k:Nat) (pre zs:SG),parts.map (·.1)=List.range' k parts.length->(∀p∈parts,p.2.cells.length=sz)->pre.length=k*sz->zs.length=parts.length*sz->
  rD (fun i=>some (i*sz,sz)) (pre++zs) parts=some (pre++(parts.map (·.2.cells)).flatten)
 |[],k,pre,zs,_,_,_,hz=>by
  have:zs=[]:=by simpa using hz
  simp[rD,this]
 |(i,a)::parts,k,pre,zs,hp,hs,hk,hz=>by
  simp only[List.map_cons,List.length_cons,List.range'_succ,List.cons.injEq]at hp;obtain⟨rfl,hp⟩:=hp;have ha:a.cells.length=sz:=hs (i,a) jE;have Uw:zs.length=parts.length*sz+sz:=by rw[hz,List.length_cons,Nat.add_mul,Nat.one_mul]
  simp only[rD];rw[if_pos ⟨ha,by simp;omega⟩];have e:kQ (pre++zs) (i*sz) a.cells=(pre++a.cells)++zs.drop sz:=by
   unfold kQ;rw[<-hk,List.take_left',List.drop_append,ha]
   ·simp
   ·rfl
  rw[e,E8 parts (i+1) (pre++a.cells) (zs.drop sz) hp (fun p hp=>hs p (by simp[hp])) (by simp[hk,ha,Nat.add_mul]) jF];simp[List.append_assoc]
variable{w:NW}
def Kk{l:SG}{vs:SO}(h:cA w l vs){k:Nat}{u:AV}(hu:l[k]?=some u):aB w u (vs.toArray.getD k undef):=by
 have hk:k<vs.length:=by rw[<-h.1];exact(List.getElem?_eq_some_iff.1 hu).1
 refine h.2 k u _ hu ?_;simp[hk]
variable{t:SL}
def OD{n:Nat}{parts:List (Nat×AV)}{vparts:Array (Nat×Value)}(hw:aT w H)(h1:parts.map (·.1)=vparts.toList.map (·.1))(h2:∀(i:Nat) a v,parts[i]?=some a->vparts.toList[i]?=some v->aB w a.2 v.2)
  (hv:nZ P H t n parts K):∃(w':NW) (H':Hp) (r:AV) (v:Value),(Instr.buildSlice t n vparts).run P w.toWorld=.ok v w'.toWorld/\K r H'/\aT w' H'/\aB w' r v/\Ext w H w' H':=by
 unfold nZ at hv;split at hv;rotate_left
 ·exact hv.elim
 rename_i e he;split at hv;rotate_left
 ·exact hv.elim
 rename_i sz VF;obtain⟨⟨D',hok,hn,hz⟩,hk⟩:=hv;have hu:P.underlying t=some (.slice e):=by unfold iT at he;split at he<;>simp_all
 obtain⟨hp,hs⟩:=FW hok;rw[D',<-List.range_eq_range']at hp;have hzr:∃z:SN,(n*sz=0/\z=#[])\/(n*sz≠0/\∃v,(zeroValue e).run P w.toWorld=.ok v w.toWorld/\v.cells=z):=by
  by_cases h0:n*sz=0
  ·exact⟨#[],.inl ⟨h0,rfl⟩⟩
  ·have Uw:=hz.resolve_left h0;obtain⟨zs,Yc⟩:=Option.isSome_iff_exists.1 Uw;obtain⟨z,XN,_⟩:=zS (w:=w.toWorld) Yc;exact⟨z.cells,.inr ⟨h0,z,XN,rfl⟩⟩
 obtain⟨z,hz⟩:=hzr;generalize V0:(Array.range (n*sz)).map (z[· % z.size]!)=cur;have UG:cur.size=n*sz:=by subst V0;simp
 have hf:=E8 (sz:=sz) parts 0 [] (cur.toList.map .raw) (by rw[hp,D',List.range_eq_range']) (fun p hp=>(hs p hp).2) jE (by simp[UG,D']);simp only[List.nil_append]at hf;obtain⟨vs,g1,g2⟩:=As (w:=w) (cur:=cur) hf h1 (fun i a v ha hv=>(h2 i a v ha hv).gL (hs _ (List.mem_of_getElem? ha)).1)
  ⟨jE,fun i a v ha hv=>by simp only[List.getElem?_map,Option.map_eq_some_iff]at ha;obtain⟨x,hx,rfl⟩:=ha;rw[hx]at hv;cases hv;exact .raw _⟩
 have I':(Instr.buildSlice t n vparts).run P w.toWorld=.ok (.slice (some ⟨w.heap.size,0,none⟩) n n) (w.alloc (.cells vs e)):=by
  have UH:¬(n*sz>2 ^ 24):=jB;rcases hz with⟨h0,rfl⟩|⟨h0,v,hv,rfl⟩
  ·simp only[Instr.buildSlice,Sem.run_bind,run_underlying hu,Result.andThen_ok,mL VF,if_neg UH,if_pos h0,Sem.run_pure,V0,g1,newRow,run_newObj];rfl
  ·simp only[Instr.buildSlice,Sem.run_bind,run_underlying hu,Result.andThen_ok,mL VF,if_neg UH,if_neg h0,hv,Sem.run_pure,V0,g1,newRow,run_newObj];rfl
 have WD:(mK parts).length=n:=by simp[mK,D']
 have TK:∀cs∈mK parts,cs.length=sz:=fun cs UG=>by obtain⟨p,hp,rfl⟩:=List.mem_map.1 UG;exact(hs p hp).2
 have Uk:(mK parts).flatten.length=n*sz:=by rw[kW TK,WD]
 have Y7:vs.size=n*sz:=by have:=g2.1;simp only[Array.length_toList]at this;rw[<-this];exact Uk
 rcases hk with⟨Td,hk⟩|⟨h0,i,hi,hk⟩
 ·have ex:=Ext.fy hw (.cells vs e);refine⟨_,H,_,_,I',hk,hw.fy _,?_,ex⟩;by_cases h0:n=0
  ·have:mK parts=[]:=List.length_eq_zero_iff.1 jB;rw[this,h0];exact .gw true sz _ 0 (fun _=>rfl)
  ·have:=aB.sl (w:=w.to (w.alloc (.cells vs e))) (d:=[]) true sz (mK parts) ⟨w.heap.size,0,none⟩ n (fun j=>vs.getD j undef) jB jB (fun _=>⟨WD.symm,vs,e,heap_alloc_new w.toWorld _⟩) TK jE (fun h=>by have:=hw.fin _ h;simp at this) (fun i j hi hj=>by
    rw[lN,uo w.heap.size _ vs e (0,0) (heap_alloc_new w.toWorld _)];have:=An hi hj;rw[WD]at this;simp[show i*sz+j<vs.size from jB]) (fun i j u hi hu=>by
    have hj:j<sz:=by have:=(List.getElem?_eq_some_iff.1 hu).1;rwa [uS TK hi]at this
    have hx:=Kk g2 (k:=i*sz+j) (u:=u) (by rw[<-hu];exact qU TK hi hj);rw[Array.toArray_toList]at hx;refine(hx.lm (nb Td (i:=i*sz+j) (by rw[<-hu];exact qU TK hi hj))).bj ex.toKeep.bare (pd u))
   rw[WD]at this;exact this
 ·obtain⟨q1,q2⟩:=wa (row:=.aK e sz (mK parts)) hw (hw.none hi _) (fun r' hr=>by rw[hi]at hr;cases hr) ⟨h0,TK⟩ vs ⟨rfl,by show(mK parts).flatten.length<=_;omega⟩ (fun k a v ha hv=>g2.2 k a v ha (by simpa using hv));refine⟨_,_,_,_,I',hk,q1,?_,q2⟩;have:=aB.rs (w:=((w.to (w.alloc ((Row.aK e sz (mK parts)).obj vs))).ga w.heap.size).name i (Row.aK e sz (mK parts)).fY (.at w.heap.size vs.size (Row.aK e sz (mK parts)).bL)) i (mK parts).length sz (mK parts).length w.heap.size vs.size n (NW.cw _ _ _ _) Y7.symm jB h0;rw[WD]at this ⊢;exact this
def G4(ne:Bool)(t:SL){a b:AV}{va vb:Value}(x y:Operand)(ha:aB w a va)(hb:aB w b vb)(hv:qV P ne t a b H K) :
  ∃r v,(do eqGuard (if ne then .neq else .eql) t x y va vb;binOp (if ne then .neq else .eql) t va vb:Sem Value).run P w.toWorld=.ok v w.toWorld/\K r H/\aB w r v:=by
 have key:∀{n:Nat},ir P t=true->(∀b:Bool,(b=true->n=0)->K (.raw (.bool (ne ^^ b))) H)->(∃A c,va=.slice A n c/\(A=none->n=0))->vb=.slice none 0 0->
   ∃r v,(do eqGuard (if ne then .neq else .eql) t x y va vb;binOp (if ne then .neq else .eql) t va vb:Sem Value).run P w.toWorld=.ok v w.toWorld/\K r H/\aB w r v:=fun{n} h1 h2 h3 h4=>by
  obtain⟨e,hu⟩:=qP h1;obtain⟨A,c,rfl,hA⟩:=h3;subst h4;have he:(Op.equal t (.slice A n c) (.slice none 0 0)).run P w.toWorld=.ok A.isNone w.toWorld:=by refine rz (fun d=>?_);cases A<;>simp[Op.equalIn,run_underlying hu]
  obtain⟨v,h1,h3⟩:=ri (P:=P) (w:=w) (ne:=ne) (t:=t) (x:=x) (y:=y) (fun op=>eqGuard_at_slice _ _ _ _ _ _ _ _) rfl rfl he;exact⟨_,v,h1,h2 A.isNone (fun h=>hA (by simpa using h)),h3⟩
 unfold qV at hv;split at hv
 ·rename_i z sz css _;refine key (n:=css.length) hv.1 (fun b hb=>hv.2 b fun h=>List.length_eq_zero_iff.1 (hb h)) ?_ (dH hb);cases ha with
  |gw _ _ A c _=>exact⟨A,c,rfl,fun _=>rfl⟩
  |sl _ _ _ ad c _ _ _ _ _ _ _ _ _=>exact⟨some ad,c,rfl,fun h=>by cases h⟩
 ·rename_i i m sz n;refine key (n:=n) hv.1 hv.2 ?_ (dH hb);cases ha with
  |iV _ _ _ A _=>exact⟨A,0,rfl,fun _=>rfl⟩
  |rs _ _ _ _ b t c _ _ _ _=>exact⟨some ⟨b,0,none⟩,c,rfl,fun h=>by cases h⟩
 ·obtain⟨v,h1,h2⟩:=Gm (P:=P) (if ne then .neq else .eql) t x y ha hb hv.1;exact⟨_,v,h1,hv.2,h2⟩
-- appends
def cA.append{a b:SG}{x y:SO}(h:cA w a x)(k:cA w b y):cA w (a++b) (x++y):=by
 refine⟨by simp[h.1,k.1],fun i u v hu hv=>?_⟩;rcases Nat.lt_or_ge i a.length with h1|h1
 ·rw[List.getElem?_append_left h1]at hu;rw[List.getElem?_append_left (by rw[<-h.1];exact h1)]at hv;exact h.2 i u v hu hv
 ·rw[List.getElem?_append_right h1]at hu;rw[List.getElem?_append_right (by rw[<-h.1];exact h1),<-h.1]at hv;exact k.2 _ u v hu hv
def CB(w:NW)(sz:Nat)(v:Value)(ys:SE):Prop:=∃A c news,v=.slice A ys.length c/\cA w ys.flatten news/\(0<ys.length->∃ad,A=some ad/\∀(j:Nat) v,news[j]?=some v->w.cell? (ad.add j)=some v)
variable{sz:Nat}
def uT(A:Option Addr)(c:Nat):CB w sz (.slice A 0 c) []:=⟨A,c,[],rfl,⟨rfl,fun i a v h=>by simp at h⟩,fun h=>by simp at h⟩
variable{ys:SE}
def Bz{c:Nat}{ad:Addr}(hl:∀y∈ys,y.length=sz)(h:∀i j,i<ys.length->j<sz->∃v,w.cell? (ad.add (i*sz+j))=some v/\∀u,(ys.getD i [])[j]?=some u->aB w u v):CB w sz (.slice (some ad) ys.length c) ys:=by
 have Uk:=kW hl;refine⟨some ad,c,(List.range (ys.length*sz)).map fun k=>(w.cell? (ad.add k)).getD undef,rfl,⟨by simp[Uk],fun k a v ha hv=>?_⟩,fun _=>⟨ad,rfl,fun k v hv=>?_⟩⟩
 ·have hk:k<ys.length*sz:=by have:=(List.getElem?_eq_some_iff.1 ha).1;omega
  obtain⟨i,j,hi,hj,rfl⟩:=v6 hk;rw[qU hl hi hj]at ha;obtain⟨v',h1,h2⟩:=h i j hi hj;simp only[List.getElem?_map,List.getElem?_range hk,Option.map_some,Option.some.injEq,h1,Option.getD_some]at hv;subst hv;exact h2 a ha
 ·have hk:k<ys.length*sz:=by have:=(List.getElem?_eq_some_iff.1 hv).1;simpa using this
  obtain⟨i,j,hi,hj,rfl⟩:=v6 hk;obtain⟨v',h1,h2⟩:=h i j hi hj;simp only[List.getElem?_map,List.getElem?_range hk,Option.map_some,Option.some.injEq,h1,Option.getD_some]at hv;subst hv;exact h1
variable{css:SE}
def tM(hw:aT w H){i:Nat}{e:SL}{b t s:Nat}(hi:H.get i=some (.aK e sz css))(hn:w.nm i css.length=some (.at b t s)){k j:Nat}(hk:k<css.length)(hj:j<sz) :
  s=sz/\(∀cs∈css,cs.length=sz)/\css.length*sz<=t/\∃v,w.cell? ⟨b,k*sz+j,none⟩=some v/\∀u,(css.getD k [])[j]?=some u->aB w u v:=by
 obtain⟨hok,z,hz,Tp⟩:=hw.rows i _ hi;have:z=.at b t s:=by have hz:w.nm i css.length=some z:=hz;rw[hn]at hz;cases hz;rfl
 subst this;obtain⟨hs_,cur,hh,⟨hs,hl⟩,hr⟩:=Tp;have hs_:sz=s:=hs_.symm;subst hs_;have Uk:(Row.aK e sz css).cells.length=css.length*sz:=kW hok.2;have h3:=An hk hj;have h4:k*sz+j<cur.size:=jB;refine⟨rfl,hok.2,jB,cur[k*sz+j],?_,fun u hu=>?_⟩
 ·rw[uo b _ cur _ (0,0) hh];simp[h4]
 ·refine hr (k*sz+j) u _ ?_ (by simp[h4]);show css.flatten[k*sz+j]?=some u;rw[qU hok.2 hk hj];exact hu
def H8(hw:aT w H){x:AV}{vx:Value}(hx:aB w x vx){c:Prop}(h:tO H x=some (c,ys))(hc:c)(hg:lZ sz ys):CB w sz vx ys:=by
 unfold tO at h;split at h
 ·rename_i xx sz' css _;cases h;cases hx with
  |gw=>exact uT _ _
  |sl _ _ _ ad c vs hn TD hx SY hb hH J' hr=>
   have hz:sz'=sz:=by rw[<-SY (ys[0]) (List.getElem_mem hn),(hg _ (List.getElem_mem hn)).1]
   subst hz;exact Bz SY fun i j hi hj=>⟨_,J' i j hi hj,fun u hu=>(hr i j u hi hu).mA⟩
 ·rename_i i m sz' n;split at h
  ·rename_i e sz2 css hi;cases h;obtain⟨rfl,rfl,hn⟩:=hc;cases hx with
   |iV _ _ _ A Tm=>rw[List.take_zero];exact uT _ _
   |rs _ _ _ _ b t c Tm TD Ta U4=>
    have D':(css.take n).length=n:=by simp;omega
    by_cases h0:n=0
    ·subst h0;rw[List.take_zero];exact uT _ _
    have hz:sz2=sz:=by obtain⟨_,Tv,_⟩:=tM hw hi Tm (k:=0) (j:=0) jB U4;have h1:(css.take n)[0]' jB∈css.take n:=List.getElem_mem _;rw[<-Tv _ (List.mem_of_mem_take h1),(hg _ h1).1]
    subst hz;have:=Bz (w:=w) (sz:=sz2) (c:=c) (ys:=css.take n) (ad:=⟨b,0,none⟩) (fun y hy=>(hg y hy).1) fun i' j UN hj=>by obtain⟨_,_,_,v,h1,h2⟩:=tM hw hi Tm (k:=i') (j:=j) jB hj;refine⟨v,by rw[lN,Nat.zero_add];exact h1,fun u hu=>h2 u ?_⟩;rw[<-hu];simp[List.getElem?_take,show i'<n from jB]
    rw[D']at this;exact this
  ·cases h
 ·rename_i i m sz' o n;split at h
  ·rename_i e sz2 css hi;cases h;obtain⟨rfl,rfl,hn⟩:=hc;have D':((css.drop o).take n).length=n:=by simp;omega
   cases hx with
   |lV _ _ _ _ A=>rw[List.take_zero];exact uT _ _
   |rv _ _ _ _ _ b t c Tm Ta=>
    by_cases h0:n=0
    ·subst h0;rw[List.take_zero];exact uT _ _
    have h1:((css.drop o).take n)[0]' jB∈(css.drop o).take n:=List.getElem_mem _;obtain⟨hok,_⟩:=hw.rows i _ hi;have hz:sz2=sz:=by rw[<-hok.2 _ (List.mem_of_mem_drop (List.mem_of_mem_take h1)),(hg _ h1).1]
    subst hz;have:=Bz (w:=w) (sz:=sz2) (c:=c) (ys:=(css.drop o).take n) (ad:=⟨b,o*sz2,none⟩) (fun y hy=>(hg y hy).1) fun i' j UN hj=>by obtain⟨_,_,_,v,h1,h2⟩:=tM hw hi Tm (k:=o+i') (j:=j) jB hj;refine⟨v,by rw[lN,<-Nat.add_assoc,<-Nat.add_mul];exact h1,fun u hu=>h2 u ?_⟩;rw[<-hu];simp[List.getElem?_take,show i'<n from jB]
    rw[D']at this;exact this
  ·cases h
 ·cases h;have:=dH hx;subst this;exact uT _ _
 ·cases h
def Dv{e:SL}(he:iT P t=some e):P.underlying t=some (.slice e):=by unfold iT at he;split at he<;>simp_all
def CX{e:SL}{zs:SO}(SY:dx P e=some sz)(hz:ff P e=some zs)(hl:zs.length=sz):∃i z,P.info? e=some i/\i.size=sz/\i.zero=some z/\z.cells.size=sz/\jY P e=i.bytes:=by
 unfold dx at SY;cases hi:P.info? e with
 |none=>rw[hi]at SY;cases SY
 |some i=> rw[hi]at SY;unfold ff at hz;rw[hi]at hz;simp only[Option.bind_some,Option.map_eq_some_iff]at hz;obtain⟨z,XN,Xs⟩:=hz;refine⟨i,z,rfl,by simpa using SY,XN,?_,by simp[jY,hi]⟩;rw[<-hl,<-Xs];simp
def tK(hw:aT w H){i:Nat}{e:SL}{cap:Nat}{cS:SO}{rest:SN}(h0:0<sz)(D':∀cs∈css,cs.length=sz)(Tj:cA w css.flatten cS)(V1:css.length<=cap)(Ti:rest.size=(cap-css.length)*sz)
  (WL:w.nm i css.length=none) (VY:∀r,H.get i=some r->r.fY<=css.length) :
  ∃w':NW,w'.toWorld=w.drew.alloc (.cells (cS.toArray++rest) e)/\aT w' (H.put i (.aK e sz css))/\Ext w H w' (H.put i (.aK e sz css))/\aB w' (.rs i css.length sz css.length) (.slice (some ⟨w.heap.size,0,none⟩) css.length cap):=by
 have Uk:=kW D';have Ya:cS.length=css.length*sz:=by rw[<-Tj.1,Uk]
 have SY:(cS.toArray++rest).size=cap*sz:=by simp only[Array.size_append,List.size_toArray,Ya,Ti];rw[<-Nat.add_mul];congr 1;omega
 have Ta:=Nat.mul_le_mul_right sz V1;obtain⟨g1,g2⟩:=wa (row:=.aK e sz css) hw.drew WL VY ⟨h0,D'⟩ (cS.toArray++rest) ⟨rfl,by show css.flatten.length<=_;omega⟩ (fun k a v ha hv=>by
  have hi:k<cS.length:=by rw[<-Tj.1];exact(List.getElem?_eq_some_iff.1 ha).1
  rw[Array.getElem?_append_left (by simpa using hi)]at hv;exact(Tj.2 k a v ha (by simpa using hv)).ext (Ext.drew w H))
 refine⟨_,rfl,g1,(Ext.drew w H).trans g2,?_⟩;exact aB.rs i css.length sz css.length w.heap.size (cS.toArray++rest).size cap (NW.cw _ _ _ _) SY.symm V1 h0
def G9{a x:AV}(h:xi P t a x H K):qs P t t a x H K:=by
 intro w va vx ty hw V2 Y8;unfold xi at h;split at h;rotate_left
 ·exact h.elim
 rename_i e he;split at h;rotate_left
 ·exact h.elim
 rename_i sz zs c ys VF hze Yd;obtain⟨⟨Wc,h0,hc,hg⟩,h⟩:=h;have hu:=Dv he;obtain⟨i,z,hi,TQ,Wo,Yc,YM⟩:=CX VF hze Wc;obtain⟨A,cx,news,rfl,TT,UR⟩:=H8 hw Y8 Yd hc hg;have Uk:ys.flatten.length=ys.length*sz:=kW fun y hy=>(hg y hy).1
 have Vx:news.length=ys.length*sz:=by rw[<-TT.1,Uk]
 have Xk:∀m,(Builtin.zeroCells z.cells m).size=m*sz:=fun m=>by simp[Builtin.zeroCells,Yc]
 have Vy:∀need old,need<=grownCap w.toWorld need old e:=fun need old=>by unfold grownCap Question.cut;simp
 have VG:dp ys.flatten=true:=by simp only[dp,List.all_eq_true];intro u Y9;obtain⟨y,hy,huy⟩:=List.mem_flatten.1 Y9;have:=(hg y hy).2;simp only[dp,List.all_eq_true]at this;exact this u huy
 have YN:∀A:Option Addr,ys.length=0->(Builtin.firstCells i.size 0 (.slice A 0 cx)).run P w.toWorld=.ok #[] w.toWorld:=fun A _=>by cases A<;>simp[Builtin.firstCells,loadCells,loadCellsFrom]
 rw[YM]at h;unfold CZ at h;split at h
 ·-- a row of one's own
  rename_i d m sz' n;split at h;rotate_left
  ·exact h.elim
  rename_i e' sz2 css hd;obtain⟨⟨rfl,rfl,rfl,rfl,Y',Ux,YO⟩,hk⟩:=h;have hk:=Ma hk;have hok:=(hw.rows d _ hd).1;have TL:∀cs∈iK css n ys,cs.length=sz2:=fun cs h=>by
   unfold iK at h;rcases List.mem_append.1 h with h|h
   ·rcases List.mem_append.1 h with h|h
    ·exact hok.2 _ (List.mem_of_mem_take h)
    ·exact(hg cs h).1
   ·exact hok.2 _ (List.mem_of_mem_drop h)
  have V3:=kW hok.2;have TA:=Gf ys Y';cases V2 with
  |iV _ _ _ A Tm=>
   -- nowhere yet
   obtain⟨_,z',Uw,Tp⟩:=hw.rows d _ hd;have:z'=.nil:=by have Uw:w.nm d css.length=some z':=Uw;rw[Tm]at Uw;cases Uw;rfl
   subst this;obtain⟨e2,sz3,Tp⟩:=Tp;cases Tp;simp only[iK,List.take_nil,List.drop_nil,List.append_nil,List.nil_append,List.length_nil,Nat.zero_add,Nat.zero_max]at hk TA;by_cases hy:ys.length=0
   ·have:ys=[]:=List.length_eq_zero_iff.1 hy;subst this;refine⟨w,_,_,.slice A 0 0,?_,hk,?_,.iV _ _ _ _ Tm,?_⟩
    ·cases A<;>simp[Builtin.append_,run_underlying hu,sizeOf,typeInfo,hi,Builtin.lenOf,YN,storeCells]
    ·refine{ hw with rows:=fun j r hj=>?_,dZ:=fun j q z hz=>?_ }
     ·rw[Hp.bs]at hj;split at hj
      ·rename_i e;subst e;exact hw.rows j r (by rw[hd];exact hj)
      ·exact hw.rows j r hj
     ·rw[Hp.bs];split
      ·rename_i e;subst e;obtain⟨r,g1,g2⟩:=hw.dZ j q z hz;rw[hd]at g1;cases g1;exact⟨_,rfl,g2⟩
      ·exact hw.dZ j q z hz
    ·exact{ Ext.refl w H with base:=rfl }
   ·obtain⟨ad,rfl,J'⟩:=UR jB;obtain⟨w',e1,g1,g2,g3⟩:=tK (i:=d) (e:=e') (cap:=grownCap w.toWorld ys.length 0 e') (css:=ys) (rest:=Builtin.zeroCells z.cells (grownCap w.toWorld ys.length 0 e'-ys.length)) hw h0 (fun y hy=>(hg y hy).1) TT (Vy _ _) (Xk _) (hw.later hd (by show([]:SE).length<_;simp;omega)) (fun r hr=>by rw[hd]at hr;cases hr;exact Nat.zero_le _);refine⟨w',_,_,_,?_,hk,by simpa using g1,by simpa using g3,by simpa using g2⟩;rw[e1];cases A with
    |none=> have:=run_append_nil w.toWorld t ty e' i z hu hi Wo ad ys.length cx news (by rw[TQ];exact Vx) J' jB (by simp at YO;omega) (by simp at Ux;omega);exact this
    |some b=>
     have:=run_append_grow (P:=P) w.toWorld t ty e' i z hu hi Wo b 0 0 [] jE (fun j v h=>by simp at h) ad ys.length cx news (by rw[TQ];exact Vx) J' jB (by simp at YO;simp;omega) (by rw[Nat.zero_add,nextslicecap_zero jB];simp at Ux;omega)
     simpa using this
  |rs _ _ _ _ b t' cap Tm WB Ta U4=>
   obtain⟨_,z',Uw,Tp⟩:=hw.rows d _ hd;have:z'=.at b t' sz2:=by have Uw:w.nm d css.length=some z':=Uw;rw[Tm]at Uw;cases Uw;rfl
   subst this;obtain⟨_,cur,hh,⟨UG,S9⟩,Xt⟩:=Tp;have hh:w.heap[b]?=some (.cells cur e' (0,0)):=hh;have S9:css.flatten.length<=t':=S9;have V1:css.length<=cap:=by rw[V3,<-WB]at S9;exact Nat.le_of_mul_le_mul_right S9 h0
   have Wd:(css.take n).flatten.length=n*sz2:=by rw[kW fun c hc=>hok.2 c (List.mem_of_mem_take hc),List.length_take,Nat.min_eq_left Y']
   have Za:(css.take n).flatten=css.flatten.take (n*sz2):=by
    have:css.flatten=(css.take n).flatten++(css.drop n).flatten:=by rw[<-List.flatten_append,List.take_append_drop]
    rw[this,<-Wd,List.take_left'];rfl
   by_cases TJ:n+ys.length<=cap
   ·-- in place
    have Vn:n*sz2+ys.flatten.length<=t':=by rw[Uk,<-Nat.add_mul,<-WB];exact Nat.mul_le_mul_right _ TJ
    obtain⟨w',I',g1,g2,g3⟩:=xF (P:=P) (off:=n*sz2) (r':=.aK e' sz2 (iK css n ys)) hw hd Tm TT VG Vn rfl rfl rfl rfl (by show css.length<=(iK css n ys).length;rw[TA];omega) ⟨h0,TL⟩ (by show(iK css n ys).flatten.length<=t';rw[kW TL,TA,<-WB];exact Nat.mul_le_mul_right _ (Nat.max_le.2 ⟨V1,TJ⟩)) (fun p u hp=>by
     have hp:(iK css n ys).flatten[p]?=some u:=hp;unfold iK at hp;rw[List.flatten_append,List.flatten_append]at hp;show if _ then _ else css.flatten[p]?=some u
     rcases Nat.lt_or_ge p (n*sz2)with h|h
     ·rw[jN];rw[List.getElem?_append_left (by simp only[List.length_append];omega),List.getElem?_append_left jB,Za,List.getElem?_take,if_pos h]at hp;exact hp
     ·rcases Nat.lt_or_ge p (n*sz2+ys.flatten.length)with h'|h'
      ·rw[if_pos ⟨h,h'⟩];rw[List.getElem?_append_left (by simp only[List.length_append];omega),List.getElem?_append_right jB,Wd]at hp;exact hp
      ·rw[jN];rw[List.getElem?_append_right (by simp only[List.length_append];omega)]at hp;have e2:css.flatten=(css.take (n+ys.length)).flatten++(css.drop (n+ys.length)).flatten:=by rw[<-List.flatten_append,List.take_append_drop]
       have SX:=(List.getElem?_eq_some_iff.1 hp).1;have hnk:n+ys.length<=css.length:=by
        rcases Nat.lt_or_ge css.length (n+ys.length)with h6|h6
        ·rw[List.drop_eq_nil_of_le jB]at SX;simp at SX
        ·exact h6
       have e3:(css.take (n+ys.length)).flatten.length=n*sz2+ys.flatten.length:=by rw[kW fun c hc=>hok.2 c (List.mem_of_mem_take hc),List.length_take,Nat.min_eq_left hnk,Uk,Nat.add_mul]
       rw[e2,List.getElem?_append_right jB,e3];simp only[List.length_append,Wd]at hp;exact hp)
    refine⟨w',_,_,.slice (some ⟨b,0,none⟩) (n+ys.length) cap,?_,hk,g1,?_,g2⟩
    ·have hf:(Builtin.firstCells i.size ys.length (.slice A ys.length cx)).run P w.toWorld=.ok news.toArray w.toWorld:=by
      by_cases h0:ys.length=0
      ·have:news=[]:=by have:=Vx;rw[h0,Nat.zero_mul]at this;simpa using this
       subst this;rw[h0];cases A<;>simp[Builtin.firstCells,loadCells,loadCellsFrom]
      ·obtain⟨ad,rfl,J'⟩:=UR jB;exact run_firstCells_some (P:=P) w.toWorld i.size ys.length ad ys.length cx news (by rw[TQ];exact Vx) J'
     have Xu:(⟨b,0,none⟩:Addr).add (n*sz2)=⟨b,n*sz2,none⟩:=by rw[lN];simp
     rw[TQ]at hf;simp[Builtin.append_,run_underlying hu,sizeOf,typeInfo,hi,Builtin.lenOf,TJ,hf,TQ,Xu,I']
    ·have g3:w'.nm d (max css.length (n+ys.length))=some (.at b t' sz2):=by rw[<-TA];exact g3
     exact .rs d _ sz2 _ b t' cap g3 WB TJ U4
   ·-- a new row
    have Tk:0<ys.length:=jB;obtain⟨ad,rfl,J'⟩:=UR Tk;have hov:iK css n ys=css.take n++ys:=by unfold iK;rw[List.drop_eq_nil_of_le jB,List.append_nil]
    have Xr:max css.length (n+ys.length)=n+ys.length:=Nat.max_eq_right jB;rw[hov]at hk TL TA;rw[Xr]at hk TA;have hold:cA w (css.take n).flatten (cur.toList.take (n*sz2)):=by
     refine⟨by simp only[List.length_take,Array.length_toList];have:=Nat.mul_le_mul_right sz2 Ta;omega,fun k a v XO hv=>?_⟩;rw[List.getElem?_take]at hv;split at hv
     ·rename_i hkn;rw[Za,List.getElem?_take,if_pos hkn]at XO;exact Xt k a v XO (by simpa using hv)
     ·cases hv
    have Tv:=hold.append TT;rw[<-List.flatten_append]at Tv;obtain⟨w',e1,g1,g2,g3⟩:=tK (i:=d) (e:=e') (cap:=grownCap w.toWorld (n+ys.length) cap e') (css:=css.take n++ys) (rest:=Builtin.zeroCells z.cells (grownCap w.toWorld (n+ys.length) cap e'-(n+ys.length))) hw h0 TL Tv (by rw[TA];exact Vy _ _) (by rw[TA];exact Xk _) (hw.later hd (by show css.length<_;rw[TA];omega)) (fun r hr=>by rw[hd]at hr;cases hr;show css.length<=_;rw[TA];omega);rw[TA]at g3;refine⟨w',_,_,_,?_,hk,g1,g3,g2⟩;rw[e1];have:=run_append_grow (P:=P) w.toWorld t ty e' i z hu hi Wo ⟨b,0,none⟩ n cap (cur.toList.take (n*sz2)) (by rw[<-hold.1,Wd,TQ]) (fun k v hv=>by
     rw[List.getElem?_take]at hv;split at hv
     ·rw[lN,uo b _ cur e' (0,0) hh,Nat.zero_add];simpa using hv
     ·cases hv) ad ys.length cx news (by rw[TQ];exact Vx) J' jB jB (growslice_fits jB jB)
    rw[this];congr 3
    apply Array.ext';simp
 ·-- nothing
  obtain⟨⟨Ux,YO⟩,d,hd,hk⟩:=h;have:=dH V2;subst this;by_cases hy:ys.length=0
  ·have:ys=[]:=List.length_eq_zero_iff.1 hy;subst this;obtain⟨g1,g2⟩:=xY hw hd e h0;refine⟨_,_,_,.slice none 0 0,?_,hk,g1,.iV _ _ _ _ (NW.cw _ _ _ _),g2⟩;have:(Builtin.append_ #[t,t] ty #[.slice none 0 0,.slice A 0 cx]).run P w.toWorld=.ok (.slice none 0 0) w.toWorld:=by
    simp[Builtin.append_,run_underlying hu,sizeOf,typeInfo,hi,Builtin.lenOf,YN,storeCells]
   exact this
  ·obtain⟨ad,rfl,J'⟩:=UR jB;obtain⟨w',e1,g1,g2,g3⟩:=tK (i:=d) (e:=e) (cap:=grownCap w.toWorld ys.length 0 e) (css:=ys) (rest:=Builtin.zeroCells z.cells (grownCap w.toWorld ys.length 0 e-ys.length)) hw h0 (fun y hy=>(hg y hy).1) TT (Vy _ _) (Xk _) (hw.none hd _) (fun r hr=>by rw[hd]at hr;cases hr);refine⟨w',_,_,_,?_,hk,g1,g3,g2⟩;rw[e1];exact run_append_nil w.toWorld t ty e i z hu hi Wo ad ys.length cx news (by rw[TQ];exact Vx) J' jB jB jB
 ·-- a literal
  rename_i sz' css _;obtain⟨⟨rfl,⟨Ux,YO⟩,hor⟩,d,hd,hk⟩:=h;have TA:(css++ys).length=css.length+ys.length:=List.length_append;cases V2 with
  |gw _ _ A' c' hx=>
   have Xv:=hx rfl;subst Xv;by_cases hy:ys.length=0
   ·have:ys=[]:=List.length_eq_zero_iff.1 hy;subst this;obtain⟨g1,g2⟩:=xY hw hd e h0;refine⟨_,_,_,.slice A' 0 0,?_,hk,g1,.iV _ _ _ _ (NW.cw _ _ _ _),g2⟩;have:(Builtin.append_ #[t,t] ty #[.slice A' 0 0,.slice A 0 cx]).run P w.toWorld=.ok (.slice A' 0 0) w.toWorld:=by
     cases A'<;>simp[Builtin.append_,run_underlying hu,sizeOf,typeInfo,hi,Builtin.lenOf,YN,storeCells]
    exact this
   ·obtain⟨ad,rfl,J'⟩:=UR jB;obtain⟨w',e1,g1,g2,g3⟩:=tK (i:=d) (e:=e) (cap:=grownCap w.toWorld ys.length 0 e) (css:=ys) (rest:=Builtin.zeroCells z.cells (grownCap w.toWorld ys.length 0 e-ys.length)) hw h0 (fun y hy=>(hg y hy).1) TT (Vy _ _) (Xk _) (hw.none hd _) (fun r hr=>by rw[hd]at hr;cases hr);refine⟨w',_,_,_,?_,hk,by simpa using g1,by simpa using g3,by simpa using g2⟩;rw[e1];cases A' with
    |none=>exact run_append_nil w.toWorld t ty e i z hu hi Wo ad ys.length cx news (by rw[TQ];exact Vx) J' jB (by simp at YO;omega) (by simp at Ux;omega)
    |some b=>
     have:=run_append_grow (P:=P) w.toWorld t ty e i z hu hi Wo b 0 0 [] jE (fun j v h=>by simp at h) ad ys.length cx news (by rw[TQ];exact Vx) J' jB (by simp at YO;simp;omega) (by rw[Nat.zero_add,nextslicecap_zero jB];simp at Ux;omega)
     simpa using this
  |sl _ _ _ b c' vs hn TD hx SY hb hH Ye hr=>
   have TL:∀cs∈css++ys,cs.length=sz':=fun cs h=>by
    rcases List.mem_append.1 h with h|h
    ·exact SY _ h
    ·exact(hg cs h).1
   obtain⟨Zb,cur,el,Vf⟩:=hx rfl;subst Zb;have V3:=kW SY;have hold:cA w css.flatten ((List.range (css.length*sz')).map vs):=by
    refine⟨by simp[V3],fun k a v XO hv=>?_⟩;have hk:k<css.length*sz':=by have:=(List.getElem?_eq_some_iff.1 XO).1;omega
    obtain⟨i',j,UN,hj,rfl⟩:=v6 hk;rw[qU SY UN hj]at XO;simp only[List.getElem?_map,List.getElem?_range hk,Option.map_some,Option.some.injEq]at hv;subst hv;exact(hr i' j a UN XO).mA
   by_cases hy:ys.length=0
   ·
    omega
   ·obtain⟨ad,rfl,J'⟩:=UR jB;have Tv:=hold.append TT;rw[<-List.flatten_append]at Tv;obtain⟨w',e1,g1,g2,g3⟩:=tK (i:=d) (e:=e) (cap:=grownCap w.toWorld (css.length+ys.length) css.length e) (css:=css++ys) (rest:=Builtin.zeroCells z.cells (grownCap w.toWorld (css.length+ys.length) css.length e-(css.length+ys.length))) hw h0 TL Tv (by rw[TA];exact Vy _ _) (by rw[TA];exact Xk _) (hw.none hd _) (fun r hr=>by rw[hd]at hr;cases hr);rw[TA]at g3;refine⟨w',_,_,_,?_,hk,g1,g3,g2⟩;rw[e1];have:=run_append_grow (P:=P) w.toWorld t ty e i z hu hi Wo b css.length css.length ((List.range (css.length*sz')).map vs) (by rw[<-hold.1,V3,TQ]) (fun k v hv=>by
     have hk:k<css.length*sz':=by have:=(List.getElem?_eq_some_iff.1 hv).1;simpa using this
     obtain⟨i',j,UN,hj,rfl⟩:=v6 hk;simp only[List.getElem?_map,List.getElem?_range hk,Option.map_some,Option.some.injEq]at hv;subst hv;exact Ye i' j UN hj) ad ys.length cx news (by rw[TQ];exact Vx) J' jB jB (growslice_fits jB jB)
    rw[this];congr 3
    apply Array.ext';simp
 ·exact h.elim
end
section
variable {P:SQ}{H:Hp}
def Gq{w:NW}(l:SO):cA w (l.map .raw) l:=⟨jE,fun i a v ha hv=>by simp only[List.getElem?_map,Option.map_eq_some_iff]at ha;obtain⟨x,hx,rfl⟩:=ha;rw[hx]at hv;cases hv;exact .raw _⟩
def OP{a:AV}{v:Value}{w:NW}{f:FuncId}{first captured:SG}(h:aB w a v)(hf:Ay a=some (f,first,captured)):∃x y:SN,v=.func (.func f) x y/\cA w first x.toList/\cA w captured y.toList:=by
 unfold Ay at hf;split at hf
 ·rename_i f x y;simp only[Option.some.injEq,Prod.mk.injEq]at hf;obtain⟨rfl,rfl,rfl⟩:=hf;exact⟨x,y,dH h,Gq _,Gq _⟩
 ·simp only[Option.some.injEq,Prod.mk.injEq]at hf;obtain⟨rfl,rfl,rfl⟩:=hf;cases h with
  |fZ _ _ vs hl hr=>exact⟨#[],vs,rfl,⟨rfl,fun i a v h=>by simp at h⟩,⟨by simpa using hl,fun i a v h1 h2=>hr i a v h1 (by simpa using h2)⟩⟩
 ·simp only[Option.some.injEq,Prod.mk.injEq]at hf;obtain⟨rfl,rfl,rfl⟩:=hf;cases h with
  |bd _ _ vs hl hr=>exact⟨vs,#[],rfl,⟨by simpa using hl,fun i a v h1 h2=>hr i a v h1 (by simpa using h2)⟩,⟨rfl,fun i a v h=>by simp at h⟩⟩
 ·cases hf
def K0{w:NW}{l:SG}{vs:SO}(h:cA w l vs):bC w l vs.toArray:=⟨by simpa using h.1,fun i a v ha hv=>h.2 i a v ha (by simpa using hv)⟩
def Rj {f : FuncId} (h : bn P f = true) : ∃ fn, P.funcs[f]? = some fn ∧ fn.body.isSome = true ∧ (fn.name == "runtime.NumGoroutine") = false := by
 unfold bn at h;split at h
 ·rename_i fn hf;simp only[Bool.and_eq_true,Bool.not_eq_true']at h;exact⟨fn,hf,h.1,h.2⟩
 ·cases h
def ym{f:AV}{args:SG}{R:SD}{fo:Operand}{as:Array Operand}{ts:Array SL}{dst:Option Tmp}{ty:SL}{pos:String}{after:Array Edge}{guard:Option (Nat×Bool)}{ev:SM}(V4:ev fo=f)(YP:as.toList.map ev=args)
  (h:fz P f args H R) {w:NW} {a:Act} {next:Act->World->Prop} {Q:Exit->Act->World->Prop} (hw:aT w H) (hr:∀x,aB w (ev x) (a.eval x))
  (hn:∀(v:Value) (r:AV) (w':NW) (H':Hp),R r H'->aT w' H'->aB w' r v->Ext w H w' H'->next (a.put dst v) w'.toWorld):Oper.wp P ⟨dst,.call ⟨.value fo,as,ts⟩,ty,pos,after,guard⟩ a w.toWorld next Q:=by
 unfold fz at h;split at h
 ·rename_i f first captured hf
  obtain⟨x,y,hv,hx,hy⟩:=OP (V4 ▸ hr fo) hf;have Tj:bC w (first++args++captured) (x.toList++as.toList.map a.eval++y.toList).toArray:=
   K0 ((hx.append (YP ▸ wJ hr as.toList)).append hy)
  have Ub:as.map a.eval=(as.toList.map a.eval).toArray:=by rw[<-Array.toList_map,Array.toArray_toList]
  have hcf:(execOp a.eval ⟨dst,.call ⟨.value fo,as,ts⟩,ty,pos,after,guard⟩).run P w.toWorld=(callFunc f (x.toList++as.toList.map a.eval++y.toList).toArray).run P w.toWorld:=by
   have e:x++(as.toList.map a.eval).toArray++y=(x.toList++as.toList.map a.eval++y.toList).toArray:=by apply Array.ext';simp
   simp only[execOp,resolve,hv,Deferred.ofValue,pure_bind,invoke,Ub,e]
  rcases h with⟨Tn,hc⟩|Tg
  ·obtain⟨fn,US,hb,WO⟩:=Rj Tn;have I':(execOp a.eval ⟨dst,.call ⟨.value fo,as,ts⟩,ty,pos,after,guard⟩).run P w.toWorld=.ok (.enter f (x.toList++as.toList.map a.eval++y.toList).toArray) w.toWorld:=by
    have Ul:fn.body.isNone=false:=by cases hbb:fn.body<;>simp_all
    rw[hcf];simp only[callFunc,Sem.run_bind,run_program,Result.andThen_ok,US,WO,Ul,Bool.false_eq_true,if_false,Sem.run_pure]
   simp only[Oper.wp,I',Oper.upon_enter];refine(hc w _ hw Tj).mono ?_;rintro e W ⟨v,r,H',w',rfl,rfl,hR,g1,g2,g3⟩;exact hn v r w' H' hR g1 g2 g3
  ·obtain⟨v,w',r,H',I',hR,g1,g2,g3⟩:=Tg w _ hw Tj;rw[<-hcf]at I';simp only[Oper.wp,I',Oper.upon];exact hn v r w' H' hR g1 g2 g3
 ·exact h.elim
end
variable{P:SQ}
@[congr] theorem jzZ{f f':AV}{args args':SG}(h1:f=f')(h2:args=args'):fz P f args H K=fz P f' args' H K:=by rw[h1,h2]
variable{t:SL}
@[congr] theorem jxt:od P H t K=od P H t K:=rfl
@[congr] theorem j1h{x x':AV}(h:x=x'):rJ H t x K=rJ H t x' K:=by rw[h]
@[congr] theorem juo{t':SL}{a a' x x':AV}(h1:a=a')(h2:x=x'):qs P t t' a x H K=qs P t t' a' x' H K:=by rw[h1,h2]
@[congr] theorem jry{b:Builtin}{ts ts':List SL}{as as':SG}(h1:ts=ts')(h2:as=as'):tC P b ts as H K=tC P b ts' as' H K:=by rw[h1,h2]
def mV(ops:Array Oper)(F:SG)(j:Nat)(want:Bool):Option Bool:=match (ops[j]?).bind (·.dst)with
 |some d=>match F[d]? with
  |some (.raw (.bool b))=>some (b == want)
  |some (.gd g (.raw (.bool b)))=>some (g && (b == want))
  |_=>none
 |none=>none
def ci(F:SG)(x:Operand):AV:=(mh (bZ F x)).2
def gQ(F:SG)(o:Op):Bool:=o.operands.toList.all fun x=>(mh (bZ F x)).1
def iZ:Op->Bool
 |.binOp .eql ..=>true
 |.binOp .neq ..=>true
 |o=>dI o
def fj(P:SQ)(F:SG)(H:Hp)(g:Bool)(K:AV->Prop):Op->Prop
 |.call { callee:=.value f,args,argTypes }=>∃r,(g=true->gQ F (.call ⟨.value f,args,argTypes⟩)=true/\fz P (ci F f) (args.toList.map (ci F)) H fun r' H'=>r'=r/\H'=H)/\K (.gd g r)
 |.pick c a b=>(g=true->(mh (bZ F c)).1=true/\(oh (ci F c) (bZ F a) (bZ F b)).1)/\K (.gd g (oh (ci F c) (bZ F a) (bZ F b)).2)
 |o=>if iZ o then(g=true->gQ F o=true/\(vq P (ci F) H o).1)/\K (.gd g (vq P (ci F) H o).2)else False
def lj:Op->Bool
 |.call { callee:=.value _,.. }=>true
 |_=>false
def lp(P:SQ)(ops:Array Oper)(K:SC):List Oper->SC
 |[],F,H=>K F H
 |o::rest,F,H=>match o.guard with
  |none=>vc P (bZ F) H o.type (fun r H'=>lp P ops K rest (cH F o.dst r) H') o.op
  |some (j,want)=>match mV ops F j want with
   |some b=>if lj o.op || iZ o.op then fj P F H b (fun r=>lp P ops K rest (cH F o.dst r) H) o.op
    else(b=true->vc P (bZ F) H o.type (fun r H'=>lp P ops K rest (cH F o.dst r) H') o.op)/\(b=false->lp P ops K rest (cH F o.dst .any) H)
   |none=>False
section
variable {P:SQ}{ops:Array Oper}{F:SG}{H:Hp}
variable{K:SC}{w:NW}{tm:SN}
def BR{o:Oper}{ev:SM}(h:vc P ev H o.type (fun r H'=>K (cH F o.dst r) H') o.op){Q:Exit->Act->World->Prop}{next:Act->World->Prop}
  (h1:aT w H) (h2:bC w F tm) (hr:∀x,aB w (ev x) ((Act.mk tm []).eval x))
  (hn:∀TI (w':NW) F' H',K F' H'->aT w' H'->bC w' F' TI->Ext w H w' H'->next ⟨TI,[]⟩ w'.toWorld):o.wp P ⟨tm,[]⟩ w.toWorld next Q:=by
 have quiet:((vq P ev H o.op).1/\K (cH F o.dst (vq P ev H o.op).2) H)->o.wp P ⟨tm,[]⟩ w.toWorld next Q:=fun hq=>by obtain⟨v,I',hv⟩:=yr o h1 hr hq.1;simp only[Oper.wp,I',Oper.upon];rw[Act.put_eq];exact hn _ w _ H hq.2 h1 (h2.put o.dst hv []) (Ext.refl w H)
 have val:∀{w':NW} {H':Hp} {r:AV} {v:Value},(execOp (Act.mk tm []).eval o).run P w.toWorld=.ok (.value v) w'.toWorld->K (cH F o.dst r) H'->aT w' H'->aB w' r v->Ext w H w' H'->o.wp P ⟨tm,[]⟩ w.toWorld next Q:=fun{w' H' r v} I' hk g1 g2 g3=>by simp only[Oper.wp,I',Oper.upon];rw[Act.put_eq];exact hn _ w' _ H' hk g1 ((h2.ext g3).put o.dst g2 []) g3
 have skip:∀{w':NW} {H':Hp},(execOp (Act.mk tm []).eval o).run P w.toWorld=.ok .skip w'.toWorld->K (cH F o.dst .any) H'->aT w' H'->Ext w H w' H'->o.wp P ⟨tm,[]⟩ w.toWorld next Q:=fun{w' H'} I' hk g1 g3=>by simp only[Oper.wp,I',Oper.upon];rw[Act.put_eq];exact hn _ w' _ H' hk g1 ((h2.ext g3).put o.dst (.any _) []) g3
 have other:jT P o.op o.type ev H (fun r H'=>K (cH F o.dst r) H')->o.wp P ⟨tm,[]⟩ w.toWorld next Q:=fun ho=>by
  obtain⟨w',H',r,hk,g1,g2,g3⟩:=ho w (Act.mk tm []).eval o.dst o.pos o.after o.guard h1 (fun x _=>hr x);rcases g3 with⟨v,I',hv⟩|⟨I',rfl⟩
  ·exact val I' hk g1 hv g2
  ·exact skip I' hk g1 g2
 obtain⟨dst,op,ty,pos,after,guard⟩:=o;have vrun:∀{s:Sem Value} {v:Value} {W:World},s.run P w.toWorld=.ok v W->(do pure (Next.value (<-s)):Sem Next).run P w.toWorld=.ok (.value v) W:=fun hs=>by simp[hs]
 cases op
 case box t x=> obtain⟨ho,i,hi,hk⟩:=h;obtain⟨u,w',I',g0,g1,g2⟩:=Pn (P:=P) (t:=t) h1 hi (hr x) ho;exact val (vrun I') hk g1 g0 g2
 case alloc t=>
  simp only[vc,od]at h;split at h
  ·rename_i zs hz;obtain⟨i,hi,hk⟩:=h;obtain⟨u,w',I',g0,g1,g2⟩:=Nc (P:=P) (t:=t) h1 hi hz;exact val (vrun I') hk g1 g0 g2
  ·exact h.elim
 case store t a x=>
  simp only[vc,vu]at h;split at h
  ·rename_i i m k j n ha hk;split at h
   ·rename_i r hb;obtain⟨⟨s1,s2,s3⟩,SW⟩:=h;have Z':=hr a;rw[ha]at Z';obtain⟨w',I',g1,g2⟩:=Pe (P:=P) h1 Z' hb (hr x) s1 hk s2 s3;refine skip ?_ SW g1 g2;simp only[execOp,Sem.run_bind,I',Result.andThen_ok,Sem.run_pure]
   ·exact h.elim
  ·exact h.elim
 case buildSlice t n parts=>
  have h':nZ P H t n (parts.toList.map fun p=>(p.1,ev p.2)) (fun r H'=>K (cH F dst r) H'):=h;obtain⟨w',H',r,v,I',hk,g1,g2,g3⟩:=OD (P:=P) (parts:=parts.toList.map fun p=>(p.1,ev p.2)) (vparts:=parts.map fun p=>(p.1,(Act.mk tm []).eval p.2)) h1 jE (fun i a v ha hv=>by simp only[List.getElem?_map,Option.map_eq_some_iff,Array.toList_map,Array.getElem?_toList]at ha hv;obtain⟨x,hx,rfl⟩:=ha;obtain⟨y,hy,rfl⟩:=hv;rw[hx]at hy;cases hy;exact hr x.2) h'
  exact val (vrun I') hk g1 g2 g3
 case binOp op t x y t'=>
  cases op
  case eql=> obtain⟨r,v,I',hk,hv⟩:=G4 (P:=P) (K:=fun r H'=>K (cH F dst r) H') false t x y (hr x) (hr y) h;exact val (vrun I') hk h1 hv (Ext.refl w H)
  case neq=> obtain⟨r,v,I',hk,hv⟩:=G4 (P:=P) (K:=fun r H'=>K (cH F dst r) H') true t x y (hr x) (hr y) h;exact val (vrun I') hk h1 hv (Ext.refl w H)
  all_goals exact quiet h
 case call c=>
  obtain⟨callee,args,argTypes⟩:=c;cases callee
  case value f=>
   refine ym rfl rfl h h1 hr fun v r w' H' hk g1 g2 g3=>?_
   rw[Act.put_eq];exact hn _ w' _ H' hk g1 ((h2.ext g3).put dst g2 []) g3
  case invoke r m=>exact other h
  case builtin b=>
   have Ub:args.map (Act.mk tm []).eval=(args.toList.map (Act.mk tm []).eval).toArray:=by rw[<-Array.toList_map,Array.toArray_toList]
   have bvc:tC P b argTypes.toList (args.toList.map ev) H (fun r H'=>K (cH F dst r) H')->Oper.wp P ⟨dst,.call ⟨.builtin b,args,argTypes⟩,ty,pos,after,guard⟩ ⟨tm,[]⟩ w next Q:=fun hb=>by obtain⟨w',H',r,v,I',hk,g1,g2,g3⟩:=hb w _ ty (args.map fun|.const _=>true|_=>false) h1 (wJ hr args.toList);refine val (w':=w') (v:=v) ?_ hk g1 g2 g3;simp only[execOp,resolve,pure_bind,invoke,Ub];exact I'
   cases b
   case append=>
    simp only[vc]at h;split at h
    ·rename_i t t' a x ht ha;obtain⟨w',H',r,v,I',hk,g1,g2,g3⟩:=h w _ _ ty h1 (hr a) (hr x);refine val (w':=w') (v:=v) ?_ hk g1 g2 g3;have e1:argTypes=#[t,t']:=by rw[<-Array.toArray_toList (xs:=argTypes),ht]
     have e2:args=#[a,x]:=by rw[<-Array.toArray_toList (xs:=args),ha]
     subst e1 e2;simp only[execOp,resolve,pure_bind,invoke,builtin,Sem.run_bind];have:(#[a,x].map (Act.mk tm []).eval)=#[(Act.mk tm []).eval a,(Act.mk tm []).eval x]:=jE;rw[this,I'];rfl
    ·exact h.elim
   case len=>exact quiet h
   case cap=>exact quiet h
   case max=>exact quiet h
   case min=>exact quiet h
   all_goals exact bvc h
 case move=>exact quiet h
 case assign=>exact quiet h
 case pick=>exact quiet h
 case nilCheck=>exact quiet h
 case unOp=>exact quiet h
 case load=>exact quiet h
 case fieldAddr=>exact quiet h
 case field=>exact quiet h
 case indexAddr=>exact quiet h
 case index=>exact quiet h
 case extract=>exact quiet h
 case slice=>exact quiet h
 case makeFunc=>exact quiet h
 case makeInterface=>exact quiet h
 case convert=>exact quiet h
 case build=>exact quiet h
 all_goals first|exact other h|exact(quiet h)
def qD{o:Oper}(hg:o.guard=none)(h:vc P (bZ F) H o.type (fun r H'=>K (cH F o.dst r) H') o.op):mS P ops o F H K:=fun w tm Q next h1 h2 hn=>by unfold tI;rw[if_pos (by simp[Region.wanted,hg])];exact .inl (BR h h1 h2 (fun x=>h2.eval [] x) hn)
def OG{j:Nat}{want b:Bool}(h:mV ops F j want=some b)(h2:bC w F tm):(yielded ops tm j == some want)=b:=by
 unfold mV at h;split at h
 ·rename_i d hd;split at h<;>try cases h
  ·rename_i b' hF;have SX:d<tm.size:=by rw[<-h2.1];exact(List.getElem?_eq_some_iff.1 hF).1
   have:=dH (h2.2 d _ _ hF (Array.getElem?_eq_getElem SX));unfold yielded;rw[hd,Option.bind_some,Array.getElem?_eq_getElem SX,this];cases b'<;>cases want<;>rfl
  ·rename_i g b' hF;have SX:d<tm.size:=by rw[<-h2.1];exact(List.getElem?_eq_some_iff.1 hF).1
   have hr:=h2.2 d _ _ hF (Array.getElem?_eq_getElem SX);unfold yielded;rw[hd,Option.bind_some,Array.getElem?_eq_getElem SX];cases hr with
   |gd _ _ _ hh hu=>cases g with
    |true=> have:=dH (hh rfl);rw[this];cases b'<;>cases want<;>rfl
    |false=>rw[hu rfl];rfl
 ·cases h
def CC(h2:bC w F tm)(x:Operand)(ok:(mh (bZ F x)).1=true):aB w (ci F x) ((Act.mk tm []).eval x):=AT (h2.eval [] x) ok
def nj(F:SG)(x:Operand):AV:=if(mh (bZ F x)).1=true then ci F x else .any
def B2{f g:SM}{o:Option Operand}(h:∀x∈o.toList,f x=g x):o.map f=o.map g:=by
 cases o with
 |none=>rfl
 |some x=>simp[h x jE]
def uz{ev ev':SM}(o:Op)(h:∀x∈o.operands.toList,ev x=ev' x):vq P ev H o=vq P ev' H o:=by
 cases o
 case call c=>
  obtain⟨callee,args,ts⟩:=c;cases callee
  case builtin b=> simp only[vq];rw[List.map_congr_left (fun x hx=>h x (by simpa[Op.operands,Call.operands]using hx))]
  all_goals rfl
 case slice t a lo hi mx=> simp only[Op.operands]at h;simp only[vq];rw[h a jE,B2 (o:=lo) (fun x hx=>h x (by simp at hx ⊢;simp[hx])),B2 (o:=hi) (fun x hx=>h x (by simp at hx ⊢;simp[hx])),B2 (o:=mx) (fun x hx=>h x (by simp at hx ⊢;simp[hx]))]
 case makeFunc fn a b=> simp only[Op.operands]at h;simp only[vq];rw[List.map_congr_left (l:=a.toList) (fun x hx=>h x (by simp at hx ⊢;simp[hx])),List.map_congr_left (l:=b.toList) (fun x hx=>h x (by simp at hx ⊢;simp[hx]))]
 case build t ps=> simp only[Op.operands]at h;simp only[vq];rw[List.map_congr_left (g:=fun p=>(p.1,ev' p.2)) (fun x hx=>by rw[h x.2 (by simp at hx ⊢;exact⟨_,hx⟩)])]
 all_goals first
  |rfl
  |(simp only[Op.operands]at h;simp only[vq];(repeat rw[h _ jE]))
def vQ(h2:bC w F tm)(x:Operand):aB w (nj F x) ((Act.mk tm []).eval x):=by
 unfold nj;split
 ·rename_i h;exact CC h2 x h
 ·exact .any _
def tF{o:Op}(h:gQ F o=true):∀x∈o.operands.toList,nj F x=ci F x:=fun x hx=>by unfold nj;rw[if_pos];simp only[gQ,List.all_eq_true]at h;exact h x hx
def qJ{o:Oper}{j:Nat}{want b:Bool}(hg:o.guard=some (j,want))(hb:mV ops F j want=some b)
  (ht:b=true->∀w tm (Q:Exit->Act->World->Prop) (next:Act->World->Prop),aT w H->bC w F tm->(∀TI w' F' H',K F' H'->aT w' H'->bC w' F' TI->Ext w H w' H'->next ⟨TI,[]⟩ w')->o.wp P ⟨tm,[]⟩ w.toWorld next Q)
  (hf:b=false->∃r,(∀w:NW,aB w r undef)/\K (cH F o.dst r) H):mS P ops o F H K:=fun w tm Q next h1 h2 hn=>by
 have hy:=OG hb h2;unfold tI;have hw:Region.wanted o (yielded ops (Act.mk tm []).tmps)=b:=by unfold Region.wanted;rw[hg];exact hy
 cases b with
 |true=> rw[if_pos hw];exact .inl (ht rfl w tm Q next h1 h2 hn)
 |false=> rw[if_neg (by rw[hw];exact Bool.false_ne_true)];obtain⟨r,hr,hk⟩:=hf rfl;rw[Act.put_eq];exact hn _ w _ H hk h1 (h2.put o.dst (hr w) []) (Ext.refl w H)
def tv{r:AV}{g:Bool}(hg:g=false)(w:NW):aB w (.gd g r) undef:=.gd _ _ _ (fun h=>by rw[hg]at h;cases h) (fun _=>rfl)
def vn{r:AV}{v:Value}{g:Bool}(hg:g=true)(h:aB w r v):aB w (.gd g r) v:=.gd _ _ _ (fun _=>h) (fun h=>by rw[hg]at h;cases h)
theorem xr{K:SC}:∀(l:List Oper) (F:SG) (H:Hp),lp P ops K l F H->vP P ops K l F H
 |[],F,H,h=>G7 h
 |o::rest,F,H,h=>by
  refine Jp ?_;simp only[lp]at h;split at h
  ·rename_i hg;exact(qD (K:=fun F' H'=>lp P ops K rest F' H') hg h).mono fun F' H' hk=>xr rest F' H' hk
  ·rename_i j want hg;split at h
   ·rename_i b hb;split at h
    ·refine mS.mono (K:=fun F' H'=>lp P ops K rest F' H') ?_ fun F' H' hk=>xr rest F' H' hk
     obtain⟨dst,op,ty,pos,after,guard⟩:=o;unfold fj at h;split at h
     ·rename_i f args argTypes WQ;cases WQ;obtain⟨r,hc,hk⟩:=h;refine qJ hg hb (fun TR w tm Q next h1 h2 hn=>?_) (fun TR=>⟨_,tv TR,hk⟩);obtain⟨ok,Tn⟩:=hc TR;have WS:=tF ok;have e1:nj F f=ci F f:=WS f (by simp[Op.operands,Call.operands]);have e2:args.toList.map (nj F)=args.toList.map (ci F):=List.map_congr_left fun x hx=>WS x (by simp[Op.operands,Call.operands]at hx ⊢;exact .inr hx)
      refine ym (ev:=nj F) e1 e2 Tn h1 (vQ h2) fun v r' w' H' hR g1 g2 g3=>?_
      obtain⟨rfl,rfl⟩:=hR;rw[Act.put_eq];exact hn _ w' _ H' hk g1 ((h2.ext g3).put dst (vn TR g2) []) g3
     ·rename_i c x y WQ;simp only at WQ;subst WQ;obtain⟨hs,hk⟩:=h;refine qJ hg hb (fun TR w tm Q next h1 h2 hn=>?_) (fun TR=>⟨_,tv TR,hk⟩);obtain⟨ok,hq⟩:=hs TR;obtain⟨v,I',hv⟩:=HU (P:=P) (ρ:=(Act.mk tm []).eval) (dst:=dst) (ty:=ty) (pos:=pos) (after:=after) (guard:=guard) (CC h2 c ok) (h2.eval [] x) (h2.eval [] y) hq;simp only[Oper.wp,I',Oper.upon];rw[Act.put_eq];exact hn _ w _ H hk h1 (h2.put dst (vn TR hv) []) (Ext.refl w H)
     ·split at h
      ·obtain⟨hs,hk⟩:=h;refine qJ hg hb (fun TR w tm Q next h1 h2 hn=>?_) (fun TR=>⟨_,tv TR,hk⟩);obtain⟨ok,hq⟩:=hs TR;rw[<-uz _ (tF ok)]at hq;obtain⟨v,I',hv⟩:=yr (ρ:=(Act.mk tm []).eval) ⟨dst,op,ty,pos,after,guard⟩ h1 (vQ h2) hq;simp only[Oper.wp,I',Oper.upon];rw[Act.put_eq];rw[uz _ (tF ok)]at hv;exact hn _ w _ H hk h1 (h2.put dst (vn TR hv) []) (Ext.refl w H)
      ·exact h.elim
    ·refine mS.mono (K:=fun F' H'=>lp P ops K rest F' H') ?_ fun F' H' hk=>xr rest F' H' hk
     refine qJ hg hb (fun TR w tm Q next h1 h2 hn=>?_) (fun TR=>⟨_,fun w=>.any _,h.2 TR⟩);exact BR (h.1 TR) h1 h2 (fun x=>h2.eval [] x) hn
   ·exact h.elim
def Sz{id:Nat}{l:List Oper}{Q:Exit->SC}(h:lp P l.toArray (Q .normal) l F H):dw P (.region id l.toArray false) Q F H:=
 HB (by simpa using xr l F H h)
-- the results of a body
def iC(P:SQ)(H:Hp)(F:SG):List ResultVar->Option SG
 |[]=>some []
 |.tmp t::rest=>(iC P H F rest).map (F.getD t .any::·)
 |.cell a t::rest=>match ql H (F.getD a .any),eG P t,dx P t with
  |some (_,cs),some ag,some k=>(iC P H F rest).map (ue ag k cs::·)
  |_,_,_=>none
def jb(P:SQ)(H:Hp)(F:SG):List ResultVar->Prop
 |[]=>True
 |.tmp _::rest=>jb P H F rest
 |.cell a t::rest=>match ql H (F.getD a .any),dx P t with
  |some (c,cs),some k=>(c/\k<=cs.length/\1<=cs.length)/\jb P H F rest
  |_,_=>False
def iG:SG->AV
 |[r]=>r
 |rs=>.bf rs
def vO(tm:SN):ResultVar->Sem Value
 |.tmp t=>pure (tm.getD t undef)
 |.cell a t=>do loadVar t (<-asAddr (tm.getD a undef))
def PM(fn:Func)(tm:SN):results fn tm=(do let vs <-fn.results.mapM (vO tm);pure (if h:vs.size=1 then vs[0]else .tuple vs)):=rfl
theorem CN{w:NW}{tm:SN}(hw:aT w H)(h2:bC w F tm):∀(rs:List ResultVar) (out:SG),jb P H F rs->iC P H F rs=some out->
  ∃vs:SO,cA w out vs/\(rs.mapM (vO tm)).run P w.toWorld=.ok vs w.toWorld
 |[],out,_,h=>by simp[iC]at h;subst h;exact⟨[],⟨rfl,fun i a v ha=>by simp at ha⟩,jE⟩
 |.tmp t::rest,out,hok,h=>by
  simp only[iC,Option.map_eq_some_iff]at h;obtain⟨l,hl,rfl⟩:=h;obtain⟨vs,Tj,I'⟩:=CN hw h2 rest l hok hl;refine⟨tm.getD t undef::vs,⟨by simp[Tj.1],fun i a v ha hv=>?_⟩,?_⟩
  ·cases i with
   |zero=> simp only[List.getElem?_cons_zero,Option.some.injEq]at ha hv;subst ha hv;exact h2.eval [] (.tmp t)
   |succ i=>exact Tj.2 i a v (by simpa using ha) (by simpa using hv)
  ·rw[List.mapM_cons];simp only[vO,Sem.run_bind,Sem.run_pure,Result.andThen_ok];rw[I'];rfl
 |.cell ad t::rest,out,hok,h=>by
  simp only[iC]at h;simp only[jb]at hok;split at h
  ·rename_i c cs ag k e1 e2 e3;rw[e1,e3]at hok;obtain⟨⟨hc,Te,S5⟩,hok⟩:=hok;simp only[Option.map_eq_some_iff]at h;obtain⟨l,hl,rfl⟩:=h;obtain⟨vs,Tj,I'⟩:=CN hw h2 rest l hok hl;obtain⟨addr,us,hv,J',hr⟩:=EN (h2.eval [] (.tmp ad)) hw e1 hc;obtain⟨v,Zc,hvr⟩:=HN (P:=P) e2 e3 Te S5 J' hr;have Th:tm.getD ad undef=.pointer (some addr):=hv;refine⟨v::vs,⟨by simp[Tj.1],fun i a u ha hu=>?_⟩,?_⟩
   ·cases i with
    |zero=> simp only[List.getElem?_cons_zero,Option.some.injEq]at ha hu;subst ha hu;exact hvr
    |succ i=>exact Tj.2 i a u (by simpa using ha) (by simpa using hu)
   ·rw[List.mapM_cons];have ha:(asAddr (tm.getD ad undef)).run P w.toWorld=.ok addr w.toWorld:=by rw[Th];rfl
    have hf:(vO tm (.cell ad t)).run P w.toWorld=.ok v w.toWorld:=by simp only[vO,Sem.run_bind,ha,Zc,Result.andThen_ok]
    simp only[Sem.run_bind,hf,I',Sem.run_pure,Result.andThen_ok]
  ·cases h
def QJ{fn:Func}{out:SG}(hw:aT w H)(h2:bC w F tm)(hok:jb P H F fn.results.toList)(h:iC P H F fn.results.toList=some out):∃v,(results fn tm).run P w.toWorld=.ok v w.toWorld/\aB w (iG out) v:=by
 obtain⟨vs,Tj,I'⟩:=CN (P:=P) hw h2 _ out hok h;have hm:(fn.results.mapM (vO tm)).run P w.toWorld=.ok vs.toArray w.toWorld:=by rw[Array.mapM_eq_mapM_toList];simp only[Sem.run_map,I',Result.andThen_ok]
 have hr:(results fn tm).run P w.toWorld=.ok (if h:vs.toArray.size=1 then vs.toArray[0]else .tuple vs.toArray) w.toWorld:=by rw[PM];simp only[Sem.run_bind,hm,Result.andThen_ok,Sem.run_pure]
 refine⟨_,hr,?_⟩;match vs,out,Tj with
 |[],[],Tj=>exact .bf _ _ rfl fun i a v ha=>by simp at ha
 |[v],[a],Tj=>exact Tj.2 0 _ _ rfl rfl
 |v::v'::vs,a::a'::out,Tj=>exact .bf _ _ (by have:=Tj.1;simpa using this) fun i x y hx hy=>Tj.2 i x y hx (by simpa using hy)
 |[],_::_,Tj=>have:=Tj.1;simp at this
 |_::_,[],Tj=>have:=Tj.1;simp at this
 |[_],_::_::_,Tj=>have:=Tj.1;simp at this
 |_::_::_,[_],Tj=>have:=Tj.1;simp at this
def ju(P:SQ)(fn:Func)(R:AV->List SS->Prop):Exit->SC
 |.normal,F,H|.ret,F,H=>∃out r H',iC P H F fn.results.toList=some out/\jb P H F fn.results.toList/\gT (iG out) H r H'/\R r H'.l
 |_,_,_=>False
def IV{f:FuncId}{fn:Func}{c:Code}{args:SG}{l:SF}{R:AV->List SS->Prop}(hf:P.funcs[f]?=some fn)(hb:fn.body=some c)(h:dw P c (ju P fn R) (args++List.replicate (fn.ntmps-args.length) .any) (entry l)) :
  ai P f args l R:=fun w vs h1 h2=>by
 have D':args.length=vs.size:=h2.1;refine calls_of_wp hf hb (wp_mono (h w _ h1 ?_) ?_)
 ·refine⟨by simp[D'],fun i a v ha hv=>?_⟩;rcases Nat.lt_or_ge i args.length with hi|hi
  ·rw[List.getElem?_append_left hi]at ha;rw[Array.getElem?_append_left jB]at hv;exact h2.2 i a v ha hv
  ·rw[List.getElem?_append_right hi]at ha;rw[List.getElem?_replicate]at ha;split at ha<;>cases ha;exact .any _
 ·rintro e a W ⟨tm,F',H',w',rfl,rfl,hq,g1,g2,g3⟩;have fin:(∃out r TS,iC P H' F' fn.results.toList=some out/\jb P H' F' fn.results.toList/\gT (iG out) H' r TS/\R r TS.l)->
    ∃v,(results fn tm).run P w'.toWorld=.ok v w'.toWorld/\∃v' r TS w'',w'.toWorld=NW.toWorld w''/\Ending.returned v=.returned v'/\R r (Hp.l TS)/\aT w'' TS/\aB w'' r v'/\fW w (entry l) w'' TS:=by
   rintro⟨out,r,TS,e1,e0,e2,e3⟩;obtain⟨v,I',hv⟩:=QJ g1 g2 e0 e1;obtain⟨w'',k0,k1,k2,k3⟩:=e2 w' v g1 hv;exact⟨v,I',v,r,TS,w'',k0.symm,rfl,e3,k1,k2,g3.trans k3⟩
  cases e with
  |normal=>exact⟨rfl,fin hq⟩
  |ret=>exact⟨rfl,fin hq⟩
  |exit id=>exact hq.elim
  |goto l=>exact hq.elim
  |panic ch=>exact hq.elim
  |outgrown=>exact hq.elim
end
-- encoders of Lean data
class cc{α:Type}(enc:α->List AV)(sz:outParam Nat):Prop where
 len:∀x,(enc x).length=sz
 dp:∀x,dp (enc x)=true
 free:∀x,ba cZ (enc x)=true
def QL(q:SP)(css:SE):Prop:=∀cs∈css,ba q cs=true
def qE(q:SP):Row->Prop
 |.var _ cs=>ba q cs=true
 |.aK _ _ css=>QL q css
 |.mp _ vs=>ba q vs=true
theorem Cc{q:SP}:∀(a b:SG),ba q (a++b)=(ba q a && ba q b)
 |[],b=>by simp[ba]
 |x::a,b=>by simp[ba,Cc a b,Bool.and_assoc]
theorem DC{q:SP}:∀{css:SE},QL q css->ba q css.flatten=true
 |[],_=>rfl
 |cs::css,h=>by rw[List.flatten_cons,Cc,h cs jE,DC (css:=css) fun c hc=>h c (by simp[hc])];rfl
variable{q:SP}
def I4{r:Row}(h:qE q r):ba q r.cells=true:=by
 cases r with
 |var t cs=>exact h
 |aK e sz css=>exact DC h
 |mp ks vs=>exact h
def Bh(q:SP):QL q []:=fun _ h=>by simp at h
def Rq{cs:SG}(h:ba q cs=true)(k:QL q css):QL q (cs::css):=fun c hc=>by
 rcases List.mem_cons.1 hc with rfl|hc
 ·exact h
 ·exact k c hc
def I8{a b:SE}(h:QL q a)(k:QL q b):QL q (a++b):=fun c hc=>(List.mem_append.1 hc).elim (h c) (k c)
variable{α:Type}
def jo{enc:α->SG}[e:cc enc sz](l:List α):QL q (l.map enc):=fun c hc=>by obtain⟨x,_,rfl⟩:=List.mem_map.1 hc;exact fM (fun _ h=>by cases h) _ (e.free x)
def JH(sz:Nat):lZ sz []:=fun _ h=>by simp at h
def Jf{enc:α->SG}[e:cc enc sz](l:List α):lZ sz (l.map enc):=fun c hc=>by obtain⟨x,_,rfl⟩:=List.mem_map.1 hc;exact⟨e.len x,e.dp x⟩
-- calls
def fits:List SS->Hp->Prop
 |[],_=>True
 |(i,r)::l,H=>H.get i=some r/\fits l H
theorem Hk:∀{l:SF} {H:Hp},fits l H->∀i r,aD l i=some r->H.get i=some r
 |[],_,_,i,r,h=>by cases h
 |(j,s)::l,H,hf,i,r,h=>by
  simp only[aD]at h;split at h
  ·rename_i e;subst e;cases h;exact hf.1
  ·exact Hk hf.2 i r h
def tH(q:SP):List SS->Prop
 |[]=>True
 |(_,r)::l=>qE q r/\tH q l
theorem Ja{q:SP}:∀{l:SF},tH q l->∀i r,aD l i=some r->ba q r.cells=true
 |[],_,i,r,h=>by cases h
 |(j,s)::l,hf,i,r,h=>by
  simp only[aD]at h;split at h
  ·cases h;exact I4 hf.1
  ·exact Ja hf.2 i r h
def fresh(L:SJ)(H:Hp):List SS->Prop
 |[]=>True
 |(i,_)::l=>(L.contains i=true\/H.get i=none)/\fresh L H l
theorem AN{L:SJ}{H:Hp}:∀{l:SF},fresh L H l->∀i r,aD l i=some r->L.contains i=true\/H.get i=none
 |[],_,i,r,h=>by cases h
 |(j,s)::l,hf,i,r,h=>by
  simp only[aD]at h;split at h
  ·rename_i e;subst e;exact hf.1
  ·exact AN hf.2 i r h
section
variable {P:SQ}{f:FuncId}{args:SG}{H:Hp}{l:SF}{K:SD}
def O7{R:AV->List SS->Prop}(hc:ai P f args l R)(h1:fits l H)(h2:ba (fun i=>(ids l).contains i) args=true)(h3:tH (fun i=>(ids l).contains i) l)
  (hk:∀r l',R r l'->fresh (ids l) H l'/\(ids l').Nodup/\K r ⟨H.B,jR H.l l'⟩):eu P f args H K:=fun _ _ hw hv=>
 zz hc (Hk h1) h2 (Ja h3) (fun r l' hR=>⟨AN (hk r l' hR).1,(hk r l' hR).2⟩) hw hv
def wF{r0:AV}{l0:SF}(hc:ai P f args l fun r l'=>r=r0/\l'=l0)(h1:fits l H)(h2:ba (fun i=>(ids l).contains i) args=true)(h3:tH (fun i=>(ids l).contains i) l)
  (h4:fresh (ids l) H l0) (h5:(ids l0).Nodup) (hk:K r0 ⟨H.B,jR H.l l0⟩):eu P f args H K:=
 O7 hc h1 h2 h3 fun r l' ⟨e1,e2⟩=>by rw[e1,e2];exact⟨h4,h5,hk⟩
def yE{r:AV}(hc:aP P f args r)(h2:ba cZ args=true)(hk:K r H):eu P f args H K:=
 wF hc trivial (by simpa[ids]using h2) trivial trivial (by simp[ids]) hk
def mZ{args:SG}(hc:bn P f=true)(h:eu P f args H K):fz P (.raw (.func (.func f) #[] #[])) args H K:=.inl ⟨hc,by simpa using h⟩
def On{cs:SG}{args:SG}(hc:bn P f=true)(h:eu P f (args++cs) H K):fz P (.fZ f cs) args H K:=.inl ⟨hc,by simpa using h⟩
end
-- things of which D holds are let go of, and zU be read from then on
def eP(D:SP):List SS->SF
 |[]=>[]
 |(j,s)::l=>bif D j then eP D l else(j,s)::eP D l
theorem Hd(D:SP):∀(l:SF) (i:Nat),aD (eP D l) i=if D i=true then none else aD l i
 |[],i=>by simp[eP,aD]
 |(k,s)::l,i=>by
  have ih:=Hd D l i;unfold eP;cases hk:D k
  ·simp only[cond_false,aD];split
   ·rename_i h;subst h;rw[hk];simp
   ·exact ih
  ·simp only[cond_true,aD];rw[ih];split
   ·rfl
   ·rename_i h;rw[if_neg];rintro rfl;exact h hk
def NW.cQ(w:NW)(D:SP):NW:={ w with O:=fun b=>w.O b/\∀i m t s,D i=true->w.nm i m≠some (.at b t s),nm:=fun j n=>if D j=true then none else w.nm j n }
def fu(D:SP):SP:=fun i=>!(D i)
def gp(D:SP):List SS->Prop
 |[]=>True
 |(j,r)::l=>(D j=true\/qE (fu D) r)/\gp D l
theorem Fz{D:SP}:∀{l:SF},gp D l->∀{i:Nat} {r:Row},aD l i=some r->D i=false->ba (fu D) r.cells=true
 |[],_,i,r,h,_=>by cases h
 |(j,s)::l,hf,i,r,h,hd=>by
  simp only[aD]at h;split at h
  ·rename_i e;subst e;cases h;rcases hf.1 with h|h
   ·rw[hd]at h;cases h
   ·exact I4 h
  ·exact Fz hf.2 h hd
def rQ(w:NW)(D:SP):Keep (fu D) w (w.cQ D):=⟨Nat.le_refl _,fun b _ h=>⟨rfl,fun h'=>h h'.1⟩,fun j n z hq h=>by show(if D j=true then none else w.nm j n)=_;rw[if_neg (by unfold fu at hq;intro e;rw[e]at hq;cases hq)];exact h⟩
variable{D:SP}
def Gk{w:NW}(r:aT w H)(hB:H.B.all (fu D)=true)(hl:gp D H.l):aT (w.cQ D) ⟨H.B,eP D H.l⟩/\fW w H (w.cQ D) ⟨H.B,eP D H.l⟩:=by
 have T8:∀j n,(w.cQ D).nm j n=if D j=true then none else w.nm j n:=fun _ _=>rfl
 have gE:∀j,(Hp.mk H.B (eP D H.l)).get j=if D j=true then none else H.get j:=fun j=>Hd D H.l j
 refine⟨{ rows:=fun j s hj=>?_,dZ:=fun j n z hz=>?_,inj:=fun j n j' n' b t s t' s' h1 h2=>?_,own:=fun j n b t s h=>?_,fin:=fun b hb=>r.fin b hb.1,cv:=r.cv.bj (rQ w D) },{ rQ w D with names:=fun j n z hq h=>?_,os:=rfl,tape:=rfl,output:=rfl,rest:=fun b hb hO Td=>⟨rfl,⟨hO,fun i m t s _=>Td _ _ _ _⟩,fun j n t s h=>?_⟩,base:=rfl }⟩
 ·rw[gE]at hj;split at hj
  ·cases hj
  ·rename_i e;obtain⟨h1,z,h2,h3⟩:=r.rows j s hj;refine⟨h1,z,by rw[T8,if_neg e];exact h2,?_⟩;cases z with
   |nil=>exact h3
   |«at» b t st=> obtain⟨g1,cur,g2,g3,g5⟩:=h3;exact⟨g1,cur,g2,g3,fun k a v ha hv=>(g5 k a v ha hv).bj (rQ w D) (nb (Fz hl hj (by simpa using e)) ha)⟩
 ·rw[T8]at hz;split at hz
  ·cases hz
  ·rename_i e;obtain⟨r',h1,h2⟩:=r.dZ j n z hz;exact⟨r',by rw[gE,if_neg e];exact h1,h2⟩
 ·rw[T8]at h1 h2;split at h1
  ·cases h1
  ·split at h2
   ·cases h2
   ·exact r.inj _ _ _ _ _ _ _ _ _ h1 h2
 ·rw[T8]at h;split at h
  ·cases h
  ·rename_i e;exact⟨r.own _ _ _ _ _ h,fun i m t' s' hd h'=>e (by rw[r.inj _ _ _ _ _ _ _ _ _ h h'];exact hd)⟩
 ·have hq:H.B.contains j=true:=hq;have:=List.all_eq_true.1 hB j (List.contains_iff_mem.1 hq);rw[T8,if_neg (by intro e;unfold fu at this;rw[e]at this;cases this)];exact h
 ·rw[T8]at h;split at h
  ·cases h
  ·exact Td _ _ _ _ h
inductive dM(D:Nat->Bool)(H:Hp):AV->AV->Prop
 |same (a:AV) (h:a.all (fu D)=true):dM D H a a
 |drop (a:AV):dM D H a .any
 |nil (sz:Nat) (d:List AV):dM D H (.raw (.slice none 0 0)) (.sl false sz [] d)
 |lit (x:Bool) (sz:Nat) (css:List (List AV)) (d d':List AV):dM D H (.sl x sz css d) (.sl false sz css d')
 |agg (cs ds:List AV) (hl:cs.length=ds.length) (h:∀(i:Nat) c d,cs[i]?=some c->ds[i]?=some d->dM D H c d):dM D H (.agg cs) (.agg ds)
 |bf (cs ds:List AV) (hl:cs.length=ds.length) (h:∀(i:Nat) c d,cs[i]?=some c->ds[i]?=some d->dM D H c d):dM D H (.bf cs) (.bf ds)
 |wM (dd:List AV) (i sz m n:Nat) (e:TypeId) (css:List (List AV)) (dss:List (List AV)) (hD:D i=true) (hi:H.get i=some (.aK e sz css)) (hm:m=css.length) (hn:n<=m) (hd:dss.length=n) (U5:∀ds∈dss,ds.length=sz) (Td:QL cZ dss)
   (h:∀k (j:Nat) c d,k<n->(css.getD k [])[j]?=some c->(dss.getD k [])[j]?=some d->dM D H c d):dM D H (.rs i m sz n) (.sl false sz dss dd)
 |pt (i k j:Nat) (t:TypeId) (cs ds:List AV) (hD:D i=true) (hi:H.get i=some (.var t cs)) (hl:(cs.drop j).length=ds.length) (Td:ba cZ ds=true) (h:∀(q:Nat) c d,(cs.drop j)[q]?=some c->ds[q]?=some d->dM D H c d):dM D H (.pt i 0 k j) (.ip ds)
def dM.sound{w:NW}(hw:aT w H){a a':AV}(h:dM D H a a'):∀{v:Value},aB w a v->aB (w.cQ D) a' v:=by
 induction h with
 |same a h=>intro v hv;exact hv.bj (rQ w D) h
 |drop a=>intro v hv;exact .any v
 |nil sz d=>intro v hv;have:=dH hv;subst this;exact .gw _ _ _ _ (fun e=>by cases e)
 |lit x sz css d d'=>
  intro v hv;have Th:=hv.bj (rQ w D) (by simp only[AV.all]);cases Th with
  |gw _ _ A c _=>exact .gw _ _ _ _ (fun e=>by cases e)
  |sl _ _ _ a c vs hn hc hx SY hb hH J' hr=>exact .sl _ _ _ a c vs hn hc (fun e=>by cases e) SY hb hH J' hr
 |agg cs ds hl _ ih=>
  intro v hv;cases hv with
  |agg _ vs Ur hr=>
   refine .agg ds vs jB fun i d v hd hv=>?_
   have hi:i<cs.length:=by rw[hl];exact(List.getElem?_eq_some_iff.1 hd).1
   have hc:cs[i]?=some cs[i]:=List.getElem?_eq_getElem hi;exact ih i _ d hc hd (hr i _ v hc hv)
 |bf cs ds hl _ ih=>
  intro v hv;cases hv with
  |bf _ vs Ur hr=>
   refine .bf ds vs jB fun i d v hd hv=>?_
   have hi:i<cs.length:=by rw[hl];exact(List.getElem?_eq_some_iff.1 hd).1
   have hc:cs[i]?=some cs[i]:=List.getElem?_eq_getElem hi;exact ih i _ d hc hd (hr i _ v hc hv)
 |wM dd i sz m n e css dss hD hi hm hn hd U5 Td _ ih=>
  intro v hv;subst hm;cases hv with
  |iV _ _ _ A Tm=> have:dss=[]:=List.length_eq_zero_iff.1 jB;rw[this];exact .gw _ _ _ _ (fun h=>by cases h)
  |rs _ _ _ _ b t c Tm hc Ta U4=>
   by_cases h0:n=0
   ·have:dss=[]:=List.length_eq_zero_iff.1 jB;rw[this,h0];exact .gw _ _ _ _ (fun h=>by cases h)
   ·have hsz0:0<sz:=U4;have:=aB.sl (w:=w.cQ D) (d:=dd) false sz dss ⟨b,0,none⟩ c (fun k=>(w.cell? ⟨b,k,none⟩).getD undef) jB jB (fun h=>by cases h) U5 (hw.lt Tm) (fun h=>h.2 i _ t sz hD Tm) (fun k j hk hj=>by
     obtain⟨_,_,_,v,h1,h2⟩:=tM hw hi Tm (k:=k) (j:=j) jB hj;show w.cell? _=_;rw[lN,Nat.zero_add,h1];rfl) (fun k j u hk hu=>by
     have hj:j<sz:=by have:=(List.getElem?_eq_some_iff.1 hu).1;rwa [uS U5 hk]at this
     obtain⟨_,Tv,_,v,h1,h2⟩:=tM hw hi Tm (k:=k) (j:=j) jB hj;have hlc:=uS Tv (show k<css.length from jB);have hc:(css.getD k [])[j]?=some ((css.getD k [])[j]' jB):=List.getElem?_eq_getElem jB;rw[h1];have TM:dss.getD k []∈dss:=by
      have:dss.getD k []=dss[k]:=by simp[hk]
      rw[this];exact List.getElem_mem _
     exact(ih k j _ u jB hc hu (h2 _ hc)).lm (nb (Td _ TM) hu))
    rw[hd]at this;exact this
 |pt i k j t cs ds hD hi hl Td _ ih=>
  intro v hv;cases hv with
  |pt _ _ _ _ b t' s Tm=>
   obtain⟨hok,z,hz,Tp⟩:=hw.rows i _ hi;have:z=.at b t' s:=by have hz:w.nm i 0=some z:=hz;rw[Tm]at hz;cases hz;rfl
   subst this;obtain⟨rfl,cur,hh,⟨hs,Ta⟩,hr⟩:=Tp;have U4:(Row.var t cs).bL=0:=rfl;have Ta:cs.length<=t':=Ta;have e0:k*(Row.var t cs).bL+j=j:=by rw[U4];omega
   rw[e0];refine .ip ds ⟨b,j,none⟩ (fun q=>cur.getD (j+q) undef) (hw.lt Tm) (fun h=>h.2 i 0 _ _ hD Tm) (fun q hq=>?_) (fun q u hu=>?_)
   ·show w.cell? _=_;simp only[List.length_drop]at hl;have:j+q<cur.size:=jB;rw[lN,uo b _ cur _ (0,0) hh];simp[this]
   ·have Yf:q<(cs.drop j).length:=by rw[hl];exact(List.getElem?_eq_some_iff.1 hu).1
    have hc:(cs.drop j)[q]?=some (cs.drop j)[q]:=List.getElem?_eq_getElem Yf;simp only[List.length_drop]at Yf;have:j+q<cur.size:=jB;refine(ih q _ u hc hu (hr (j+q) _ _ (by rw[<-List.getElem?_drop];exact hc) ?_)).lm (nb Td hu);simp[this]
theorem dM.rs{D:SP}{H:Hp}(dd:SG)(i sz n:Nat)(e:SL)(css:SE)(dss:SE)(hD:D i=true)(hi:H.get i=some (.aK e sz css))(hn:n=css.length)(hd:dss.length=css.length)(U5:∀ds∈dss,ds.length=sz)(Td:QL cZ dss)
  (h:∀k (j:Nat) c d,k<css.length->(css.getD k [])[j]?=some c->(dss.getD k [])[j]?=some d->dM D H c d):dM D H (.rs i n sz n) (.sl false sz dss dd):=
 .wM dd i sz n n e css dss hD hi hn jl jB U5 Td fun k j c d hk=>h k j c d jB
def dM.row{dd:SG}{i:Nat}{e:SL}{enc:α->SG}[he:cc enc sz](l:List α)(hD:D i=true)(hi:H.get i=some (.aK e sz (l.map enc)))(hn:n=l.length):dM D H (.rs i n sz n) (.sl false sz (l.map enc) dd):=
 .rs dd i sz n e _ _ hD hi (by simpa using hn) rfl (fun ds U5=>by obtain⟨x,_,rfl⟩:=List.mem_map.1 U5;exact he.len x) (jo l) fun k j c d hk h1 h2=>by
  rw[h1]at h2;cases h2;have SW:k<l.length:=by simpa using hk
  have e1:(l.map enc).getD k []=enc l[k]:=by simp[SW]
  rw[e1]at h1;exact .same c (qB (fun _ h=>by cases h) _ (nb (he.free _) h1))
def gT.free{r r':AV}(D:SP)(hB:H.B.all (fu D)=true)(hl:gp D H.l)(hv:dM D H r r'):gT r H r' ⟨H.B,eP D H.l⟩:=fun w v h1 h2=>by obtain⟨a,b⟩:=Gk h1 hB hl;exact⟨w.cQ D,rfl,a,hv.sound h1 h2,b⟩
def bK(D:SP)(H:Hp):SG->SG->Prop
 |[],[]=>True
 |a::l,b::m=>dM D H a b/\bK D H l m
 |_,_=>False
theorem bK.get{D:SP}{H:Hp}:∀{l m:SG},bK D H l m->l.length=m.length/\∀(i:Nat) a b,l[i]?=some a->m[i]?=some b->dM D H a b
 |[],[],_=>⟨rfl,fun i a b h=>by simp at h⟩
 |x::l,y::m,h=>by
  have ih:=bK.get h.2;refine⟨by simp[ih.1],fun i a b ha hb=>?_⟩;cases i with
  |zero=>simp at ha hb;subst ha hb;exact h.1
  |succ i=>exact ih.2 i a b (by simpa using ha) (by simpa using hb)
theorem bK.agg{D:SP}{H:Hp}{cs ds:SG}(h:bK D H cs ds):dM D H (.agg cs) (.agg ds):=.agg cs ds h.get.1 h.get.2
theorem bK.bf{D:SP}{H:Hp}{cs ds:SG}(h:bK D H cs ds):dM D H (.bf cs) (.bf ds):=.bf cs ds h.get.1 h.get.2
theorem bK.pt{D:SP}{H:Hp}{i k j:Nat}{t:SL}{cs ds:SG}(hD:D i=true)(hi:H.get i=some (.var t cs))(Td:ba cZ ds=true)(h:bK D H (cs.drop j) ds):dM D H (.pt i 0 k j) (.ip ds):=.pt i k j t cs ds hD hi h.get.1 Td h.get.2
def dJ.free{F F':SG}(D:SP)(hB:H.B.all (fu D)=true)(hl:gp D H.l)(hv:bK D H F F'):dJ F H F' ⟨H.B,eP D H.l⟩:=fun w tm h1 h2=>by
 obtain⟨a,b⟩:=Gk h1 hB hl;obtain⟨Ur,hg⟩:=hv.get;refine⟨w.cQ D,rfl,a,⟨by rw[<-Ur];exact h2.1,fun i c v hc hv=>?_⟩,b⟩;have hi:i<F.length:=by rw[Ur];exact(List.getElem?_eq_some_iff.1 hc).1
 exact(hg i F[i] c (List.getElem?_eq_getElem hi) hc).sound h1 (h2.2 i _ v (List.getElem?_eq_getElem hi) hv)
-- what is lent: a function that is X5 nothing of one's own but to read
mutual
def AV.flat:AV->Bool
 |.raw _=>true
 |.any=>true
 |.agg cs=>v7 cs
 |.bf cs=>v7 cs
 |.gd _ v=>v.flat
 |_=>false
def v7:SG->Bool
 |[]=>true
 |a::l=>a.flat && v7 l
end
theorem Bo:∀{l:SG},v7 l=true->∀{i:Nat} {a:AV},l[i]?=some a->a.flat=true
 |[],_,i,a,h=>by simp at h
 |x::l,hl,i,a,h=>by
  simp only[v7,Bool.and_eq_true]at hl;cases i with
  |zero=>simp at h;subst h;exact hl.1
  |succ i=>exact Bo hl.2 (by simpa using h)
theorem aB.flat{w:NW}{a:AV}{v:Value}(h:aB w a v):∀{w':NW},a.flat=true->aB w' a v:=by
 induction h with
 |raw v=>intro w' _;exact .raw v
 |any v=>intro w' _;exact .any v
 |agg cs vs hl _ ih=>intro w' ha;simp only[AV.flat]at ha;exact .agg cs vs hl fun i a v h1 h2=>ih i a v h1 h2 (Bo ha h1)
 |bf cs vs hl _ ih=>intro w' ha;simp only[AV.flat]at ha;exact .bf cs vs hl fun i a v h1 h2=>ih i a v h1 h2 (Bo ha h1)
 |gd p a v _ hu ih=>intro w' ha;exact .gd p a v (fun hp=>ih hp (by simpa only[AV.flat]using ha)) hu
 |gw=>intro w' ha;simp only[AV.flat]at ha;cases ha
 |sl=>intro w' ha;simp only[AV.flat]at ha;cases ha
 |ip=>intro w' ha;simp only[AV.flat]at ha;cases ha
 |fZ=>intro w' ha;simp only[AV.flat]at ha;cases ha
 |pt=>intro w' ha;simp only[AV.flat]at ha;cases ha
 |iV=>intro w' ha;simp only[AV.flat]at ha;cases ha
 |rs=>intro w' ha;simp only[AV.flat]at ha;cases ha
 |lV=>intro w' ha;simp only[AV.flat]at ha;cases ha
 |rv=>intro w' ha;simp only[AV.flat]at ha;cases ha
 |mr=>intro w' ha;simp only[AV.flat]at ha;cases ha
 |bd=>intro w' ha;simp only[AV.flat]at ha;cases ha
 |kZ=>intro w' ha;simp only[AV.flat]at ha;cases ha
variable{P:SQ}{f:FuncId}{H:Hp}{K:SD}{r:AV}
def F5{args args':SG}(hc:aP P f args' r)(hv:bK (fun _=>true) H args args')(hr:r.flat=true)(hk:K r H):eu P f args H K:=fun w vs h1 h2=>by
 obtain⟨Ur,hg⟩:=hv.get;have XL:aT (w.cQ fun _=>true) (entry []):={
  rows:=fun i r h=>by cases h
  dZ:=fun i m z h=>by cases h
  inj:=fun i m j n b t s t' s' h _=>by cases h
  own:=fun i m b t s h=>by cases h
  fin:=fun b hb=>h1.fin b hb.1
  cv:=h1.cv.bj (rQ w fun _=>true) }
 refine(hc (w.cQ fun _=>true) vs XL ⟨by rw[<-Ur];exact h2.1,fun i c v hc hv=>?_⟩).mono ?_
 ·have hi:i<args.length:=by rw[Ur];exact(List.getElem?_eq_some_iff.1 hc).1
  exact(hg i args[i] c (List.getElem?_eq_getElem hi) hc).sound h1 (h2.2 i _ v (List.getElem?_eq_getElem hi) hv)
 ·rintro e W ⟨v,r',H',w',rfl,rfl,⟨rfl,_⟩,g1,g2,g3⟩;have Uv:∀b,b<w.heap.size->w'.heap[b]?=w.heap[b]?:=fun b hb=>by
   classical
   by_cases hO:(w.cQ fun _=>true).O b
   ·exact(g3.rest b hb hO fun i m t s h=>by cases h).1
   ·exact(g3.free b hb hO).1
  have ex:Ext w H (w.to w'.toWorld) H:={
   size:=g3.size
   free:=fun b hb hO=>⟨Uv b hb,hO⟩
   names:=fun _ _ _ _ h=>h
   os:=g3.os,tape:=g3.tape,output:=g3.output
   rest:=fun b hb hO Td=>⟨Uv b hb,hO,Td⟩
   base:=rfl }
  refine⟨v,r',H,w.to w'.toWorld,rfl,rfl,hk,{ rows:=fun i s hi=>?_,dZ:=h1.dZ,inj:=h1.inj,own:=h1.own,fin:=fun b hb=>Nat.lt_of_lt_of_le (h1.fin b hb) g3.size,cv:=h1.cv.bj ex.toKeep },g2.flat hr,ex⟩;obtain⟨e1,z,e2,e3⟩:=h1.rows i s hi;refine⟨e1,z,e2,e3.ext ex fun b t s e=>?_⟩;subst e;exact Uv b (h1.lt e2)
-- a slot that holds nothing yet, as a row of one's own without elements
theorem dJ.nil{F:SG}{H:Hp}(i slot:Nat)(e:SL){sz:Nat}(hi:H.get i=none)(h0:0<sz)(hs:F[slot]?=some (.raw (.slice none 0 0))\/∃x s d,F[slot]?=some (.sl true s x d)/\x=[]):dJ F H (F.set slot (.rs i 0 sz 0)) (H.put i (.aK e sz [])):=fun w tm h1 h2=>by
 obtain⟨a,b⟩:=xY h1 hi e h0;refine⟨w.name i 0 .nil,rfl,a,⟨by rw[List.length_set];exact h2.1,fun k c v hc hv=>?_⟩,b.qC⟩;rw[List.getElem?_set]at hc;by_cases hk:slot=k
 ·subst hk;rw[if_pos rfl]at hc;split at hc
  ·cases hc;have Th:∃A,v=.slice A 0 0:=by
    rcases hs with hs|⟨x,s,d,hs,rfl⟩
    ·exact⟨none,by have:=h2.2 slot _ v hs hv;cases this;rfl⟩
    ·have:=h2.2 slot _ v hs hv;cases this with
     |gw _ _ A c hx=>have:=hx rfl;subst this;exact⟨A,rfl⟩
     |sl _ _ _ _ _ _ hn=>simp at hn
   obtain⟨A,rfl⟩:=Th;exact .iV _ _ _ _ (NW.cw _ _ _ _)
  ·cases hc
 ·rw[if_neg hk]at hc;exact(h2.2 k c v hc hv).ext b
def nth{α:Type}[Inhabited α](l:List α)(i:Nat):α:=l.getD i default
variable{α:Type}{i:Nat}
def dV[Inhabited α]{l:List α}(h:i<l.length):nth l i=l[i]:=by simp[nth,h]
def xM[Inhabited α]{l:List α}(h:i<l.length):l.take (i+1)=l.take i++[nth l i]:=by rw[dV h,List.take_succ_eq_append_getElem h]
@[reducible] def bh{α:Type}[Inhabited α](enc:α->SG)(sz:Nat)(l:List α):AV:=.sl false sz (l.map enc) (enc default)
@[go_sem] def jwH:(∀(next:SC) (Q:Exit->SC) (F:SG) (H:Hp),uH next Q .normal F H=next F H)/\(∀(next:SC) (Q:Exit->SC) (F:SG) (H:Hp),uH next Q .ret F H=Q .ret F H)/\(∀(next:SC) (Q:Exit->SC) (id:Nat) (F:SG) (H:Hp),uH next Q (.exit id) F H=Q (.exit id) F H)/\(∀(id:Nat) (Q:Exit->SC) (F:SG) (H:Hp),sC id Q .normal F H=Q .normal F H)/\(∀(id:Nat) (Q:Exit->SC) (F:SG) (H:Hp),sC id Q .ret F H=Q .ret F H):=by and_intros<;>(intros;rfl)
@[go_sem] def jxF(id:Nat)(Q:Exit->SC)(F:SG)(H:Hp):sC id Q (.exit id) F H=Q .normal F H:=by simp[sC]
def AP(K:SD)(_:io K):SD:=K
def wR(K:AV->Prop)(_:io K):AV->Prop:=K
@[go_sem] def j38:(∀(K:SD) (d:io K) (r:AV) (H:Hp),AP K d r H=K r H)/\(∀(K:AV->Prop) (d:io K) (r:AV),wR K d r=K r):=by and_intros<;>(intros;rfl)
def QA{d:io K}(h:K r H):AP K d r H:=h
def uu(o:Option Bool)(A:Bool->Prop)(_:io A):Prop:=match o with
 |some b=>A b
 |none=>False
@[go_sem] def jz0(b:Bool)(A:Bool->Prop)(d:io A):uu (some b) A d=A b:=(rfl)
def qF(q:Bool)(A B:Prop)(_:io A)(_:io B):Prop:=if q=true then A else B
@[go_sem] def j4Y:(∀(A B:Prop) (d:io A) (e:io B),qF true A B d e=A)/\(∀(A B:Prop) (d:io A) (e:io B),qF false A B d e=B)/\(∀{P:SQ} {ops:Array Oper} {K:SC} (F:SG) (H:Hp),lp P ops K [] F H=K F H):=by and_intros<;>(intros;rfl)
variable{ops:Array Oper}{K:SC}
@[go_sem] def j5f(dst:Option Tmp)(op:Op)(ty:SL)(pos:String)(after:Array Edge)(rest:List Oper)(F:SG)(H:Hp) :
  lp P ops K (⟨dst,op,ty,pos,after,none⟩::rest) F H=vc P (bZ F) H ty (AP (fun r H'=>lp P ops K rest (cH F dst r) H') .mk) op:=(rfl)
@[go_sem] def j32(dst:Option Tmp)(op:Op)(ty:SL)(pos:String)(after:Array Edge)(j:Nat)(want:Bool)(rest:List Oper)(F:SG)(H:Hp) :
  lp P ops K (⟨dst,op,ty,pos,after,some (j,want)⟩::rest) F H=uu (mV ops F j want) (fun b=>qF (lj op || iZ op) (fj P F H b (wR (fun r=>lp P ops K rest (cH F dst r) H) .mk) op)
    ((b=true->vc P (bZ F) H ty (AP (fun r H'=>lp P ops K rest (cH F dst r) H') .mk) op)/\(b=false->lp P ops K rest (cH F dst .any) H)) .mk .mk) .mk:=by
 unfold uu qF;rfl
@[go_sem] def j1d(a:Nat):((a:Int)+1).toNat=a+1:=jB
@[go_sem] def j1e(a b:Nat):((a:Int)-(b:Int)).toNat=a-b:=jB
@[go_sem] def j1f(a:Nat):((a:Int)-1).toNat=a-1:=jB
attribute [go_sem] Int.cast_ofNat_Int
def sM{n:Int}(h:-9223372036854775808<=n/\n<=9223372036854775807):IntKind.i64.wrap n=n:=by have h1:(2:Int) ^ 64=18446744073709551616:=jC;have h2:(2:Int) ^ (64-1)=9223372036854775808:=jC;simp only[IntKind.wrap,IntKind.bits,IntKind.signed,Bool.true_and,h1,h2,decide_eq_true_eq];split<;>omega
variable{fn:Func}{F:SG}
def LC{c:Code}{args:SG}(hf:P.funcs[f]?=some fn)(hb:fn.body=some c)(hF:args++List.replicate (fn.ntmps-args.length) .any=F)
  (h:dw P c (ju P fn fun r' l'=>r'=r/\l'=[]) F ⟨[],[]⟩):aP P f args r:=IV hf hb (by rw[hF];exact h)
variable{l:SF}{R:AV->List SS->Prop}
def Pr{c:Code}{args:SG}(hf:P.funcs[f]?=some fn)(hb:fn.body=some c)(hF:args++List.replicate (fn.ntmps-args.length) .any=F){L:SJ}(hL:ids l=L)
  (h:dw P c (ju P fn R) F ⟨L,l⟩):ai P f args l R:=IV hf hb (by rw[hF];subst hL;exact h)
section
variable {P:SQ}{ev:SM}{H:Hp}{ty:SL}{K:SD}
@[go_sem] def j7d(x:Operand):vc P ev H ty K (.move x)=K (ev x) H:=by simp[vc,dI,vq]
@[go_sem] def j3U(x:Operand):vc P ev H ty K (.assign x)=K (ev x) H:=by simp[vc,dI,vq]
@[go_sem] def j7e(c a b:Operand):vc P ev H ty K (.pick c a b)=((oh (ev c) (ev a) (ev b)).1/\K (oh (ev c) (ev a) (ev b)).2 H):=by simp[vc,dI,vq]
@[go_sem] def jz8(x:Operand):vc P ev H ty K (.nilCheck x)=((pF (ev x)).1/\K (pF (ev x)).2 H):=by simp[vc,dI,vq]
@[go_sem] def j7f(op:UnOp)(t:SL)(x:Operand):vc P ev H ty K (.unOp op t x)=((tB op (ev x)).1/\K (tB op (ev x)).2 H):=by simp[vc,dI,vq]
@[go_sem] def j7c(t:SL)(x:Operand):vc P ev H ty K (.load t x)=((oa P H t (ev x)).1/\K (oa P H t (ev x)).2 H):=by simp[vc,dI,vq]
@[go_sem] def jxw(t:SL)(x:Operand)(f:Nat):vc P ev H ty K (.fieldAddr t x f)=((qO P t (ev x) f).1/\K (qO P t (ev x) f).2 H):=by simp[vc,dI,vq]
@[go_sem] def j48(t:SL)(x:Operand)(f:Nat):vc P ev H ty K (.field t x f)=((vj P t (ev x) f).1/\K (vj P t (ev x) f).2 H):=by simp[vc,dI,vq]
@[go_sem] def jxx(t:SL)(x i:Operand):vc P ev H ty K (.indexAddr t x i)=((tD P t (ev x) (ev i)).1/\K (tD P t (ev x) (ev i)).2 H):=by simp[vc,dI,vq]
@[go_sem] def j49(t:SL)(x i:Operand):vc P ev H ty K (.index t x i)=((sT P t (ev x) (ev i)).1/\K (sT P t (ev x) (ev i)).2 H):=by simp[vc,dI,vq]
@[go_sem] def j1m(x:Operand)(i:Nat):vc P ev H ty K (.extract x i)=((wk (ev x) i).1/\K (wk (ev x) i).2 H):=by simp[vc,dI,vq]
@[go_sem] def j5a(t:SL)(a:Operand)(lo hi mx:Option Operand):vc P ev H ty K (.slice t a lo hi mx)=((td P t (ev a) (lo.map ev) (hi.map ev) (mx.map ev)).1/\K (td P t (ev a) (lo.map ev) (hi.map ev) (mx.map ev)).2 H):=by simp[vc,dI,vq]
@[go_sem] def jz7(fn:Fn)(a b:Array Operand):vc P ev H ty K (.makeFunc fn a b)=((vV fn (a.toList.map ev) (b.toList.map ev)).1/\K (vV fn (a.toList.map ev) (b.toList.map ev)).2 H):=by simp[vc,dI,vq]
@[go_sem] def j1l(s d:SL)(x:Operand):vc P ev H ty K (.convert s d x)=((u5 P s d (ev x)).1/\K (u5 P s d (ev x)).2 H):=by simp[vc,dI,vq]
@[go_sem] def j47(t:SL)(ps:Array (Nat×Operand)):vc P ev H ty K (.build t ps)=((uU P t (ps.toList.map fun p=>(p.1,ev p.2))).1/\K (uU P t (ps.toList.map fun p=>(p.1,ev p.2))).2 H):=by simp[vc,dI,vq]
@[go_sem] def j9a(as:Array Operand)(ts:Array SL):vc P ev H ty K (.call ⟨.builtin .len,as,ts⟩)=((nC P H .len ts.toList (as.toList.map ev)).1/\K (nC P H .len ts.toList (as.toList.map ev)).2 H):=by simp[vc,dI,vq]
@[go_sem] def j9d(as:Array Operand)(ts:Array SL):vc P ev H ty K (.call ⟨.builtin .max,as,ts⟩)=((nC P H .max ts.toList (as.toList.map ev)).1/\K (nC P H .max ts.toList (as.toList.map ev)).2 H):=by simp[vc,dI,vq]
@[go_sem] def j9e(as:Array Operand)(ts:Array SL):vc P ev H ty K (.call ⟨.builtin .min,as,ts⟩)=((nC P H .min ts.toList (as.toList.map ev)).1/\K (nC P H .min ts.toList (as.toList.map ev)).2 H):=by simp[vc,dI,vq]
@[go_sem] def j85(t:SL)(x y:Operand)(t':SL):vc P ev H ty K (.binOp .add t x y t')=((fH P .add t (ev x) (ev y)).1/\K (fH P .add t (ev x) (ev y)).2 H):=by simp[vc,dI,vq]
@[go_sem] def j9j(t:SL)(x y:Operand)(t':SL):vc P ev H ty K (.binOp .sub t x y t')=((fH P .sub t (ev x) (ev y)).1/\K (fH P .sub t (ev x) (ev y)).2 H):=by simp[vc,dI,vq]
@[go_sem] def j9f(t:SL)(x y:Operand)(t':SL):vc P ev H ty K (.binOp .mul t x y t')=((fH P .mul t (ev x) (ev y)).1/\K (fH P .mul t (ev x) (ev y)).2 H):=by simp[vc,dI,vq]
@[go_sem] def j9h(t:SL)(x y:Operand)(t':SL):vc P ev H ty K (.binOp .quo t x y t')=((fH P .quo t (ev x) (ev y)).1/\K (fH P .quo t (ev x) (ev y)).2 H):=by simp[vc,dI,vq]
@[go_sem] def j9i(t:SL)(x y:Operand)(t':SL):vc P ev H ty K (.binOp .rem t x y t')=((fH P .rem t (ev x) (ev y)).1/\K (fH P .rem t (ev x) (ev y)).2 H):=by simp[vc,dI,vq]
@[go_sem] def j9c(t:SL)(x y:Operand)(t':SL):vc P ev H ty K (.binOp .lss t x y t')=((fH P .lss t (ev x) (ev y)).1/\K (fH P .lss t (ev x) (ev y)).2 H):=by simp[vc,dI,vq]
@[go_sem] def j9b(t:SL)(x y:Operand)(t':SL):vc P ev H ty K (.binOp .leq t x y t')=((fH P .leq t (ev x) (ev y)).1/\K (fH P .leq t (ev x) (ev y)).2 H):=by simp[vc,dI,vq]
@[go_sem] def j89(t:SL)(x y:Operand)(t':SL):vc P ev H ty K (.binOp .gtr t x y t')=((fH P .gtr t (ev x) (ev y)).1/\K (fH P .gtr t (ev x) (ev y)).2 H):=by simp[vc,dI,vq]
@[go_sem] def j88(t:SL)(x y:Operand)(t':SL):vc P ev H ty K (.binOp .geq t x y t')=((fH P .geq t (ev x) (ev y)).1/\K (fH P .geq t (ev x) (ev y)).2 H):=by simp[vc,dI,vq]
@[go_sem] def j87:(∀(t:SL) (x y:Operand) (t':SL),vc P ev H ty K (.binOp .eql t x y t')=qV P false t (ev x) (ev y) H K)/\(∀(t:SL) (x y:Operand) (t':SL),vc P ev H ty K (.binOp .neq t x y t')=qV P true t (ev x) (ev y) H K)/\(∀(t:SL) (x:Operand),vc P ev H ty K (.box t x)=rJ H t (ev x) K)/\(∀(t:SL),vc P ev H ty K (.alloc t)=od P H t K)/\(∀(t:SL) (a x:Operand),vc P ev H ty K (.store t a x)=vu P H t (ev a) (ev x) K)/\(∀(t:SL) (n:Nat) (ps:Array (Nat×Operand)),vc P ev H ty K (.buildSlice t n ps)=nZ P H t n (ps.toList.map fun p=>(p.1,ev p.2)) K)/\(∀(f:Operand) (as:Array Operand) (ts:Array SL),vc P ev H ty K (.call ⟨.value f,as,ts⟩)=fz P (ev f) (as.toList.map ev) H K):=by and_intros<;>(intros;rfl)
@[go_sem] def j3T(t:SL)(a x:Operand):vc P ev H ty K (.call ⟨.builtin .append,#[a,x],#[t,t]⟩)=qs P t t (ev a) (ev x) H K:=by simp[vc]
@[go_sem] def jz6(t t':SL)(a x:Operand):vc P ev H ty K (.call ⟨.builtin .append,#[a,x],#[t,t']⟩)=qs P t t' (ev a) (ev x) H K:=by simp[vc]
@[go_sem] def j7b(as:Array Operand)(ts:Array SL):vc P ev H ty K (.call ⟨.builtin .copy,as,ts⟩)=tC P .copy ts.toList (as.toList.map ev) H K:=by simp[vc,dI]
end
section
variable {P:SQ}{F:SG}{H:Hp}{g:Bool}{K:AV->Prop}
@[go_sem] def j7k(c a b:Operand):fj P F H g K (.pick c a b)=((g=true->(mh (bZ F c)).1=true/\(oh (ci F c) (bZ F a) (bZ F b)).1)/\K (.gd g (oh (ci F c) (bZ F a) (bZ F b)).2)):=(rfl)
@[go_sem] def j0a(x:Operand):fj P F H g K (.nilCheck x)=((g=true->gQ F (.nilCheck x)=true/\(pF (ci F x)).1)/\K (.gd g (pF (ci F x)).2)):=by simp[fj,iZ,dI,vq]
@[go_sem] def j7l(op:UnOp)(t:SL)(x:Operand):fj P F H g K (.unOp op t x)=((g=true->gQ F (.unOp op t x)=true/\(tB op (ci F x)).1)/\K (.gd g (tB op (ci F x)).2)):=by simp[fj,iZ,dI,vq]
@[go_sem] def j7i(t:SL)(x:Operand):fj P F H g K (.load t x)=((g=true->gQ F (.load t x)=true/\(oa P H t (ci F x)).1)/\K (.gd g (oa P H t (ci F x)).2)):=by simp[fj,iZ,dI,vq]
@[go_sem] def jxy(t:SL)(x:Operand)(f:Nat):fj P F H g K (.fieldAddr t x f)=((g=true->gQ F (.fieldAddr t x f)=true/\(qO P t (ci F x) f).1)/\K (.gd g (qO P t (ci F x) f).2)):=by simp[fj,iZ,dI,vq]
@[go_sem] def jxz(t:SL)(x i:Operand):fj P F H g K (.indexAddr t x i)=((g=true->gQ F (.indexAddr t x i)=true/\(tD P t (ci F x) (ci F i)).1)/\K (.gd g (tD P t (ci F x) (ci F i)).2)):=by simp[fj,iZ,dI,vq]
@[go_sem] def j5g(t:SL)(x i:Operand):fj P F H g K (.index t x i)=((g=true->gQ F (.index t x i)=true/\(sT P t (ci F x) (ci F i)).1)/\K (.gd g (sT P t (ci F x) (ci F i)).2)):=by simp[fj,iZ,dI,vq]
@[go_sem] def j5h(t:SL)(a:Operand)(lo hi mx:Option Operand):fj P F H g K (.slice t a lo hi mx)=((g=true->gQ F (.slice t a lo hi mx)=true/\(td P t (ci F a) (lo.map (ci F)) (hi.map (ci F)) (mx.map (ci F))).1)/\K (.gd g (td P t (ci F a) (lo.map (ci F)) (hi.map (ci F)) (mx.map (ci F))).2)):=by simp[fj,iZ,dI,vq]
@[go_sem] def j9o(as:Array Operand)(ts:Array SL):fj P F H g K (.call ⟨.builtin .len,as,ts⟩)=((g=true->gQ F (.call ⟨.builtin .len,as,ts⟩)=true/\(nC P H .len ts.toList (as.toList.map (ci F))).1)/\K (.gd g (nC P H .len ts.toList (as.toList.map (ci F))).2)):=by simp[fj,iZ,dI,vq]
@[go_sem] def j9k(t:SL)(x y:Operand)(t':SL):fj P F H g K (.binOp .add t x y t')=((g=true->gQ F (.binOp .add t x y t')=true/\(fH P .add t (ci F x) (ci F y)).1)/\K (.gd g (fH P .add t (ci F x) (ci F y)).2)):=by simp[fj,iZ,dI,vq]
@[go_sem] def j9q(t:SL)(x y:Operand)(t':SL):fj P F H g K (.binOp .lss t x y t')=((g=true->gQ F (.binOp .lss t x y t')=true/\(fH P .lss t (ci F x) (ci F y)).1)/\K (.gd g (fH P .lss t (ci F x) (ci F y)).2)):=by simp[fj,iZ,dI,vq]
@[go_sem] def j9p(t:SL)(x y:Operand)(t':SL):fj P F H g K (.binOp .leq t x y t')=((g=true->gQ F (.binOp .leq t x y t')=true/\(fH P .leq t (ci F x) (ci F y)).1)/\K (.gd g (fH P .leq t (ci F x) (ci F y)).2)):=by simp[fj,iZ,dI,vq]
@[go_sem] def j9n(t:SL)(x y:Operand)(t':SL):fj P F H g K (.binOp .gtr t x y t')=((g=true->gQ F (.binOp .gtr t x y t')=true/\(fH P .gtr t (ci F x) (ci F y)).1)/\K (.gd g (fH P .gtr t (ci F x) (ci F y)).2)):=by simp[fj,iZ,dI,vq]
@[go_sem] def j9m(t:SL)(x y:Operand)(t':SL):fj P F H g K (.binOp .geq t x y t')=((g=true->gQ F (.binOp .geq t x y t')=true/\(fH P .geq t (ci F x) (ci F y)).1)/\K (.gd g (fH P .geq t (ci F x) (ci F y)).2)):=by simp[fj,iZ,dI,vq]
@[go_sem] def j7j(x:Operand):fj P F H g K (.move x)=((g=true->gQ F (.move x)=true)/\K (.gd g (ci F x))):=by simp[fj,iZ,dI,vq]
@[go_sem] def j9l(t:SL)(x y:Operand)(t':SL):fj P F H g K (.binOp .eql t x y t')=((g=true->gQ F (.binOp .eql t x y t')=true/\(fH P .eql t (ci F x) (ci F y)).1)/\K (.gd g (fH P .eql t (ci F x) (ci F y)).2)):=by simp[fj,iZ,vq]
@[go_sem] def j9r(t:SL)(x y:Operand)(t':SL):fj P F H g K (.binOp .neq t x y t')=((g=true->gQ F (.binOp .neq t x y t')=true/\(fH P .neq t (ci F x) (ci F y)).1)/\K (.gd g (fH P .neq t (ci F x) (ci F y)).2)):=by simp[fj,iZ,vq]
@[go_sem] def j7h(f:Operand)(as:Array Operand)(ts:Array SL):fj P F H g K (.call ⟨.value f,as,ts⟩)=∃r,(g=true->gQ F (.call ⟨.value f,as,ts⟩)=true/\fz P (ci F f) (as.toList.map (ci F)) H fun r' H'=>r'=r/\H'=H)/\K (.gd g r):=(rfl)
@[go_sem] def j5v:(∀(t:Tmp),bZ F (.tmp t)=F.getD t .any)/\(∀(v:Value),bZ F (.const v)=.raw v)/\(∀(f:FuncId),bZ F (.func f)=.raw (.func (.func f) #[] #[]))/\(∀(d:Tmp) (a:AV),cH F (some d) a=F.set d a)/\(∀(a:AV),cH F none a=F):=by and_intros<;>(intros;rfl)
end
attribute [go_sem] ci gQ mh mV lj iZ dI oh pF zQ zB xo fH tB oa ql qO vj yB tD sT wk rq td I0 vV zc u5 tP yQ xT nC rD uU vu qV nZ kQ
attribute [go_sem] dp Op.operands Call.operands wK
section
@[go_sem] def j1S:(∀(cs:SG),(AV.agg cs).cells=cs)/\(∀(k:IntKind) (n:Int),(AV.raw (.int k n)).cells=[.raw (.int k n)])/\(∀(s:SK),(AV.raw (.string s)).cells=[.raw (.string s)])/\(∀(a:Option Addr) (n c:Nat),(AV.raw (.slice a n c)).cells=[.raw (.slice a n c)])/\(∀(x:Bool) (sz:Nat) (css:SE) (d:SG),(AV.sl x sz css d).cells=[.sl x sz css d])/\(∀(i m k j:Nat),(AV.pt i m k j).cells=[.pt i m k j])/\(∀(i m k j:Nat),(AV.rs i m k j).cells=[.rs i m k j])/\(∀(k:IntKind) (n:Int),(AV.raw (.int k n)).one=true)/\(∀(s:SK),(AV.raw (.string s)).one=true)/\(∀(a:Option Addr) (n c:Nat),(AV.raw (.slice a n c)).one=true)/\(∀(x:Bool) (sz:Nat) (css:SE) (d:SG),(AV.sl x sz css d).one=true)/\(∀(i m k j:Nat),(AV.pt i m k j).one=true)/\(∀(i m k j:Nat),(AV.rs i m k j).one=true):=by and_intros<;>(intros;rfl)
end
attribute [go_sem] Hp.get Hp.put aD bD zk jR entry ids tO CZ xi room zh Cf mK
attribute [go_sem] AV.all ba cZ AV.flat v7 qE tH fits fresh gp eP fu I3 GX bK
@[go_sem] def j2B(sz:Nat):lZ sz []=True:=by simp[JH]
@[go_sem] def j0Y(sz:Nat)(cs:SG)(css:SE):lZ sz (cs::css)=((cs.length=sz/\dp cs=true)/\lZ sz css):=by simp[lZ]
@[go_sem] def j2A(enc:α->SG)(sz:Nat)[cc enc sz](l:List α):lZ sz (l.map enc)=True:=by simp[Jf]
@[go_sem] def j6P(q:SP):QL q []=True:=by simp[Bh]
@[go_sem] def j4T(q:SP)(cs:SG)(css:SE):QL q (cs::css)=(ba q cs=true/\QL q css):=by simp[QL]
@[go_sem] def j1b(q:SP)(a b:SE):QL q (a++b)=(QL q a/\QL q b):=by apply propext;exact⟨fun h=>⟨fun c hc=>h c (List.mem_append_left _ hc),fun c hc=>h c (List.mem_append_right _ hc)⟩,fun h=>I8 h.1 h.2⟩
variable{sz:Nat}
@[go_sem] def j6O(q:SP)(enc:α->SG)[cc enc sz](l:List α):QL q (l.map enc)=True:=by simp[jo]
@[go_sem] def ye[Inhabited α](enc:α->SG)(l:List α)(k:Nat)(h:k<l.length):(l.map enc).getD k []=enc (nth l k):=by simp[nth,h]
@[go_sem] def j0X[Inhabited α](enc:α->SG)(l:List α)(k:Nat):(l.map enc).getD k (enc default)=enc (nth l k):=by unfold nth;rcases Nat.lt_or_ge k l.length with h|h<;>simp[h]
@[go_sem] def j23(enc:α->SG)(l:List α)(k:Nat):(l.map enc).take k=(l.take k).map enc:=jE
@[go_sem] def j3E(l:List α):l.take l.length=l:=jE
@[go_sem] def jyY{β:Type}(f:α->β)(l:List α):(l.map f).length=l.length:=jE
@[go_sem] def juu(a b:List α):(a++b).length=a.length+b.length:=jE
@[go_sem] def jy7{β:Type}(f:α->β)(a b:List α):(a++b).map f=a.map f++b.map f:=jE
@[go_sem] def ju4(i:Nat):([]:SJ).contains i=false:=(rfl)
@[go_sem] def juq(i j:Nat)(l:SJ):(j::l).contains i=(i == j || l.contains i):=List.contains_cons
@[go_sem] def jzz(e e':SL)(sz sz':Nat)(a b:SE):(Row.aK e sz a=Row.aK e' sz' b)=(e=e'/\sz=sz'/\a=b):=jE
@[go_sem] def jzy(e e':SL)(a b:SG):(Row.var e a=Row.var e' b)=(e=e'/\a=b):=jE
attribute [go_sem] List.getD_cons_zero List.getD_cons_succ List.getD_nil List.set_cons_zero List.set_cons_succ List.set_nil List.map_nil List.map_cons List.getElem?_cons_zero List.getElem?_cons_succ List.getElem?_nil List.getElem?_toArray List.all_nil List.all_cons List.append_nil List.nil_append List.cons_append List.length_cons List.length_nil List.take_succ_cons List.take_zero List.take_nil List.drop_succ_cons List.drop_zero List.drop_nil List.flatten_nil List.flatten_cons
def LW(b:Bool):(b == true)=b:=by cases b<;>rfl
def PO(b:Bool):(b == false)=!b:=by cases b<;>rfl
attribute [go_sem] if_true if_false true_and and_true false_and and_false Option.map_some Option.map_none Option.getD_some Option.getD_none Option.bind_some Option.bind_none Option.isSome_some Option.isNone_some Option.isNone_none Option.some.injEq Bool.and_true Bool.true_and Bool.and_self Bool.not_true Bool.not_false LW PO Bool.false_eq_true Bool.true_eq_false reduceCtorEq imp_self implies_true forall_const or_true true_or or_self or_false false_or not_true_eq_false not_false_eq_true eq_self ne_eq and_self List.foldl_cons List.foldl_nil Bool.not_eq_true' Bool.or_true Bool.or_false Bool.true_or Bool.false_or decide_true decide_false Nat.zero_add Nat.add_zero Nat.le_refl Int.toNat_natCast
@[go_sem] def j0j(c x:Bool):xL c x false=(c && x):=by cases c<;>rfl
@[go_sem] def j1Q(c y:Bool):xL c true y=(c || y):=by cases c<;>rfl
@[go_sem] def j1u(b:Bool):(false ^^ b)=b:=by cases b<;>rfl
@[go_sem] def j35(b:Bool):(true ^^ b)=!b:=by cases b<;>rfl
@[go_sem] def jup(id id':Nat)(Q:Exit->SC)(F:SG)(H:Hp):sC id Q (.exit id') F H=if id'=id then Q .normal F H else Q (.exit id') F H:=(rfl)
def mg(J:List (Nat×AV))(F:SG):SG:=J.foldl (fun F p=>F.set p.1 p.2) F
attribute [go_sem] mg mT HJ List.replicate_succ List.replicate_zero
def Next(n:Nat){S:Type}(W:List (Nat×Nat))(ok:S->Prop)(J:S->List (Nat×AV))(G:S->Hp)(μ:S->Nat)(F₀ F:SG)(H:Hp):Prop:=∃s,μ s<n/\dJ F H (mg (J s) (mT W F₀)) (G s)/\ok s
variable{n:Nat}{W:List (Nat×Nat)}{F₀:SG}
def fc{S:Type}{ok:S->Prop}{J:S->List (Nat×AV)}{G:S->Hp}{μ:S->Nat}(s:S)(h1:ok s)(h2:μ s<n)(h4:H=G s)(h3:jL F (mg (J s) (mT W F₀))):Next n W ok J G μ F₀ F H:=⟨s,h2,by rw[<-h4];exact dJ.pt H h3,h1⟩
def Bk{S:Type}{ok:S->Prop}{J:S->List (Nat×AV)}{G:S->Hp}{μ:S->Nat}(D:SP)(s:S)(h1:ok s)(h2:μ s<n)(hB:H.B.all (fu D)=true)(hl:gp D H.l)(h4:⟨H.B,eP D H.l⟩=G s)(h3:bK D H F (mg (J s) (mT W F₀))):Next n W ok J G μ F₀ F H:=⟨s,h2,by rw[<-h4];exact dJ.free D hB hl h3,h1⟩
def fa{c:Code}{Q:Exit->SC}{S:Type}(W:List (Nat×Nat))(ok:S->Prop)(J:S->List (Nat×AV))(G:S->Hp)(μ:S->Nat)(s₀:S)(h0:ok s₀)(Ta:dJ F H (mg (J s₀) (mT W F)) (G s₀))
  (round:∀s,ok s->∀K:SC,(∀F' H',Next (μ s) W ok J G μ F F' H'->K F' H')->dw P c (uH K Q) (mg (J s) (mT W F)) (G s)):dw P (.loop c) Q F H:=by
 refine O9 (S:=S) (fun s F' H'=>F'=mg (J s) (mT W F)/\H'=G s/\ok s) μ s₀ Ta ⟨rfl,rfl,h0⟩ ?_;rintro s F' H' ⟨rfl,rfl,hok⟩;refine round s hok _ ?_;rintro F'' TS ⟨s',h1,h2,h3⟩;exact⟨s',_,_,h1,h2,rfl,rfl,h3⟩
def fb{F':SG}{H':Hp}(h1:H=H')(h2:jL F F'):dJ F H F' H':=by rw[<-h1];exact dJ.pt H h2
def rG{out:SG}{e:Exit}(he:e=.normal\/e=.ret)(ho:iC P H F fn.results.toList=some out)(hok:jb P H F fn.results.toList)(r:AV)(H':Hp)(Ta:gT (iG out) H r H')(hR:R r H'.l):ju P fn R e F H:=by rcases he with rfl|rfl<;>exact⟨out,r,H',ho,hok,Ta,hR⟩
variable{t:SL}{K:SD}{zs:SO}
def yX(i:Nat)(hz:ff P t=some zs)(hi:H.get i=none)(h:K (.pt i 0 0 0) (H.put i (.var t (zs.map .raw)))):od P H t K:=by unfold od;rw[hz];exact⟨i,hi,h⟩
def Ab{x:AV}(i:Nat)(ho:dp x.cells=true)(hi:H.get i=none)(h:K (.pt i 0 0 0) (H.put i (.var t x.cells))):rJ H t x K:=⟨ho,i,hi,h⟩
def zy:List SS->Nat->Nat
 |[],m=>m
 |(i,_)::l,m=>zy l (if m<=i then i+1 else m)
def nx(l:SF):Nat:=zy l 0
theorem DL:∀(l:SF) (m i:Nat),zy l m<=i->aD l i=none/\m<=i
 |[],m,i,h=>⟨rfl,h⟩
 |(j,r)::l,m,i,h=>by
  obtain⟨h1,h2⟩:=DL l _ i h;simp only[aD];split at h2
  ·rw[jN];exact⟨h1,jB⟩
  ·rw[jN];exact⟨h1,h2⟩
def Al(l:SF)(i:Nat)(h:nx l<=i):aD l i=none:=(DL l 0 i h).1
attribute [go_sem] zy
attribute [go_sem] nx
@[go_sem] def jzh:((none:Option Operand).toArray.toList=[])/\(∀(x:Operand),(some x).toArray.toList=[x]):=by and_intros<;>(intros;rfl)
def MP{A:Nat->Prop}{d:io A}(h:A (nx H.l)):uN H A d:=⟨_,Al _ _ jl,h⟩
def Mq(hz:ff P t=some zs)(h:K (.pt (nx H.l) 0 0 0) (H.put (nx H.l) (.var t (zs.map .raw)))):od P H t K:=yX _ hz (Al _ _ jl) h
def LF{x:AV}(ho:dp x.cells=true)(h:K (.pt (nx H.l) 0 0 0) (H.put (nx H.l) (.var t x.cells))):rJ H t x K:=Ab _ ho (Al _ _ jl) h
variable{css:SE}
def K8{e:SL}(h1:ba cZ css.flatten=true)(h2:K (.sl true sz css []) H):sc e sz css H K:=.inl ⟨h1,h2⟩
def AB{e:SL}(i:Nat)(h0:0<sz)(hi:H.get i=none)(h2:K (.rs i css.length sz css.length) (H.put i (.aK e sz css))):sc e sz css H K:=.inr ⟨h0,i,hi,h2⟩
def L8{e:SL}(h0:0<sz)(h2:K (.rs (nx H.l) css.length sz css.length) (H.put (nx H.l) (.aK e sz css))):sc e sz css H K:=AB _ h0 (Al _ _ jl) h2
def LV{e:SL}(h0:0<sz)(h2:K (.rs (nx H.l) 0 sz 0) (H.put (nx H.l) (.aK e sz []))):sc e sz [] H K:=L8 h0 h2
def gm(a a':AV):Prop:=∀(w:NW) v,aB w a v->aB w a' v
def gm.refl(a:AV):gm a a:=fun _ _ h=>h
theorem gm.sl{x:Bool}{sz:Nat}{css:SE}{d d':SG}:gm (.sl x sz css d) (.sl false sz css d'):=fun w v hr=>by
 cases hr with
 |gw _ _ A c _=>exact .gw _ _ _ _ (fun e=>by cases e)
 |sl _ _ _ a c vs hn hc hx SY hb hH J' hr=>exact .sl _ _ _ a c vs hn hc (fun e=>by cases e) SY hb hH J' hr
def gm.nil{d:SG}:gm (.raw (.slice none 0 0)) (.sl false sz [] d):=fun w v hr=>by have:=dH hr;subst this;exact .gw _ _ _ _ (fun e=>by cases e)
def pN:SG->SG->Prop
 |[],[]=>True
 |a::l,b::m=>gm a b/\pN l m
 |_,_=>False
theorem pN.get:∀{l m:SG},pN l m->l.length=m.length/\∀(i:Nat) a b,l[i]?=some a->m[i]?=some b->gm a b
 |[],[],_=>⟨rfl,fun i a b h=>by simp at h⟩
 |x::l,y::m,h=>by
  have ih:=pN.get h.2;refine⟨by simp[ih.1],fun i a b ha hb=>?_⟩;cases i with
  |zero=>simp at ha hb;subst ha hb;exact h.1
  |succ i=>exact ih.2 i a b (by simpa using ha) (by simpa using hb)
attribute [go_sem] iG
@[go_sem] def j0W(l:SG)(n m:Nat):(l.drop n).getD m .any=l.getD (n+m) .any:=by simp[List.getD_eq_getElem?_getD]
attribute [go_sem] List.drop_drop List.length_drop Array.toList_append
def Mz{out:SG}{e:Exit}(he:e=.normal\/e=.ret)(ho:iC P H F fn.results.toList=some out)(hok:jb P H F fn.results.toList)(h1:iG out=r)(h2:H.l=l):ju P fn (fun r' l'=>r'=r/\l'=l) e F H:=
 rG he ho hok r H (gT.of_eq H h1) ⟨rfl,h2⟩
def yy{out:SG}{e:Exit}(D:SP)(he:e=.normal\/e=.ret)(ho:iC P H F fn.results.toList=some out)(hok:jb P H F fn.results.toList)(hB:H.B.all (fu D)=true)(hl:gp D H.l)(hv:dM D H (iG out) r)(h2:eP D H.l=l):ju P fn (fun r' l'=>r'=r/\l'=l) e F H:=
 rG he ho hok r _ (gT.free D hB hl hv) ⟨rfl,h2⟩
def tE{D:SP}{a a':AV}(h:a=a')(hq:a.all (fu D)=true):dM D H a a':=by subst h;exact .same _ hq
def mR(B:SJ):SP:=fun i=>!(B.contains i)
def Rn{out:SG}{e:Exit}(he:e=.normal\/e=.ret)(ho:iC P H F fn.results.toList=some out)(hok:jb P H F fn.results.toList)(hl:gp (mR H.B) H.l)(hv:dM (mR H.B) H (iG out) r)(h2:eP (mR H.B) H.l=l):ju P fn (fun r' l'=>r'=r/\l'=l) e F H:=
 yy (mR H.B) he ho hok (by rw[List.all_eq_true];intro x hx;simp[fu,mR,hx]) hl hv h2
attribute [go_sem] iC jb
def DP{out:SG}{e:Exit}(rs:List ResultVar)(UI:fn.results.toList=rs)(he:e=.normal\/e=.ret)(ho:iC P H F rs=some out)(hok:jb P H F rs)(hl:gp (mR H.B) H.l)(hv:dM (mR H.B) H (iG out) r)(h2:eP (mR H.B) H.l=l):ju P fn (fun r' l'=>r'=r/\l'=l) e F H:=by subst UI;exact Rn he ho hok hl hv h2
def Qf{out:SG}{e:Exit}(rs:List ResultVar)(UI:fn.results.toList=rs)(he:e=.normal\/e=.ret)(ho:iC P H F rs=some out)(hok:jb P H F rs)(h1:iG out=r)(h2:H.l=l):ju P fn (fun r' l'=>r'=r/\l'=l) e F H:=by subst UI;exact Mz he ho hok h1 h2
attribute [go_sem] mR cond_true cond_false ue
def x8{S:Type}{ok:S->Prop}{J:S->List (Nat×AV)}{G:S->Hp}{μ:S->Nat}(L:SJ)(s:S)(h1:ok s)(h2:μ s<n)(hB:H.B.all (fu fun i=>L.contains i)=true)(hl:gp (fun i=>L.contains i) H.l)(h4:⟨H.B,eP (fun i=>L.contains i) H.l⟩=G s)(h3:bK (fun i=>L.contains i) H F (mg (J s) (mT W F₀))):Next n W ok J G μ F₀ F H:=Bk _ s h1 h2 hB hl h4 h3
def E0{D:SP}(a:AV):dM D H a .any:=.drop a
@[go_sem] def jzY(i:Nat)(e:SL)(m sz:Nat)(css ys:SE)(H:Hp)(K:SD):uq i e m sz m css ys H K=K (.rs i (m+ys.length) sz (m+ys.length)) (H.put i (.aK e sz (css++ys))):=if_pos rfl
def NE{enc:α->SG}(vars more ys:List α){e:SL}{m:Nat}{yss:SE}(hm:m=vars.length+more.length)(hn:n=vars.length)(hc:css=(vars++more).map enc)(hy:yss=ys.map enc)
  (h:K (.rs i (vars.length+ys.length+(more.drop ys.length).length) sz (vars.length+ys.length)) (H.put i (.aK e sz ((vars++ys++more.drop ys.length).map enc)))):uq i e m sz n css yss H K:=by
 subst hm hn hc hy;unfold uq;split
 ·rename_i h';have:more=[]:=List.length_eq_zero_iff.1 jB;subst this;simpa using h
 ·have e1:max (vars.length+more.length) (vars.length+(ys.map enc).length)=vars.length+ys.length+(more.drop ys.length).length:=by simp;omega
  have e2:iK ((vars++more).map enc) vars.length (ys.map enc)=(vars++ys++more.drop ys.length).map enc:=by
   unfold iK;rw[<-List.map_take,List.take_left',<-List.map_drop,List.length_map,List.drop_append,List.drop_eq_nil_of_le jB,List.nil_append]
   ·simp
   ·rfl
  rw[e1,e2];simpa using h
def J1{b c:Bool}(h:b=c):AV.raw (.bool b)=AV.raw (.bool c):=by rw[h]
def Pw{k:IntKind}{b c:Int}(h:b=c):AV.raw (.int k b)=AV.raw (.int k c):=by rw[h]
section
variable {P:SQ}{ops:Array Oper}{H:Hp}
def ec(ops:Array Oper)(o:Oper)(F G:SG):Prop:=(∀x∈o.op.operands.toList,bZ G x=bZ F x)/\∀j b,o.guard=some (j,b)->mV ops G j b=mV ops F j b
def QV(P:SQ)(ops:Array Oper)(o:Oper)(F:SG)(H:Hp)(r:AV):Prop:=∀G,ec ops o F G->mS P ops o G H fun F' H'=>F'=cH G o.dst r/\H'=H
variable{K:SD}
def B0{f:AV}{args:SG}{K':SD}(h:fz P f args H K)(hk:∀r H,K r H->K' r H):fz P f args H K':=by
 unfold fz at*;split at h
 ·rcases h with h|h
  ·exact .inl ⟨h.1,h.2.mono hk⟩
  ·exact .inr fun w vs h1 h2=>by obtain⟨v,w',r,H',e,k,g⟩:=h w vs h1 h2;exact⟨v,w',r,H',e,hk _ _ k,g⟩
 ·exact h.elim
def pg(P:SQ)(t:SL)(n:Nat)(parts:List (Nat×AV))(K:AV->Prop):Prop:=match iT P t with
 |some e=>match dx P e with
  |some sz=>((parts.length=n/\wK sz 0 parts/\n*sz<=16777216/\(n*sz=0\/(ff P e).isSome=true))/\ba cZ (mK parts).flatten=true)/\K (.sl true sz (mK parts) [])
  |none=>False
 |none=>False
variable{t:SL}{n:Nat}{parts:List (Nat×AV)}
def RO(h:pg P t n parts fun r=>K r H):nZ P H t n parts K:=by
 unfold pg at h;unfold nZ;split at h
 ·rename_i e he;split at h
  ·rename_i sz hs;try simp only[he,hs]
   exact⟨h.1.1,.inl ⟨h.1.2,h.2⟩⟩
  ·exact h.elim
 ·exact h.elim
variable{K:AV->Prop}
def CQ(h:pg P t n parts K):∃r,K r/\∀K':AV->Prop,K' r->pg P t n parts K':=by
 unfold pg at h;split at h
 ·rename_i e he;split at h
  ·rename_i sz hs;exact⟨_,h.2,fun K' hk=>by unfold pg;rw[he];simp only[hs];exact⟨h.1,hk⟩⟩
  ·exact h.elim
 ·exact h.elim
def oJ:Op->Bool
 |.binOp .eql ..=>true
 |.binOp .neq ..=>true
 |_=>false
variable{o:Oper}{F:SG}
def J4{K:SC}(hg:o.guard=none)(hq:(vq P (bZ F) H o.op).1)(hk:K (cH F o.dst (vq P (bZ F) H o.op).2) H):mS P ops o F H K:=
 Ox hg (Q8 (K:=fun r H'=>K (cH F o.dst r) H') hq hk)
def vt(hg:o.guard=none)(hq:(vq P (bZ F) H o.op).1):QV P ops o F H (vq P (bZ F) H o.op).2:=fun G hG=>by have e:vq P (bZ G) H o.op=vq P (bZ F) H o.op:=uz _ hG.1;exact J4 hg (by rw[e];exact hq) ⟨by rw[e],rfl⟩
variable{dst:Option Tmp}{after:Array Edge}
def FB{f:Operand}{args:Array Operand}{ts:Array SL}{ty:SL}{pos:String}{r:AV}(h:fz P (bZ F f) (args.toList.map (bZ F)) H fun r' H'=>r'=r/\H'=H) :
  QV P ops ⟨dst,.call ⟨.value f,args,ts⟩,ty,pos,after,none⟩ F H r:=fun G hG=>by
 refine qD (K:=fun F' H'=>F'=cH G dst r/\H'=H) rfl ?_;show fz P (bZ G f) (args.toList.map (bZ G)) H _;rw[hG.1 f (by simp[Op.operands,Call.operands]),List.map_congr_left (g:=bZ F) (fun x hx=>hG.1 x (by simp[Op.operands,Call.operands]at hx ⊢;exact .inr hx))];exact B0 h fun r' H' ⟨e1,e2⟩=>⟨by rw[e1],e2⟩
def Au{parts:Array (Nat×Operand)}{ty:SL}{pos:String}{r:AV}(h:pg P t n (parts.toList.map fun p=>(p.1,bZ F p.2)) fun r'=>r'=r) :
  QV P ops ⟨dst,.buildSlice t n parts,ty,pos,after,none⟩ F H r:=fun G hG=>by
 refine qD (K:=fun F' H'=>F'=cH G dst r/\H'=H) rfl ?_;show nZ P H t n (parts.toList.map fun p=>(p.1,bZ G p.2)) (fun r_1 H'=>cH G dst r_1=cH G dst r/\H'=H);rw[List.map_congr_left (g:=fun p=>(p.1,bZ F p.2)) (fun x hx=>by rw[hG.1 x.2 (by simp[Op.operands]at hx ⊢;exact⟨_,hx⟩)])];refine RO ?_;obtain⟨r',e,hk⟩:=CQ h;subst e;exact hk _ ⟨rfl,rfl⟩
variable{G:SG}
def Iz(o:Op)(h:∀x∈o.operands.toList,bZ G x=bZ F x):gQ G o=gQ F o:=by unfold gQ;rw[Bool.eq_iff_iff,List.all_eq_true,List.all_eq_true];constructor<;>intro hh x hx<;>have:=hh x hx<;>rw[h x hx]at*<;>exact this
def xg:Op->Bool
 |.pick ..=>true
 |_=>false
def yp{g:Bool}(o:Op)(h:lj o=false)(hp:xg o=false):fj P F H g K o=if iZ o then(g=true->gQ F o=true/\(vq P (ci F) H o).1)/\K (.gd g (vq P (ci F) H o).2)else False:=by
 cases o
 case call c=>
  obtain⟨callee,args,ts⟩:=c;cases callee
  case value f=>cases h
  all_goals rfl
 case pick=>cases hp
 all_goals rfl
def A7{g:Bool}{o:Op}(h:fj P F H g K o):∃r,K (.gd g r)/\∀(G:SG) (K':AV->Prop),(∀x∈o.operands.toList,bZ G x=bZ F x)->K' (.gd g r)->fj P G H g K' o:=by
 cases hc:lj o with
 |false=>
  by_cases hp:xg o=true
  ·cases o<;>try cases hp
   rename_i c a b;refine⟨_,h.2,fun G K' hG hk=>?_⟩;have he:∀x∈(Op.pick c a b).operands.toList,ci G x=ci F x:=fun x hx=>by unfold ci;rw[hG x hx]
   show(g=true->(mh (bZ G c)).1=true/\(oh (ci G c) (bZ G a) (bZ G b)).1)/\K' (.gd g (oh (ci G c) (bZ G a) (bZ G b)).2);rw[hG c (by simp[Op.operands]),hG a (by simp[Op.operands]),hG b (by simp[Op.operands]),he c (by simp[Op.operands])];exact⟨h.1,hk⟩
  have hp:xg o=false:=by simpa using hp
  rw[yp o hc hp]at h;split at h
  ·rename_i hq;refine⟨_,h.2,fun G K' hG hk=>?_⟩;have he:∀x∈o.operands.toList,ci G x=ci F x:=fun x hx=>by unfold ci;rw[hG x hx]
   rw[yp o hc hp,if_pos hq,uz _ he,Iz o hG];exact⟨h.1,hk⟩
  ·exact h.elim
 |true=>
  cases o<;>try cases hc
  rename_i c;obtain⟨callee,args,ts⟩:=c;cases callee<;>try cases hc
  rename_i f;obtain⟨r,h1,h2⟩:=h;refine⟨r,h2,fun G K' hG hk=>⟨r,fun hg=>⟨Iz _ hG ▸ (h1 hg).1,?_⟩,hk⟩⟩;have he:∀x∈(Op.call ⟨.value f,args,ts⟩).operands.toList,ci G x=ci F x:=fun x hx=>by unfold ci;rw[hG x hx]
  rw[he f (by simp[Op.operands,Call.operands]),List.map_congr_left (g:=ci F) (fun x hx=>he x (by simp[Op.operands,Call.operands]at hx ⊢;exact .inr hx))];exact(h1 hg).2
def C2{j:Nat}{want b:Bool}{r:AV}(hg:o.guard=some (j,want))(hb:mV ops F j want=some b)(hq:(lj o.op || iZ o.op)=true)(h:fj P F H b (fun r'=>r'=r) o.op):QV P ops o F H r:=fun G hG=>by
 have hv:lp P ops (fun F' H'=>F'=cH G o.dst r/\H'=H) [o] G H:=by simp only[lp,hg,hG.2 j want hg,hb,hq,if_true];obtain⟨r',h1,h2⟩:=A7 h;exact h2 G _ hG.1 ⟨by rw[h1],trivial⟩
 have hs:=xr [o] G H hv;intro w tm Q next h1 h2 hn;have:=hs w tm (fun e a w=>match e with|.normal=>next a w|e=>Q e a w) h1 h2 hn;simp only[wpList]at this;unfold tI;split
 ·rename_i hw;rw[if_pos hw]at this;rcases this with h|⟨ha,hl⟩
  ·refine .inl ?_;unfold Oper.wp at*;generalize (execOp (Act.mk tm []).eval o).run P w=res at*;cases res with
   |ok n w'=>
    cases n<;>simp only[Oper.upon]at h ⊢
    case enter f args=>exact Calls.mono h fun e w'' he=>by cases e<;>exact he
    all_goals exact h
   |halt x w'=>cases x<;>simp only[Oper.upon]at h ⊢;exact h
  ·exact .inr ⟨ha,hl⟩
 ·rename_i hw;rw[if_neg hw]at this;exact this
def jK(P:SQ)(ops:Array Oper)(H:Hp)(K:SG->Prop):List Oper->SG->Prop
 |[],F=>K F
 |o::rest,F=>match o.guard with
  |none=>match o.op with
   |.call { callee:=.value f,args,.. }=>∃r,(fz P (bZ F f) (args.toList.map (bZ F)) H fun r' H'=>r'=r/\H'=H)/\jK P ops H K rest (cH F o.dst r)
   |.buildSlice t n parts=>pg P t n (parts.toList.map fun p=>(p.1,bZ F p.2)) fun r=>jK P ops H K rest (cH F o.dst r)
   |op=>(vq P (bZ F) H op).1/\jK P ops H K rest (cH F o.dst (vq P (bZ F) H op).2)
  |some (j,want)=>match mV ops F j want with
   |some b=>(lj o.op || iZ o.op)=true/\fj P F H b (fun r=>jK P ops H K rest (cH F o.dst r)) o.op
   |none=>False
def yG(P:SQ)(ops:Array Oper)(H:Hp)(K:SG->Prop):List Oper->SG->SG->Prop
 |[],F,rs=>rs=[]/\K F
 |o::rest,F,rs=>∃r T0,rs=r::T0/\QV P ops o F H r/\yG P ops H K rest (cH F o.dst r) T0
theorem Ft{K:SG->Prop}:∀(l:List Oper) (F:SG),jK P ops H K l F->∃rs,yG P ops H K l F rs
 |[],F,h=>⟨[],rfl,h⟩
 |o::rest,F,h=>by
  have mk:∀r,QV P ops o F H r->jK P ops H K rest (cH F o.dst r)->∃rs,yG P ops H K (o::rest) F rs:=fun r h1 h2=>by obtain⟨rs,h3⟩:=Ft rest _ h2;exact⟨r::rs,r,rs,rfl,h1,h3⟩
  obtain⟨dst,op,ty,pos,after,guard⟩:=o;cases guard with
  |none=>
   unfold jK at h;simp only at h;split at h
   ·obtain⟨r,h1,h2⟩:=h;exact mk r (FB h1) h2
   ·rename_i t n parts;obtain⟨r,h1,h2⟩:=CQ h;exact mk r (Au (h2 _ rfl)) h1
   ·exact mk _ (vt rfl h.1) h.2
  |some g=>
   obtain⟨j,want⟩:=g;unfold jK at h;simp only at h;split at h
   ·rename_i b hb;obtain⟨hq,hv⟩:=h;obtain⟨r,h1,h2⟩:=A7 hv;exact mk _ (C2 rfl hb hq (r:=.gd b r) (h2 F _ (fun _ _=>rfl) rfl)) h1
   ·exact h.elim
-- the order
def FL(os:List Oper)(rs:SG)(L:SP)(F:SG):Nat->SG
 |0=>F
 |m+1=>if L m then cH (FL os rs L F m) ((os[m]?).bind (·.dst)) (rs.getD m .any)else FL os rs L F m
def lR(os:List Oper)(rs:SG)(L:SP)(F:SG)(s:Nat):Nat->AV
 |0=>F.getD s .any
 |m+1=>if L m=true/\(os[m]?).bind (·.dst)=some s then rs.getD m .any else lR os rs L F s m
theorem l5(os:List Oper)(rs:SG)(L:SP)(F:SG):∀m,(FL os rs L F m).length=F.length
 |0=>rfl
 |m+1=>by
  unfold FL;split
  ·rw[<-l5 os rs L F m];cases(os[m]?).bind (·.dst)<;>simp[cH]
  ·exact l5 os rs L F m
theorem sx(os:List Oper)(rs:SG)(L:SP)(F:SG){s:Nat}(hs:s<F.length):∀m,(FL os rs L F m).getD s .any=lR os rs L F s m
 |0=>rfl
 |m+1=>by
  have ih:=sx os rs L F hs m;have hl:=l5 os rs L F m;unfold FL lR;cases hd:(os[m]?).bind (·.dst)with
  |none=>
   have Td:¬(L m=true/\(none:Option Tmp)=some s):=fun h=>by have:=h.2;cases this
   rw[if_neg Td];cases hL:L m
   ·exact ih
   ·exact ih
  |some d=>
   cases hL:L m
   ·simpa using ih
   ·simp only[if_true,cH,true_and,Option.some.injEq];by_cases e:d=s
    ·subst e;simp[hl,hs]
    ·rw[if_neg e];have:(List.set (FL os rs L F m) d (rs.getD m .any)).getD s .any=(FL os rs L F m).getD s .any:=by simp[List.getElem?_set,e]
     rw[this,ih]
variable{os:List Oper}
def EC{rs:SG}{L L':SP}{m m':Nat}(hG:G.length=F.length)(h:∀s,s<F.length->G.getD s .any=lR os rs L F s m):G=FL os rs L F m:=by
 refine List.ext_getElem? fun s=>?_
 rcases Nat.lt_or_ge s F.length with hs|hs
 ·have h1:=h s hs;rw[<-sx os rs L F hs m]at h1;have h2:G[s]?=some (G.getD s .any):=by simp[hG,hs]
  have h3:(FL os rs L F m)[s]?=some ((FL os rs L F m).getD s .any):=by simp[l5,hs]
  rw[h2,h3,h1]
 ·rw[List.getElem?_eq_none jB,List.getElem?_eq_none (by rw[l5];omega)]
def looks(os:List Oper)(o:Oper):SJ:=
 (o.op.operands.toList.filterMap fun|.tmp t=>some t|_=>none)++
 (match o.guard with
   |some (g,_)=>((os[g]?).bind (·.dst)).toList
   |none=>[])
def qI:SJ->SJ
 |[]=>[]
 |x::l=>if(qI l).contains x then qI l else x::qI l
theorem DD{x:Nat}:∀{l:SJ},x∈qI l<->x∈l
 |[]=>Iff.rfl
 |y::l=>by
  have ih:x∈qI l<->x∈l:=DD;unfold qI;split
  ·rename_i h;rw[ih,List.mem_cons];refine⟨.inr,fun h'=>h'.elim (fun e=>?_) id⟩;subst e;exact ih.1 (List.contains_iff_mem.1 h)
  ·rw[List.mem_cons,List.mem_cons,ih]
def nq(T9:List SJ)(o:Oper):List SJ:=T9++[qI ((o.after.toList.filter (Region.binds .any)).flatMap fun e=>e.on::T9.getD e.on [])]
def kM(os:List Oper):List SJ:=os.foldl nq []
def uv(os:List Oper)(a b:Oper):Bool:=
 (match a.dst with
   |some d=>(looks os b).contains d || b.dst == some d
   |none=>false) ||
 (match b.dst with
   |some d=>(looks os a).contains d
   |none=>false)
def tL(os:List Oper):Bool:=
 let ps:=kM os
 (List.range os.length).all fun j=>match os[j]? with
  |some b=>(b.after.toList.all fun e=>!Region.binds .any e || decide (e.on<j)) &&
   (List.range j).all fun i=>match os[i]? with
    |some a=>!uv os a b || (ps.getD j []).contains i
    |none=>true
  |none=>true
theorem Dg:∀(os:List Oper) (T9:List SJ) (j:Nat),j<T9.length->(os.foldl nq T9)[j]?=T9[j]?
 |[],T9,j,_=>rfl
 |o::os,T9,j,h=>by simp only[List.foldl_cons];rw[Dg os _ j (by simp[nq];omega)];unfold nq;rw[List.getElem?_append_left h]
theorem Jr:∀(os:List Oper) (T9:List SJ) (j:Nat) (o:Oper),os[j]?=some o->(os.foldl nq T9).getD (T9.length+j) []=qI ((o.after.toList.filter (Region.binds .any)).flatMap fun e=>e.on::(if e.on<T9.length+j then(os.foldl nq T9).getD e.on []else[]))
 |[],T9,j,o,h=>by simp at h
 |o'::os,T9,0,o,h=>by
  simp only[List.getElem?_cons_zero,Option.some.injEq]at h;subst h;simp only[List.foldl_cons,Nat.add_zero];have h1:(os.foldl nq (nq T9 o')).getD T9.length []=qI ((o'.after.toList.filter (Region.binds .any)).flatMap fun e=>e.on::T9.getD e.on []):=by rw[List.getD_eq_getElem?_getD,Dg os _ _ (by simp[nq])];unfold nq;rw[List.getElem?_append_right jl];simp
  rw[h1];congr 2
  funext e
  congr 1
  split
  ·rename_i SX;rw[List.getD_eq_getElem?_getD,List.getD_eq_getElem?_getD,Dg os _ _ (by simp[nq];omega)];unfold nq;rw[List.getElem?_append_left SX]
  ·rename_i hge;rw[List.getD_eq_getElem?_getD,List.getElem?_eq_none jB];rfl
 |o'::os,T9,j+1,o,h=>by
  simp only[List.foldl_cons];have:=Jr os (nq T9 o') j o (by simpa using h);have e:(nq T9 o').length+j=T9.length+(j+1):=by simp[nq];omega
  rw[e]at this;exact this
def ET{j:Nat}(h:os[j]?=some o):(kM os).getD j []=qI ((o.after.toList.filter (Region.binds .any)).flatMap fun e=>e.on::(if e.on<j then(kM os).getD e.on []else[])):=by have:=Jr os [] j o h;simp only[List.length_nil,Nat.zero_add]at this;exact this
def nY(os:List Oper)(L:SP):Prop:=∀j o,os[j]?=some o->L j=true->∀e∈o.after.toList,Region.binds .any e=true->L e.on=true
def vU{L:SP}(hc:nY os L)(SX:∀j o,os[j]?=some o->∀e∈o.after.toList,Region.binds .any e=true->e.on<j):∀n j,j<n->∀o,os[j]?=some o->(∀e∈o.after.toList,Region.binds .any e=true->L e.on=true)->∀i∈(kM os).getD j [],L i=true:=by
 intro n;induction n with
 |zero=>intro j hj;omega
 |succ n ih=>
  intro j hj o ho hL i hi;rw[ET ho,DD]at hi;obtain⟨e,he,hi⟩:=List.mem_flatMap.1 hi;obtain⟨V4,YP⟩:=List.mem_filter.1 he;have UB:=hL e V4 YP;rcases List.mem_cons.1 hi with rfl|hi
  ·exact UB
  ·rw[if_pos (SX j o ho e V4 YP)]at hi;have hlt':=SX j o ho e V4 YP;have hjlen:=(List.getElem?_eq_some_iff.1 ho).1;have VH:os[e.on]?=some (os[e.on]' jB):=List.getElem?_eq_getElem jB;exact ih e.on jB _ VH (fun e' h1 h2=>hc _ _ VH UB e' h1 h2) i hi
theorem BU(o:Oper)(os:List Oper)(r:AV)(rs:SG)(F:SG):∀m,FL (o::os) (r::rs) (fun _=>true) F (m+1)=FL os rs (fun _=>true) (cH F o.dst r) m
 |0=>by simp[FL]
 |m+1=>by have ih:=BU o os r rs F m;rw[FL,if_pos rfl,ih,FL,if_pos rfl];simp
theorem Gh{K:SG->Prop}:∀(l:List Oper) (F:SG) (rs:SG),yG P ops H K l F rs->(∀i o,l[i]?=some o->QV P ops o (FL l rs (fun _=>true) F i) H (rs.getD i .any))/\K (FL l rs (fun _=>true) F l.length)
 |[],F,rs,h=>⟨fun i o hi=>by simp at hi,h.2⟩
 |o::l,F,rs,h=>by
  obtain⟨r,T0,rfl,h1,h2⟩:=h;obtain⟨g1,g2⟩:=Gh l _ T0 h2;refine⟨fun i o' hi=>?_,by rw[List.length_cons,BU];exact g2⟩;cases i with
  |zero=> simp only[List.getElem?_cons_zero,Option.some.injEq]at hi;subst hi;exact h1
  |succ i=> rw[BU];exact g1 i o' (by simpa using hi)
def vG(h:tL os=true):(∀j o,os[j]?=some o->∀e∈o.after.toList,Region.binds .any e=true->e.on<j)/\
  ∀i j a b,i<j->os[i]?=some a->os[j]?=some b->uv os a b=true->i∈(kM os).getD j []:=by
 simp only[tL,List.all_eq_true,List.mem_range]at h;constructor
 ·intro j o ho e he hb;have:=h j (List.getElem?_eq_some_iff.1 ho).1;rw[ho]at this;simp only[Bool.and_eq_true,List.all_eq_true]at this;have:=this.1 e he;simpa[hb]using this
 ·intro i j a b Zd ha hb hc;have:=h j (List.getElem?_eq_some_iff.1 hb).1;rw[hb]at this;simp only[Bool.and_eq_true,List.all_eq_true,List.mem_range]at this;have:=this.2 i Zd;rw[ha]at this;simp only[hc,Bool.not_true,Bool.false_or]at this;simpa using this
theorem DQ{os:List Oper}{rs F:SG}{L:SP}{i s:Nat}(hw:∀k o,os[k]?=some o->o.dst=some s->L k=decide (k<i)):∀m,lR os rs L F s m=lR os rs (fun _=>true) F s (min m i)
 |0=>by simp[lR]
 |m+1=>by
  have ih:=DQ (rs:=rs) (F:=F) hw m;rw[lR];by_cases hd:(os[m]?).bind (·.dst)=some s
  ·obtain⟨o,ho,hs⟩:=Option.bind_eq_some_iff.1 hd;have hL:=hw m o ho hs;by_cases hm:m<i
   ·rw[if_pos ⟨by rw[hL];simpa using hm,hd⟩,show min (m+1) i=m+1 from jB,lR,if_pos ⟨rfl,hd⟩]
   ·rw[if_neg (by rw[hL];simp[hm]),ih,show min (m+1) i=min m i from jB]
  ·rw[if_neg (by simp[hd]),ih];by_cases hm:m<i
   ·rw[show min (m+1) i=m+1 from jB,show min m i=m from jB,lR,if_neg (by simp[hd])]
   ·rw[show min (m+1) i=min m i from jB]
theorem Di{os:List Oper}{rs F:SG}{L L':SP}{i s:Nat}{o:Oper}(ho:os[i]?=some o)(Vg:∀k,L' k=(L k || k == i))(hw:∀k o',os[k]?=some o'->o'.dst=some s->L k=decide (k<i))(hs:o.dst=some s):∀m,i<m->lR os rs L' F s m=rs.getD i .any
 |0,h=>by omega
 |m+1,h=>by
  rw[lR];by_cases hm:m=i
  ·subst hm;rw[if_pos ⟨by rw[Vg];simp,by rw[ho];exact hs⟩]
  ·rw[if_neg]
   ·exact Di ho Vg hw hs m jB
   ·rintro⟨h1,h2⟩;obtain⟨o',VH,VT⟩:=Option.bind_eq_some_iff.1 h2;rw[Vg,hw m o' VH VT]at h1;simp at h1;omega
theorem Dr{os:List Oper}{rs F:SG}{L L':SP}{i s:Nat}{o:Oper}(ho:os[i]?=some o)(Vg:∀k,L' k=(L k || k == i))(hs:o.dst≠some s):∀m,lR os rs L' F s m=lR os rs L F s m
 |0=>rfl
 |m+1=>by
  have ih:=Dr (rs:=rs) (F:=F) ho Vg hs m;rw[lR,lR,ih,Vg];by_cases hm:m=i
  ·subst hm;rw[ho];simp[hs]
  ·simp[hm]
def Rt{t:Nat}(h:Operand.tmp t∈o.op.operands.toList):t∈looks os o:=
 List.mem_append_left _ (List.mem_filterMap.2 ⟨_,h,rfl⟩)
def IQ(hl:F.length=G.length)(h:∀s∈looks os o,s<F.length->G.getD s .any=F.getD s .any):ec os.toArray o F G:=by
 have TF:∀s∈looks os o,G[s]?=F[s]?:=fun s hs=>by
  rcases Nat.lt_or_ge s F.length with h1|h1
  ·have:=h s hs h1;have e1:G[s]?=some (G.getD s .any):=by simp[<-hl,h1]
   have e2:F[s]?=some (F.getD s .any):=by simp[h1]
   rw[e1,e2,this]
  ·rw[List.getElem?_eq_none jB,List.getElem?_eq_none h1]
 constructor
 ·intro x hx;cases x with
  |tmp t=>simp only[bZ,List.getD_eq_getElem?_getD,TF t (Rt hx)]
  |const v=>rfl
  |global g=>rfl
  |func f=>rfl
 ·intro j b hg;unfold mV;cases hd:(os.toArray[j]?).bind (·.dst)with
  |none=>rfl
  |some d=> simp only;rw[TF d (List.mem_append_right _ (by rw[hg];simp at hd ⊢;simpa using hd))]
variable{Q:Exit->SC}
def LL{l:List Oper}{rs:SG}(hok:tL l=true)(Yg:∀i o,l[i]?=some o->QV P l.toArray o (FL l rs (fun _=>true) F i) H (rs.getD i .any))(hK:Q .normal (FL l rs (fun _=>true) F l.length) H)(w0:NW) :
  ∀(fuel:Nat) (listed:Array Bool),listed.size=l.length->nY l (fun i=>listed.getD i false)->(List.range l.length).countP (fun i=>!listed.getD i false)=fuel->
   ∀(w:NW) tm,aT w H->bC w (FL l rs (fun i=>listed.getD i false) F l.length) tm->Ext w0 H w H->wpAny P .any l.toArray (gO Q w0 H) fuel listed ⟨tm,[]⟩ w.toWorld:=by
 obtain⟨SX,S9⟩:=vG hok
 -- when all are done
 have fin:∀(listed:Array Bool),(∀i,i<l.length->listed.getD i false=true)->∀(w:NW) tm,aT w H->bC w (FL l rs (fun i=>listed.getD i false) F l.length) tm->Ext w0 H w H->gO Q w0 H .normal ⟨tm,[]⟩ w.toWorld:=by
  intro listed Tv w tm h1 h2 h3;have e:FL l rs (fun i=>listed.getD i false) F l.length=FL l rs (fun _=>true) F l.length:=by
   have gen:∀m,m<=l.length->FL l rs (fun i=>listed.getD i false) F m=FL l rs (fun _=>true) F m:=by
    intro m;induction m with
    |zero=>intro _;rfl
    |succ m ih=>intro hm;rw[FL,FL,ih jB,Tv m jB]
   exact gen _ jl
  rw[e]at h2;exact⟨tm,_,H,w,rfl,rfl,hK,h1,h2,h3.qC⟩
 intro fuel;induction fuel with
 |zero=>
  intro listed SY Vz WT w tm h1 h2 h3;have Tv:∀i,i<l.length->listed.getD i false=true:=fun i hi=>by have:=(List.countP_eq_zero.1 WT) i (List.mem_range.2 hi);simpa using this
  refine⟨?_,fin listed Tv w tm h1 h2 h3⟩;rw[List.eq_nil_iff_forall_not_mem];intro j hj;obtain⟨Yh,o,ho,_⟩:=mem_ready.1 hj;have Xw:j<l.length:=by have:=(Array.getElem?_eq_some_iff.1 ho).1;simpa using this
  have:=Tv j Xw;simp[SY,Xw]at this Yh;rw[this]at Yh;cases Yh
 |succ fuel ih=>
  intro listed SY Vz WT w tm h1 h2 h3;refine⟨fun Yi=>?_,fun i hi=>?_⟩
  ·-- some operation is ready
   exfalso;have hex:∃i,i<l.length/\listed.getD i false=false:=by have Tk:0<(List.range l.length).countP (fun i=>!listed.getD i false):=jB;obtain⟨i,hi,hp⟩:=List.countP_pos_iff.1 Tk;exact⟨i,List.mem_range.1 hi,by simpa using hp⟩
   obtain⟨i,⟨hi,hf⟩,V5⟩:=exists_least hex;have ho:l[i]?=some l[i]:=List.getElem?_eq_getElem hi;have:i∈Region.ready .any l.toArray listed:=mem_ready.2 ⟨by simp[SY,hi]at hf ⊢;exact hf,l[i],by simp[hi],fun e he hb=>by
    have h4:=SX i _ ho e (by simpa using he) hb;cases hv:listed.getD e.on false with
    |true=>rfl
    |false=>have:=V5 e.on ⟨jB,hv⟩;omega⟩
   rw[Yi]at this;cases this
  ·obtain⟨VI,o,ho,Ud⟩:=mem_ready.1 hi;have VH:l[i]?=some o:=by simpa using ho
   have UT:=(List.getElem?_eq_some_iff.1 VH).1;have Wp:listed.getD i false=false:=by simp[SY,UT]at VI ⊢;exact VI
   have Uy:∀e∈o.after.toList,Region.binds .any e=true->listed.getD e.on false=true:=fun e he hb=>Ud e (by simpa using he) hb
   have Tx:=vU Vz SX (i+1) i jB o VH Uy
   -- who writes where o touches
   have hwr:∀k o' s,l[k]?=some o'->o'.dst=some s->(s∈looks l o\/o.dst=some s)->listed.getD k false=decide (k<i):=by
    intro k o' s hk hs TG;rcases Nat.lt_trichotomy k i with h|h|h
    ·rw[decide_eq_true h];refine Tx k (S9 k i o' o h hk VH ?_);unfold uv;rw[hs];rcases TG with h5|h5
     ·simp[h5]
     ·simp[h5]
    ·subst h;simpa using Wp
    ·rw[decide_eq_false jB];cases hv:listed.getD k false with
     |false=>rfl
     |true=>
      have UW:i∈(kM l).getD k []:=S9 i k o o' h VH hk (by
       unfold uv;rw[hs];rcases TG with h5|h5
       ·simp[h5]
       ·simp[h5])
      have:=vU Vz SX (k+1) k jB o' hk (fun e he hb=>Vz k o' hk hv e he hb) i UW;rw[Wp]at this;cases this
   have Vb:ec l.toArray o (FL l rs (fun _=>true) F i) (FL l rs (fun i=>listed.getD i false) F l.length):=by
    refine IQ (by rw[l5,l5]) fun s hs D'=>?_
    rw[l5]at D';rw[sx _ _ _ _ D',sx _ _ _ _ D',DQ (fun k o' hk hd=>hwr k o' s hk hd (.inl hs)),show min l.length i=i from jB]
   have UZ:=Yg i o VH _ Vb;have Vg:∀k,(listed.setIfInBounds i true).getD k false=(listed.getD k false || k == i):=fun k=>by
    by_cases hk:k=i
    ·subst hk;simp[SY,UT]
    ·simp[Array.getElem?_setIfInBounds_ne (Ne.symm hk),hk]
   have Tq:cH (FL l rs (fun i=>listed.getD i false) F l.length) o.dst (rs.getD i .any)=FL l rs (fun k=>(listed.setIfInBounds i true).getD k false) F l.length:=by
    refine EC (m':=0) (L':=fun _=>true) (by cases o.dst<;>simp[cH,l5]) fun s hs=>?_
    by_cases hd:o.dst=some s
    ·rw[Di (L:=fun i=>listed.getD i false) VH Vg (fun k o' hk XP=>hwr k o' s hk XP (.inr hd)) hd _ UT,hd];simp[cH,l5,hs]
    ·rw[Dr (L:=fun i=>listed.getD i false) VH Vg hd,<-sx _ _ _ _ hs];cases XP:o.dst with
     |none=>rfl
     |some d=>
      have:d≠s:=fun e=>hd (by rw[XP,e])
      simp[cH,List.getElem?_set,this]
   have:=UZ w tm (gO Q w0 H) (wpAny P .any l.toArray (gO Q w0 H) fuel (listed.setIfInBounds i true)) h1 h2 (by
    rintro TI w' F' H' ⟨rfl,rfl⟩ g1 g2 g3;refine ih (listed.setIfInBounds i true) (by simpa using SY) ?_ ?_ w' TI g1 (by rw[<-Tq];exact g2) (h3.trans g3)
    ·intro j o' hj U7 e he hb;simp only[Vg]at U7 ⊢;rcases Bool.or_eq_true_iff.1 U7 with h6|h6
     ·have h7:listed.getD e.on false=true:=Vz j o' hj h6 e he hb;rw[h7];rfl
     ·obtain rfl:j=i:=by simpa using h6
      rw[VH]at hj;cases hj;rw[Uy e he hb];rfl
    ·have:∀(n:Nat),i<n->(List.range n).countP (fun k=>!(listed.setIfInBounds i true).getD k false)+1=(List.range n).countP (fun k=>!listed.getD k false):=by
      intro n;induction n with
      |zero=>intro h;omega
      |succ n ihn=>
       intro h;rw[List.range_succ,List.countP_append,List.countP_append];by_cases hn:n=i
       ·subst hn;have:(List.range n).countP (fun k=>!(listed.setIfInBounds n true).getD k false)=(List.range n).countP (fun k=>!listed.getD k false):=by
         refine List.countP_congr fun k hk=>?_
         rw[Vg];have:k≠n:=by have:=List.mem_range.1 hk;omega
         simp[this]
        rw[this];simp only[List.countP_singleton,Vg,Wp];simp
       ·rw[<-ihn jB];simp only[List.countP_singleton,Vg];have:(n == i)=false:=by simpa using hn
        rw[this,Bool.or_false];omega
     have:=this l.length UT;omega)
   unfold wpOp;rw[ho];exact this
def Sj{id:Nat}{l:List Oper}(hm:P.follows .mixedOrders=true)(hok:tL l=true)(h:jK P l.toArray H (fun F'=>Q .normal F' H) l F):dw P (.region id l.toArray true) Q F H:=fun w tm h1 h2=>by
 obtain⟨rs,I'⟩:=Ft l F h;obtain⟨Yg,hK⟩:=Gh l F rs I';have hz:∀i,(Array.replicate l.toArray.size false).getD i false=false:=fun i=>by by_cases hi:i<l.length<;>simp[Array.getElem?_replicate,hi]
 refine wp_region_any hm ?_;have e0:FL l rs (fun i=>(Array.replicate l.toArray.size false).getD i false) F l.length=F:=by
  have gen:∀m,FL l rs (fun i=>(Array.replicate l.toArray.size false).getD i false) F m=F:=by
   intro m;induction m with
   |zero=>rfl
   |succ m ih=>rw[FL,hz,if_neg jE,ih]
  exact gen _
 exact LL hok Yg hK w l.toArray.size (Array.replicate l.toArray.size false) jE (fun j o _ hj=>by have:=(hz j).symm.trans hj;cases this) (by rw[List.countP_eq_length.2 (fun i _=>by rw[hz];rfl)];simp) (w.to w.drew) tm h1.drew (by rw[e0];exact h2.ext (Ext.drew w H)) (Ext.drew w H)
end
section
variable {P:SQ}{ops:Array Oper}{H:Hp}{K:SG->Prop}{F:SG}{dst:Option Tmp}{ty:SL}{pos:String}{after:Array Edge}{rest:List Oper}
@[go_sem] def j5d:jK P ops H K [] F=K F:=(rfl)
@[go_sem] def j30(x:Operand):jK P ops H K (⟨dst,.move x,ty,pos,after,none⟩::rest) F=jK P ops H K rest (cH F dst (bZ F x)):=by simp[jK,vq]
@[go_sem] def jwC:(∀(x:Operand),jK P ops H K (⟨dst,.nilCheck x,ty,pos,after,none⟩::rest) F=((pF (bZ F x)).1/\jK P ops H K rest (cH F dst (pF (bZ F x)).2)))/\(∀(t:SL) (x:Operand),jK P ops H K (⟨dst,.load t x,ty,pos,after,none⟩::rest) F=((oa P H t (bZ F x)).1/\jK P ops H K rest (cH F dst (oa P H t (bZ F x)).2)))/\(∀(t:SL) (x:Operand) (f:Nat),jK P ops H K (⟨dst,.fieldAddr t x f,ty,pos,after,none⟩::rest) F=((qO P t (bZ F x) f).1/\jK P ops H K rest (cH F dst (qO P t (bZ F x) f).2)))/\(∀(op:BinOp) (t:SL) (x y:Operand) (t':SL),jK P ops H K (⟨dst,.binOp op t x y t',ty,pos,after,none⟩::rest) F=((fH P op t (bZ F x) (bZ F y)).1/\jK P ops H K rest (cH F dst (fH P op t (bZ F x) (bZ F y)).2)))/\(∀(f:Operand) (as:Array Operand) (ts:Array SL),jK P ops H K (⟨dst,.call ⟨.value f,as,ts⟩,ty,pos,after,none⟩::rest) F=∃r,(fz P (bZ F f) (as.toList.map (bZ F)) H fun r' H'=>r'=r/\H'=H)/\jK P ops H K rest (cH F dst r)):=by and_intros<;>(intros;rfl)
end
end Go.Gd