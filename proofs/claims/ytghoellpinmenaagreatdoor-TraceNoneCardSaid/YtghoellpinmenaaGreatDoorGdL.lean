/- Lemmas. No conditions. -/
import Derived.Test.YtghoellpinmenaaGreatDoorGdE
import Derived.Deep.RegionWith
import Derived.Laws.Append
set_option linter.all false
namespace Go.Gd
open Go
section
variable {P:P6}{w:NW}{H:Hp}
variable{a:Option AV}{v:Option Value}
def l8{i:Option Int}(ha:pH a=some i)(hr:∀x y,a=some x->v=some y->az w x y)(hs:a.isSome=v.isSome):(i=none/\v=none)\/∃k n,i=some n/\v=some (.int k n):=by
 cases a with
 |none=>
  simp[pH]at ha;cases v with
  |none=>exact .inl ⟨ha.symm,rfl⟩
  |some _=>simp at hs
 |some x=>
  cases v with
  |none=>simp at hs
  |some y=>
   unfold pH at ha;split at ha<;>try cases ha
   ·rename_i h;cases h
   ·rename_i k n h;cases h;have:=di (hr _ _ rfl rfl);subst this;exact .inr ⟨k,n,rfl,rfl⟩
variable{vlo vhi:Option Value}{lo:Option Int}
def tY{isSlice:Bool}{len cap:Nat}{hi:Option Int}(QU:(lo=none/\vlo=none)\/∃k n,lo=some n/\vlo=some (.int k n))(TP:(hi=none/\vhi=none)\/∃k n,hi=some n/\vhi=some (.int k n))
  (h0:0<=lo.getD 0) (h1:lo.getD 0<=hi.getD len) (h2:hi.getD len<=cap):(Instr.sliceBounds isSlice len cap vlo vhi none).run P w=.ok ((lo.getD 0).toNat,(hi.getD len).toNat,cap) w:=by
 rcases QU with⟨rfl,rfl⟩|⟨k,n,rfl,rfl⟩<;>rcases TP with⟨rfl,rfl⟩|⟨k',m,rfl,rfl⟩<;>simp only[Option.getD_some,Option.getD_none]at*
 ·simp[Instr.sliceBounds]
 ·simp[Instr.sliceBounds,run_sliceBound w _ _ _ _ (show 0<=m from jB) h2]
 ·simp[Instr.sliceBounds,run_sliceBound w _ _ _ _ h0 h1]
 ·simp[Instr.sliceBounds,run_sliceBound w _ _ _ _ (show 0<=m from jB) h2,run_sliceBound w _ _ _ _ h0 (show n<=((m.toNat:Nat):Int) from jB)]
def Nr{len cap:Nat}{k k2:IntKind}{m q:Int}(QU:(lo=none/\vlo=none)\/∃k n,lo=some n/\vlo=some (.int k n))
  (h0:0<=lo.getD 0) (h1:lo.getD 0<=q) (h2:q<=m) (h3:m<=cap):(Instr.sliceBounds true len cap vlo (some (.int k2 q)) (some (.int k m))).run P w.toWorld=.ok ((lo.getD 0).toNat,q.toNat,m.toNat) w.toWorld:=by
 rcases QU with⟨rfl,rfl⟩|⟨k1,n,rfl,rfl⟩<;>simp only[Option.getD_some,Option.getD_none]at*
 ·simp[Instr.sliceBounds,run_sliceBound w.toWorld _ _ _ _ (show 0<=m from jB) h3,run_sliceBound w.toWorld _ _ _ _ (show 0<=q from jB) (show q<=((m.toNat:Nat):Int) from jB)]
 ·simp[Instr.sliceBounds,run_sliceBound w.toWorld _ _ _ _ (show 0<=m from jB) h3,run_sliceBound w.toWorld _ _ _ _ (show 0<=q from jB) (show q<=((m.toNat:Nat):Int) from jB),run_sliceBound w.toWorld _ _ _ _ h0 (show n<=((q.toNat:Nat):Int) from jB)]
variable{vmx:Option Value}
def ou{t e:P1}{sz:Nat}(hu:P.underlying t=some (.slice e))(hs:cW P e=some sz){A:Option Addr}{n c lo hi mx:Nat}(hb:(Instr.sliceBounds true n c vlo vhi vmx).run P w.toWorld=.ok (lo,hi,mx) w.toWorld) :
  ∃A',(Instr.sliceAt t (.slice A n c) vlo vhi vmx).run P w.toWorld=.ok (.slice A' (hi-lo) (mx-lo)) w.toWorld/\((A=none/\A'=none)\/∃ad,A=some ad/\A'=some (if mx=lo then ad else ad.add (lo*sz))):=by
 cases A with
 |none=>exact⟨none,by simp[Instr.sliceAt,run_underlying hu,Instr.slice,hb,kX hs],.inl ⟨rfl,rfl⟩⟩
 |some ad=>exact⟨some (if mx=lo then ad else ad.add (lo*sz)),by simp only[Instr.sliceAt,run_underlying hu,Instr.slice,hb,kX hs,Sem.run_bind,Result.andThen_ok,Sem.run_pure,Option.map_some];split<;>rfl,.inr ⟨ad,rfl,rfl⟩⟩
def Ez{i:Int}(ha:pH a=some (some i))(hr:∀x y,a=some x->v=some y->az w x y)(hs:a.isSome=v.isSome):∃k,v=some (.int k i):=by
 rcases l8 ha hr hs with⟨h,_⟩|⟨k,n,h,rfl⟩
 ·cases h
 ·cases h;exact⟨k,rfl⟩
def rG(ha:pH a=some none)(hr:∀x y,a=some x->v=some y->az w x y)(hs:a.isSome=v.isSome):v=none:=by
 rcases l8 ha hr hs with⟨_,h⟩|⟨k,n,h,rfl⟩
 ·exact h
 ·cases h
def Iv(t:P1){a:AV}{lo hi mx:Option AV}{va:Value}(ha:az w a va)(QU:∀x y,lo=some x->vlo=some y->az w x y)(slo:lo.isSome=vlo.isSome)
  (TP:∀x y,hi=some x->vhi=some y->az w x y) (shi:hi.isSome=vhi.isSome) (TQ:∀x y,mx=some x->vmx=some y->az w x y) (smx:mx.isSome=vmx.isSome):iI P w (Instr.sliceAt t va vlo vhi vmx) (nE P t a lo hi mx):=by
 intro hq;unfold nE at*;split at hq<;>try exact hq.elim
 ·rename_i s l h e1 e2 e3;obtain rfl:=rG e3 TQ smx;have:=di ha;subst this;have ht:=v6 hq.1;obtain⟨h0,h1,h2⟩:=hq.2;have hb:=tY (P:=P) (w:=w) (isSlice:=false) (l8 e1 QU slo) (l8 e2 TP shi) h0 h1 h2;exact⟨_,by simp[Instr.sliceAt,run_underlying ht,Instr.slice,hb],.raw _⟩
 ·rename_i x sz css d l h e1 e2 e3;obtain rfl:=rG e3 TQ smx;obtain⟨e,hu,hs⟩:=pA hq.1;obtain⟨h0,h1,h2⟩:=hq.2;have key:∀n c:Nat,n=css.length->n<=c->(Instr.sliceBounds true n c vlo vhi none).run P w.toWorld=.ok ((l.getD 0).toNat,(h.getD css.length).toNat,c) w.toWorld:=fun n c hn hc=>by
   subst hn;exact tY (P:=P) (w:=w) (isSlice:=true) (l8 e1 QU slo) (l8 e2 TP shi) h0 h1 jB
  generalize hL:l.getD 0=L at*;generalize hh:h.getD (css.length:Int)=Hh at*;obtain⟨Ln,rfl⟩:=Int.eq_ofNat_of_zero_le h0;obtain⟨Hn,rfl⟩:=Int.eq_ofNat_of_zero_le (show(0:Int)<=Hh from jB);simp only[Int.toNat_natCast]at key ⊢;have g':((css.drop Ln).take (Hn-Ln)).length=Hn-Ln:=by simp;omega
  cases ha with
  |gF _ _ A c hx=>
   obtain⟨A',C',_⟩:=ou hu hs (A:=A) (key 0 c rfl (Nat.zero_le _));obtain rfl:Hn=0:=by simp at h2;omega
   refine⟨_,C',?_⟩;simp only[Nat.zero_sub,List.take_zero];exact .gF _ _ _ _ (fun h=>by cases h)
  |sl _ _ _ ad c vs hn hc hx Qh RJ hH I' hr=>
   obtain⟨A',C',hA⟩:=ou hu hs (A:=some ad) (key _ c rfl hc);refine⟨_,C',?_⟩;by_cases hz:Hn-Ln=0
   ·rw[hz,List.take_zero];exact .gF _ _ _ _ (fun h=>by cases h)
   ·rcases hA with⟨h,_⟩|⟨ad',h,rfl⟩
    ·cases h
    cases h;rw[jN];have hg:∀i,i<Hn-Ln->((css.drop Ln).take (Hn-Ln)).getD i []=css.getD (Ln+i) []:=fun i hi=>by simp[List.getElem?_take,hi]
    have:=az.sl (w:=w) (d:=d) false sz ((css.drop Ln).take (Hn-Ln)) (ad.add (Ln*sz)) (c-Ln) (fun j=>vs (Ln*sz+j)) jB jB (fun h=>by cases h) (fun cs Ru=>Qh _ (List.mem_of_mem_drop (List.mem_of_mem_take Ru))) (by rw[nH];exact RJ) (by rw[nH];exact hH)
     (fun i j hi hj=>by
      rw[uB,show Ln*sz+(i*sz+j)=(Ln+i)*sz+j by rw[Nat.add_mul];omega];exact I' _ j jB hj) (fun i j u hi hu=>by
      rw[hg i jB]at hu;rw[show Ln*sz+(i*sz+j)=(Ln+i)*sz+j by rw[Nat.add_mul];omega];exact hr _ j u jB hu)
    rw[g']at this;exact this
 ·rename_i d m sz n h e1 e2 e3;obtain rfl:=rG e3 TQ smx;obtain rfl:=rG e1 QU slo;obtain⟨e,hu,hs⟩:=pA hq.1;obtain⟨h1,h2⟩:=hq.2;have key:∀c:Nat,n<=c->(Instr.sliceBounds true n c none vhi none).run P w.toWorld=.ok (0,(h.getD n).toNat,c) w.toWorld:=fun c hc=>by
   have:=tY (P:=P) (w:=w) (isSlice:=true) (len:=n) (cap:=c) (lo:=none) (vlo:=none) (.inl ⟨rfl,rfl⟩) (l8 e2 TP shi) jE (by simpa using h1) jB;simpa using this
  cases ha with
  |kH _ _ _ A hn=>
   obtain⟨A',C',_⟩:=ou hu hs (A:=A) (key 0 (Nat.zero_le _));have h0:(h.getD 0).toNat=0:=by simp at h2;omega
   refine⟨_,C',?_⟩;simp only[Nat.sub_zero,Int.ofNat_zero];rw[h0];exact .kH d m sz A' hn
  |rs _ _ _ _ b t c hn hc P' RH=>
   obtain⟨A',C',hA⟩:=ou hu hs (A:=some ⟨b,0,none⟩) (key c P');refine⟨_,C',?_⟩;rcases hA with⟨h',_⟩|⟨ad',h',rfl⟩
   ·cases h'
   cases h';have:(if c=0 then(⟨b,0,none⟩:Addr)else(⟨b,0,none⟩:Addr).add (0*sz))=⟨b,0,none⟩:=by rw[Nat.zero_mul,Ff];simp
   rw[this];simp only[Nat.sub_zero];exact .rs d m sz _ b t c hn hc jB RH
 ·rename_i d m sz n l h e1 e2 e3;obtain rfl:=rG e3 TQ smx;obtain⟨e,hu,hs⟩:=pA hq.1;obtain⟨h0,h1,h2⟩:=hq.2;have key:∀c:Nat,n<=c->(Instr.sliceBounds true n c vlo vhi none).run P w.toWorld=.ok (l.toNat,(h.getD n).toNat,c) w.toWorld:=fun c hc=>
   tY (P:=P) (w:=w) (isSlice:=true) (len:=n) (cap:=c) (lo:=some l) (l8 e1 QU slo) (l8 e2 TP shi) h0 h1 jB
  cases ha with
  |kH _ _ _ A hn=>
   obtain⟨A',C',_⟩:=ou hu hs (A:=A) (key 0 (Nat.zero_le _));refine⟨_,C',?_⟩;have:(h.getD (0:Nat)).toNat-l.toNat=0:=by simp at h1 h2 ⊢;omega
   rw[this];exact .ny d m sz _ _ _
  |rs _ _ _ _ b t c hn hc P' RH=>
   obtain⟨A',C',hA⟩:=ou hu hs (A:=some ⟨b,0,none⟩) (key c P');refine⟨_,C',?_⟩;by_cases hz:(h.getD n).toNat-l.toNat=0
   ·rw[hz];exact .ny d m sz _ _ _
   ·rcases hA with⟨h',_⟩|⟨ad',h',rfl⟩
    ·cases h'
    cases h';rw[jN,lg,Nat.zero_add];exact .rv d m sz _ _ b t _ hn jB
 ·rename_i d m sz o n l h e1 e2 e3;obtain rfl:=rG e3 TQ smx;obtain⟨e,hu,hs⟩:=pA hq.1;obtain⟨h0,h1,h2⟩:=hq.2;have key:∀c:Nat,n<=c->(Instr.sliceBounds true n c vlo vhi none).run P w.toWorld=.ok ((l.getD 0).toNat,(h.getD n).toNat,c) w.toWorld:=fun c hc=>
   tY (P:=P) (w:=w) (isSlice:=true) (len:=n) (cap:=c) (l8 e1 QU slo) (l8 e2 TP shi) h0 h1 jB
  cases ha with
  |ny _ _ _ _ c A=>
   obtain⟨A',C',_⟩:=ou hu hs (A:=A) (key c (Nat.zero_le _));refine⟨_,C',?_⟩;have:(h.getD (0:Nat)).toNat-(l.getD 0).toNat=0:=by simp at h1 h2 ⊢;omega
   rw[this];exact .ny d m sz _ _ _
  |rv _ _ _ _ _ b t c hn P'=>
   obtain⟨A',C',hA⟩:=ou hu hs (A:=some ⟨b,o*sz,none⟩) (key c P');refine⟨_,C',?_⟩;by_cases hz:(h.getD n).toNat-(l.getD 0).toNat=0
   ·rw[hz];exact .ny d m sz _ _ _
   ·rcases hA with⟨h',_⟩|⟨ad',h',rfl⟩
    ·cases h'
    cases h';rw[jN,lg,<-Nat.add_mul];exact .rv d m sz _ _ b t _ hn jB
 ·rename_i d m sz n l h x e1 e2 e3;obtain⟨kx,rfl⟩:=Ez e3 TQ smx;obtain⟨kh,rfl⟩:=Ez e2 TP shi;obtain⟨e,hu,hs⟩:=pA hq.1;obtain⟨h0,h1,h2,h3⟩:=hq.2;have key:∀c:Nat,n<=c->(Instr.sliceBounds true n c vlo (some (.int kh h)) (some (.int kx x))).run P w.toWorld=.ok ((l.getD 0).toNat,h.toNat,x.toNat) w.toWorld:=fun c hc=>
   Nr (P:=P) (w:=w) (len:=n) (cap:=c) (l8 e1 QU slo) h0 h1 h2 jB
  cases ha with
  |kH _ _ _ A hn=>
   obtain⟨A',C',_⟩:=ou hu hs (A:=A) (key 0 (Nat.zero_le _));refine⟨_,C',?_⟩;have:h.toNat-(l.getD 0).toNat=0:=by simp at h1 h2 h3 ⊢;omega
   rw[this];exact .ny d m sz _ _ _
  |rs _ _ _ _ b t c hn hc P' RH=>
   obtain⟨A',C',hA⟩:=ou hu hs (A:=some ⟨b,0,none⟩) (key c P');refine⟨_,C',?_⟩;by_cases hz:h.toNat-(l.getD 0).toNat=0
   ·rw[hz];exact .ny d m sz _ _ _
   ·rcases hA with⟨h',_⟩|⟨ad',h',rfl⟩
    ·cases h'
    cases h';rw[jN,lg,Nat.zero_add];exact .rv d m sz _ _ b t _ hn jB
 ·rename_i l h e1 e2 e3;obtain rfl:=rG e3 TQ smx;have:=di ha;subst this;obtain⟨_,Qh,h0,h1⟩:=hq;obtain⟨sz,Qh⟩:=Option.isSome_iff_exists.1 Qh;obtain⟨e,hu,hs⟩:=pA Qh;have hb:=tY (P:=P) (w:=w) (isSlice:=true) (len:=0) (cap:=0) (l8 e1 QU slo) (l8 e2 TP shi) jB jF jF;simp only[h0,Int.toNat_zero,h1,Int.ofNat_zero]at hb;exact⟨_,by simp[Instr.sliceAt,run_underlying hu,Instr.slice,hb,kX hs],.raw _⟩
def L1(s d:P1){a:AV}{v:Value}(h:az w a v):iI P w (convert s d v) (pw P s d a):=by
 intro hq;unfold pw at*;split at hq<;>try exact hq.elim
 ·rename_i k' n k e;have:=di h;subst this;have hd:P.underlying d=some (.int k):=by unfold Ao at e;split at e<;>simp_all
  obtain⟨ds,hs⟩:=Option.isSome_iff_exists.1 hq;refine⟨.int k (k.wrap n),?_,.raw _⟩;cases ds<;>simp[convert,run_underlying hs,run_underlying hd,Conv.intToInt]
 ·rename_i s' e;have:=di h;subst this;have hd:=v6 hq.2;obtain⟨ds,hs⟩:=Option.isSome_iff_exists.1 hq.1;refine⟨.string s',?_,.raw _⟩;cases ds<;>simp[convert,run_underlying hs,run_underlying hd]
def Cc(mx:Bool)(ts:Array P1)(ty:P1){l:PW}{vs:P4}(h:bT w l vs):iI P w (if mx then Builtin.max_ ts ty vs.toArray else Builtin.min_ ts ty vs.toArray) (rH mx l):=by
 intro hq;unfold rH at*;split at hq<;>try exact hq.elim
 rename_i k a k' b;obtain⟨hl,hr⟩:=h;match vs,hl with
 |[x,y],_=> obtain rfl:k=k':=hq;obtain rfl:=di (hr 0 _ _ rfl rfl);obtain rfl:=di (hr 1 _ _ rfl rfl);cases mx<;>exact⟨_,by simp[Builtin.max_,Builtin.min_,Builtin.max2,Builtin.min2];rfl,by simpa using az.raw _⟩
theorem yq{pl:Nat->Option (Nat×Nat)}:∀{parts:List (Nat×AV)} {vparts:List (Nat×Value)} {cells:PW} {cur:P3} {out:PW},
  pY pl cells parts=some out->parts.map (·.1)=vparts.map (·.1)->(∀(i:Nat) a v,parts[i]?=some a->vparts[i]?=some v->bT w a.2.cells v.2.cells.toList)->bT w cells cur.toList->
  ∃vs,Instr.fill pl cur vparts=some vs/\bT w out vs.toList
 |[],[],cells,cur,out,h,_,_,hc=>by simp only[pY,Option.some.injEq]at h;subst h;exact⟨cur,rfl,hc⟩
 |[],_::_,_,_,_,_,he,_,_=>by simp at he
 |_::_,[],_,_,_,_,he,_,_=>by simp at he
 |(i,a)::parts,(i',v)::vparts,cells,cur,out,h,he,hr,hc=>by
  simp only[List.map_cons,List.cons.injEq]at he;obtain⟨rfl,he⟩:=he;simp only[pY]at h;split at h
  ·rename_i off k hp;split at h
   ·rename_i hk;have hv:=hr 0 _ _ rfl rfl;simp only at hv;have g':v.cells.size=k:=by have:=hv.1;simp at this;omega
    have SW:cells.length=cur.size:=by simpa using hc.1
    have N':∀(l:P4) (o:Nat) (c:P3),(l.toArray.zipIdx.foldl (fun cs (x,j)=>cs.setIfInBounds (o+j) x) c)=(c.toList.take o++l++c.toList.drop (o+l.length)).toArray\/c.size<o+l.length:=by
     intro l o c;by_cases hb:c.size<o+l.length
     ·exact .inr hb
     ·refine .inl ?_;have gen:∀(l:P4) (s:Nat) (c:P3),o+s+l.length<=c.size->((l.zipIdx s).foldl (fun(cs:P3) (p:Value×Nat)=>cs.setIfInBounds (o+p.2) p.1) c)=(c.toList.take (o+s)++l++c.toList.drop (o+s+l.length)).toArray:=by
       intro l;induction l with
       |nil=>intro s c _;simp
       |cons x l ih=>
        intro s c hb;simp only[List.zipIdx_cons,List.foldl_cons];rw[ih (s+1) _ (by simp at hb ⊢;omega)];apply Array.ext';simp only[Array.toList_setIfInBounds];apply List.ext_getElem?;intro m;simp only[List.length_cons]at hb;rcases Nat.lt_or_ge m (o+s)with h1|h1
        ·rw[List.append_assoc,List.getElem?_append_left jF,List.append_assoc,List.getElem?_append_left jF];simp only[List.getElem?_take,List.getElem?_set];rw[jP,jN,if_pos h1]
        ·rcases Nat.lt_or_ge m (o+s+1)with h2|h2
         ·obtain rfl:m=o+s:=jB;rw[List.append_assoc,List.getElem?_append_left jF,List.append_assoc,List.getElem?_append_right jF];simp only[List.getElem?_take,List.getElem?_set,List.length_take,Array.length_toList];rw[jP];simp only[Nat.add_assoc,if_true];rw[jP,show o+s-min (o+s) c.size=0 from jB];rfl
         ·rw[List.append_assoc,List.append_assoc,List.cons_append,List.getElem?_append_right (l₁:=List.take (o+(s+1)) _) jF,List.getElem?_append_right (l₁:=List.take (o+s) _) jF];simp only[List.length_take,List.length_set,Array.length_toList];rw[show m-min (o+s) c.size=(m-min (o+(s+1)) c.size)+1 from jB,List.getElem?_cons_succ];rcases Nat.lt_or_ge (m-min (o+(s+1)) c.size) l.length with h3|h3
          ·rw[List.getElem?_append_left h3,List.getElem?_append_left h3]
          ·rw[List.getElem?_append_right h3,List.getElem?_append_right h3];simp only[List.getElem?_drop,List.getElem?_set,List.length_cons];rw[jN];congr 1
           omega
      have:=gen l 0 c jB;simp only[Nat.add_zero]at this;rw[<-this,<-Array.foldl_toList];simp
    have Qn:¬(cur.size<off+v.cells.toList.length):=by simp;omega
    have hs:=(N' v.cells.toList off cur).resolve_right Qn;rw[Array.toArray_toList]at hs;obtain⟨vs,h1,h2⟩:=yq (cur:=(cur.toList.take off++v.cells.toList++cur.toList.drop (off+v.cells.toList.length)).toArray) h he (fun i a v ha hv=>hr (i+1) a v (by simpa using ha) (by simpa using hv)) (by
     refine⟨by simp[iO];omega,fun m x y hx hy=>?_⟩;simp only[iO]at hx;rcases Nat.lt_or_ge m off with g1|g1
     ·rw[List.append_assoc,List.getElem?_append_left jF,List.getElem?_take,if_pos g1]at hx hy;exact hc.2 m x y hx hy
     ·rcases Nat.lt_or_ge m (off+a.cells.length)with g2|g2
      ·rw[List.append_assoc,List.getElem?_append_right jF,List.getElem?_append_left jF]at hx hy;simp only[List.length_take,Array.length_toList]at hx hy;rw[show m-min off cells.length=m-off from jB]at hx;rw[show m-min off cur.size=m-off from jB]at hy;exact hv.2 _ x y hx hy
      ·rw[List.getElem?_append_right jF]at hx hy;simp only[List.length_append,List.length_take,Array.length_toList,List.getElem?_drop]at hx hy;rw[show off+a.cells.length+(m-(min off cells.length+a.cells.length))=m from jB]at hx;rw[show off+v.cells.size+(m-(min off cur.size+v.cells.size))=m from jB]at hy;exact hc.2 m x y hx hy)
    refine⟨vs,?_,h2⟩;simp only[Instr.fill,hp];rw[if_neg jF,hs];exact h1
   ·cases h
  ·cases h
def LB{t:P1}{pl:List (Nat×Nat)}(h:jo P t=some pl):∃fs:Array Field,P.underlying t=some (.struct fs)/\(fs.mapM (m:=Sem) fun f=>do pure (f.offset,<-sizeOf f.type)).run P w.toWorld=.ok pl.toArray w.toWorld:=by
 unfold jo at h;split at h
 ·rename_i fs hu;refine⟨fs,hu,?_⟩;rw[Array.mapM_eq_mapM_toList];have gen:∀(l:List Field) (pl:List (Nat×Nat)),l.mapM (fun f=>(cW P f.type).map fun k=>(f.offset,k))=some pl->(l.mapM (m:=Sem) fun f=>do pure (f.offset,<-sizeOf f.type)).run P w.toWorld=.ok pl w.toWorld:=by
   intro l;induction l with
   |nil=>intro pl h;simp at h;subst h;simp
   |cons f l ih=> intro pl h;rw[List.mapM_cons]at h;simp only[Option.bind_eq_bind,Option.bind_eq_some_iff,Option.map_eq_some_iff,Option.pure_def,Option.some.injEq]at h;obtain⟨p,⟨k,hk,rfl⟩,rest,RO,rfl⟩:=h;rw[List.mapM_cons];simp only[Sem.run_bind,kX hk,Result.andThen_ok,Sem.run_pure,ih rest RO]
  simp only[Sem.run_map,gen fs.toList pl h,Result.andThen_ok]
 ·cases h
def KD(t:P1){parts:List (Nat×AV)}{vparts:Array (Nat×Value)}(h1:parts.map (·.1)=vparts.toList.map (·.1))(h2:∀(i:Nat) a v,parts[i]?=some a->vparts.toList[i]?=some v->az w a.2 v.2):iI P w (Instr.build t vparts) (o8 P t parts):=by
 intro hq;unfold o8 at*;split at hq<;>try exact hq.elim
 rename_i zs pl e1 e2;split at hq<;>try exact hq.elim
 rename_i out hf;obtain⟨z,hz,rfl⟩:=wJ (w:=w) e1;obtain⟨fs,hu,hp⟩:=LB (w:=w) e2;simp only[cM,List.all_eq_true]at hq;have TR:∀(i:Nat) a,parts[i]?=some a->cM a.2.cells=true:=fun i a ha=>by simp only[cM,List.all_eq_true];intro x hx;exact hq x (List.mem_flatten.2 ⟨_,List.mem_map.2 ⟨a,List.mem_of_getElem? ha,rfl⟩,hx⟩)
 obtain⟨vs,g1,g2⟩:=yq (w:=w) (cur:=z.cells) hf h1 (fun i a v ha hv=>(h2 i a v ha hv).fD (TR i a ha))
  ⟨jE,fun i a v ha hv=>by simp only[List.getElem?_map,Option.map_eq_some_iff]at ha;obtain⟨x,hx,rfl⟩:=ha;rw[hx]at hv;cases hv;exact .raw _⟩
 refine⟨.agg vs,?_,.agg _ _ (by have:=g2.1;simpa using this) fun i a v ha hv=>g2.2 i a v ha (by simpa using hv)⟩;have e:(fun i:Nat=>pl.toArray[i]?)=(fun i:Nat=>pl[i]?):=by funext i;simp
 simp only[Instr.build,Sem.run_bind,hz,Result.andThen_ok,run_underlying hu,hp,e,g1,Sem.run_pure]
end
section
variable {P:P6}{w:NW}{H:Hp}{ρ:Operand->Value}{ev:P2}
def tU(hr:∀x,az w (ev x) (ρ x))(l:List Operand):bT w (l.map ev) (l.map ρ):=
 ⟨jE,fun i a v ha hv=>by simp only[List.getElem?_map,Option.map_eq_some_iff]at ha hv;obtain⟨x,hx,rfl⟩:=ha;obtain⟨y,hy,rfl⟩:=hv;rw[hx]at hy;cases hy;exact hr x⟩
def Ag(hr:∀x,az w (ev x) (ρ x))(o:Option Operand):∀x y,o.map ev=some x->o.map ρ=some y->az w x y:=by
 intro x y hx hy;cases o with
 |none=>cases hx
 |some z=>cases hx;cases hy;exact hr z
def kW{s:Sem Value}{q:PA}(hq:q.1)(h:iI P w s q):∃v,(do pure (Next.value (<-s)):Sem Next).run P w.toWorld=.ok (.value v) w.toWorld/\az w q.2 v:=by obtain⟨v,h1,h2⟩:=h hq;exact⟨v,by simp[h1],h2⟩
def GS{c a b:Operand}{x y z:AV}{dst:Option Tmp}{ty:P1}{pos:String}{after:Array Edge}{guard:Option (Nat×Bool)}(hc:az w x (ρ c))(ha:az w y (ρ a))(hb:az w z (ρ b))(hq:(jY x y z).1) :
  ∃v,(execOp ρ ⟨dst,.pick c a b,ty,pos,after,guard⟩).run P w.toWorld=.ok (.value v) w.toWorld/\az w (jY x y z).2 v:=by
 obtain⟨v,h1,h2⟩:=CZ (P:=P) hc ha hb hq;refine⟨v,?_,h2⟩;simp only[execOp,Sem.run_bind,Sem.run_pure]at h1 ⊢;cases hb:(asBool (ρ c)).run P w with
 |ok x w'=>rw[hb]at h1;simp only[Result.andThen_ok,Result.ok.injEq]at h1 ⊢;exact⟨by rw[h1.1],h1.2⟩
 |halt e w'=>rw[hb]at h1;simp at h1
def xz(o:Oper)(hw:aN w H)(hr:∀x,az w (ev x) (ρ x))(hq:(vq P ev H o.op).1):∃v,(execOp ρ o).run P w.toWorld=.ok (.value v) w.toWorld/\az w (vq P ev H o.op).2 v:=by
 obtain⟨dst,op,ty,pos,after,guard⟩:=o;cases op
 case move x=>exact⟨_,rfl,hr x⟩
 case assign x=>exact⟨_,rfl,hr x⟩
 case pick c a b=>
  obtain⟨v,h1,h2⟩:=CZ (P:=P) (hr c) (hr a) (hr b) hq;refine⟨v,?_,h2⟩;simp only[execOp,Sem.run_bind,Sem.run_pure]at h1 ⊢;cases hb:(asBool (ρ c)).run P w with
  |ok x w'=>rw[hb]at h1;simp only[Result.andThen_ok,Result.ok.injEq]at h1 ⊢;exact⟨by rw[h1.1],h1.2⟩
  |halt e w'=>rw[hb]at h1;simp at h1
 case nilCheck x=>exact OP x rfl (hr x) _ rfl hq
 case binOp op t x y t'=>exact kW hq (Cp op t x y (hr x) (hr y))
 case unOp op t x=>exact kW hq (HX op (hr x))
 case load t a=>exact kW hq (IW t (hr a) hw)
 case fieldAddr t a f=>exact kW hq (Ow t f (hr a))
 case field t a f=>exact kW hq (IE t f (hr a))
 case indexAddr t a i=>exact kW hq (Ol t (hr a) (hr i))
 case index t a i=>exact kW hq (KI t (hr a) (hr i))
 case extract a i=>exact kW hq (LG (hr a) i)
 case slice t a lo hi mx=>exact kW hq (Iv t (hr a) (Ag hr lo) (by cases lo<;>rfl) (Ag hr hi) (by cases hi<;>rfl) (Ag hr mx) (by cases mx<;>rfl))
 case makeFunc fn first captured=>
  have:=I3 (P:=P) fn (tU hr first.toList) (tU hr captured.toList);have e1:(first.toList.map ρ).toArray=first.map ρ:=by rw[<-Array.toList_map,Array.toArray_toList]
  have e2:(captured.toList.map ρ).toArray=captured.map ρ:=by rw[<-Array.toList_map,Array.toArray_toList]
  rw[e1,e2]at this;exact kW hq this
 case makeInterface t x=>exact kW hq (Ja t (hr x))
 case convert s d x=>exact kW hq (L1 s d (hr x))
 case build t parts=> refine kW hq (KD t jE fun i a v ha hv=>?_);simp only[List.getElem?_map,Option.map_eq_some_iff,Array.toList_map,Array.getElem?_toList]at ha hv;obtain⟨x,hx,rfl⟩:=ha;obtain⟨y,hy,rfl⟩:=hv;rw[hx]at hy;cases hy;exact hr x.2
 case call c=>
  obtain⟨callee,args,argTypes⟩:=c;cases callee
  case builtin b=>
   simp only[vq]at hq ⊢;generalize WR:argTypes.toList=ts at*;obtain rfl:argTypes=ts.toArray:=by rw[<-WR]
   have Ui:=tU hr args.toList;have Q0:args.map ρ=(args.toList.map ρ).toArray:=by rw[<-Array.toList_map,Array.toArray_toList]
   have C':∀s:Sem Value,(∀cs,builtin b ts.toArray ty cs (args.toList.map ρ).toArray=(do pure (Next.value (<-s))))->(execOp ρ ⟨dst,.call ⟨.builtin b,args,ts.toArray⟩,ty,pos,after,guard⟩)=(do pure (Next.value (<-s))):=by intro s hs;simp only[execOp,resolve,pure_bind,invoke,Q0];exact hs _
   generalize hus:args.toList.map ρ=us at*;generalize hals:args.toList.map ev=als at*;unfold jU at*;split at hq<;>try exact hq.elim
   ·rename_i t ts x als;cases us with
    |nil=>have:=Ui.1;simp at this
    |cons u us=> rw[C' _ (fun _=>rfl)];exact kW hq (KB ty t ts us hw (Ui.2 0 _ _ rfl rfl))
   ·rename_i t ts x als;cases us with
    |nil=>have:=Ui.1;simp at this
    |cons u us=> rw[C' _ (fun _=>rfl)];exact kW hq (Ig ty t ts us (Ui.2 0 _ _ rfl rfl))
   ·rw[C' _ (fun _=>rfl)];have:=Cc (P:=P) true ts.toArray ty Ui;exact kW hq this
   ·rw[C' _ (fun _=>rfl)];have:=Cc (P:=P) false ts.toArray ty Ui;exact kW hq this
  all_goals exact hq.elim
 all_goals exact hq.elim
end
universe u
def aQ(P:Program)(f:FuncId):Bool:=match P.funcs[f]? with
 | some fn => fn.body.isSome && !(fn.name == "runtime.NumGoroutine")
 |none=>false
def aA(P:P6)(f:FuncId)(args:PW)(r:AV):Prop:=af P f args [] fun r' l'=>r'=r/\l'=[]
def cw(P:P6)(f:FuncId)(args:PW)(H:Hp)(K:PT):Prop:=
 ∀(w:NW) (vs:P3),aN w H->bU w args vs->Calls P f vs w.toWorld fun e W=>∃v r H' w',W=NW.toWorld w'/\e=.returned v/\K r H'/\aN w' H'/\az w' r v/\Ext w H w' H'
theorem cw.mono{P:P6}{f:FuncId}{args:PW}{H:Hp}{K K':PT}(h:cw P f args H K)(hk:∀r H,K r H->K' r H):cw P f args H K':=
 fun w vs h1 h2=>(h w vs h1 h2).mono fun _ _ ⟨v,r,H',w',e0,e,k,g⟩=>⟨v,r,H',w',e0,e,hk _ _ k,g⟩
def uD:AV->Option (FuncId×PW×PW)
 |.raw (.func (.func f) first captured)=>some (f,first.toList.map .raw,captured.toList.map .raw)
 |.dW f cs=>some (f,[],cs)
 |.bd f fs=>some (f,fs,[])
 |_=>none
-- what follows is hidden from simp: an argument that a later one's type hangs on is held fixed
inductive fz{α:Sort u}(a:α):Type
 |mk
def sM(H:Hp)(A:Nat->Prop)(_:fz A):Prop:=∃i,H.get i=none/\A i
def qa(P:P6)(H:Hp)(t:P1)(a x:AV)(K:PT):Prop:=match a,cW P t with
 |.pt i m k j,some n=>match H.get i with
  |some r=>(cM x.cells=true/\x.cells.length=n/\sf r m k j n)/\K .any (H.put i (uT r k j x.cells))
  |none=>False
 |_,_=>False
def ll(P:P6)(H:Hp)(t:P1)(K:PT):Prop:=match dU P t with
 |some zs=>sM H (fun i=>K (.pt i 0 0 0) (H.put i (.var t (zs.map .raw)))) .mk
 |none=>False
def pN(H:Hp)(t:P1)(x:AV)(K:PT):Prop:=cM x.cells=true/\sM H (fun i=>K (.pt i 0 0 0) (H.put i (.var t x.cells))) .mk
def p9(sz:Nat):Nat->List (Nat×AV)->Prop
 |_,[]=>True
 |k,(i,a)::rest=>(i=k/\cM a.cells=true/\a.cells.length=sz)/\p9 sz (k+1) rest
theorem Fv{sz:Nat}:∀{k:Nat} {l:List (Nat×AV)},p9 sz k l->l.map (·.1)=List.range' k l.length/\∀p∈l,cM p.2.cells=true/\p.2.cells.length=sz
 |_,[],_=>⟨rfl,fun p hp=>by simp at hp⟩
 |k,(i,a)::rest,h=>by
  obtain⟨⟨rfl,h1,h2⟩,h3⟩:=h;obtain⟨g1,g2⟩:=Fv h3;refine⟨by simp[g1,List.range'_succ],fun p hp=>?_⟩;rcases List.mem_cons.1 hp with rfl|hp
  ·exact⟨h1,h2⟩
  ·exact g2 p hp
def iD(parts:List (Nat×AV)):PU:=parts.map (·.2.cells)
def pX(e:P1)(sz:Nat)(css:PU)(H:Hp)(K:PT):Prop:=
 (aU cV css.flatten=true/\K (.sl true sz css []) H)\/(0<sz/\∃i,H.get i=none/\K (.rs i css.length sz css.length) (H.put i (.aG e sz css)))
def lu(P:P6)(H:Hp)(t:P1)(n:Nat)(parts:List (Nat×AV))(K:PT):Prop:=match gk P t with
 |some e=>match cW P e with
  |some sz=>(parts.length=n/\p9 sz 0 parts/\n*sz<=16777216/\(n*sz=0\/(dU P e).isSome=true))/\
   pX e sz (iD parts) H K
  |none=>False
 |none=>False
def ns(P:P6)(ne:Bool)(t:P1)(x y:AV)(H:Hp)(K:PT):Prop:=match x,y with
 |.sl _ _ css _,.raw (.slice none 0 0)=>ga P t=true/\∀b:Bool,(b=true->css=[])->K (.raw (.bool (ne ^^ b))) H
 |.rs _ _ _ n,.raw (.slice none 0 0)=>ga P t=true/\∀b:Bool,(b=true->n=0)->K (.raw (.bool (ne ^^ b))) H
 |x,y=>(dX P (if ne then .neq else .eql) t x y).1/\K (dX P (if ne then .neq else .eql) t x y).2 H
def o9(H:Hp):AV->Option (Prop×PU)
 |.sl _ _ css _=>some (True,css)
 |.rs i m sz n=>match H.get i with
  |some (.aG _ sz' css)=>some (sz'=sz/\m=css.length/\n<=m,css.take n)
  |_=>none
 |.rv i m sz o n=>match H.get i with
  |some (.aG _ sz' css)=>some (sz'=sz/\m=css.length/\o+n<=m,(css.drop o).take n)
  |_=>none
 |.raw (.slice none 0 0)=>some (True,[])
 |_=>none
def im(P:P6)(t:P1):Nat:=((P.info? t).map (·.bytes)).getD 0
def room(by_ n:Nat):Prop:=n*by_<=140737488355328/\n<=9223372036854775807
def fW(css:PU)(n:Nat)(ys:PU):PU:=css.take n++ys++css.drop (n+ys.length)
def qp(i:Nat)(e:P1)(m sz n:Nat)(css ys:PU)(H:Hp)(K:PT):Prop:=if n=m then K (.rs i (m+ys.length) sz (n+ys.length)) (H.put i (.aG e sz (css++ys)))else K (.rs i (max m (n+ys.length)) sz (n+ys.length)) (H.put i (.aG e sz (fW css n ys)))
def Px(css ys:PU):fW css css.length ys=css++ys:=by simp[fW]
variable{css:PU}{n:Nat}
def BH(ys:PU)(h:n<=css.length):(fW css n ys).length=max css.length (n+ys.length):=by simp[fW];omega
variable{sz:Nat}{H:Hp}{K:PT}
def O5{i:Nat}{e:P1}{ys:PU}(h:qp i e css.length sz n css ys H K):K (.rs i (max css.length (n+ys.length)) sz (n+ys.length)) (H.put i (.aG e sz (fW css n ys))):=by
 unfold qp at h;split at h
 ·rename_i e;subst e;rw[Px,Nat.max_eq_right jB];exact h
 ·exact h
def um(by_:Nat)(e:P1)(sz:Nat)(ys:PU)(a:AV)(H:Hp)(K:PT):Prop:=match a with
 |.rs i m sz' n=>match H.get i with
  |some (.aG e' sz'' css)=>(e'=e/\sz'=sz/\sz''=sz/\m=css.length/\n<=m/\room by_ (n+ys.length))/\qp i e m sz n css ys H K
  |_=>False
 |.raw (.slice none 0 0)=>room by_ ys.length/\sM H (fun i=>K (.rs i ys.length sz ys.length) (H.put i (.aG e sz ys))) .mk
 |.sl true sz' css _=>(sz'=sz/\room by_ (css.length+ys.length)/\(css.length=0\/0<ys.length))/\sM H (fun i=>K (.rs i (css.length+ys.length) sz (css.length+ys.length)) (H.put i (.aG e sz (css++ys)))) .mk
 |_=>False
def q0(P:P6)(t:P1)(a x:AV)(H:Hp)(K:PT):Prop:=match gk P t with
 |some e=>match cW P e,dU P e,o9 H x with
  |some sz,some zs,some (c,ys)=>(zs.length=sz/\0<sz/\c/\gh sz ys)/\um (im P e) e sz ys a H K
  |_,_,_=>False
 |none=>False
def pn(P:P6)(t t':P1)(a x:AV)(H:Hp)(K:PT):Prop:=
 ∀(w:NW) va vx ty,aN w H->az w a va->az w x vx->∃(w':NW) (H':Hp) (r:AV) (v:Value),(Builtin.append_ #[t,t'] ty #[va,vx]).run P w.toWorld=.ok v w'.toWorld/\K r H'/\aN w' H'/\az w' r v/\Ext w H w' H'
def pk(P:P6)(b:Builtin)(ts:List P1)(args:PW)(H:Hp)(K:PT):Prop:=
 ∀(w:NW) vs ty cs,aN w H->bT w args vs->∃(w':NW) (H':Hp) (r:AV) (v:Value),(builtin b ts.toArray ty cs vs.toArray).run P w.toWorld=.ok (.value v) w'.toWorld/\K r H'/\aN w' H'/\az w' r v/\Ext w H w' H'
def gp(P:P6)(o:Op)(ty:P1)(ev:P2)(H:Hp)(K:PT):Prop:=
 ∀(w:NW) ρ dst pos after guard,aN w H->(∀x∈o.operands.toList,az w (ev x) (ρ x))->∃(w':NW) (H':Hp) (r:AV),K r H'/\aN w' H'/\Ext w H w' H'/\
  ((∃v,(execOp ρ ⟨dst,o,ty,pos,after,guard⟩).run P w.toWorld=.ok (.value v) w'.toWorld/\az w' r v)\/((execOp ρ ⟨dst,o,ty,pos,after,guard⟩).run P w.toWorld=.ok .skip w'.toWorld/\r=.any))
def ub(P:P6)(f:FuncId)(args:PW)(H:Hp)(K:PT):Prop:=
 ∀(w:NW) vs,aN w H->bU w args vs->∃(v:Value) (w':NW) (r:AV) (H':Hp),(callFunc f vs).run P w.toWorld=.ok (.value v) w'.toWorld/\K r H'/\aN w' H'/\az w' r v/\Ext w H w' H'
def dp(P:P6)(f:AV)(args:PW)(H:Hp)(K:PT):Prop:=match uD f with
 |some (f,first,captured)=>(aQ P f=true/\cw P f (first++args++captured) H K)\/ub P f (first++args++captured) H K
 |none=>False
def nk(P:P6)(a:AV)(m:String)(args:PW)(H:Hp)(K:PT):Prop:=match a with
 |.iz t v=>match mf P t m with
  |some f=>dp P (.raw (.func (.func f) #[] #[])) (v::args) H K
  |none=>False
 |_=>False
def cP:Op->Bool
 |.box .. |.alloc _|.store .. |.buildSlice .. |.makeMap .. |.makeSlice .. |.mapUpdate .. |.insert .. |.lookup .. |.range .. |.next .. |.entry .. |.typeAssert ..=>false
 |.binOp .eql .. |.binOp .neq ..=>false
 |.call { callee:=.builtin b,.. }=>match b with
  |.len|.cap|.max|.min=>true
  |_=>false
 |.call _=>false
 |_=>true
def vc(P:P6)(ev:P2)(H:Hp)(ty:P1)(K:PT):Op->Prop
 |.box t x=>pN H t (ev x) K
 |.alloc t=>ll P H t K
 |.store t a x=>qa P H t (ev a) (ev x) K
 |.buildSlice t n parts=>lu P H t n (parts.toList.map fun p=>(p.1,ev p.2)) K
 |.binOp .eql t x y _=>ns P false t (ev x) (ev y) H K
 |.binOp .neq t x y _=>ns P true t (ev x) (ev y) H K
 |.call { callee:=.value f,args,.. }=>dp P (ev f) (args.toList.map ev) H K
 |.call { callee:=.invoke r m,args,.. }=>nk P (ev r) m (args.toList.map ev) H K
 |.call { callee:=.builtin .append,args,argTypes }=>match argTypes.toList,args.toList with
  |[t,t'],[a,x]=>pn P t t' (ev a) (ev x) H K
  |_,_=>False
 |.call { callee:=.builtin b,args,argTypes }=>if cP (.call ⟨.builtin b,args,argTypes⟩)then(vq P ev H (.call ⟨.builtin b,args,argTypes⟩)).1/\K (vq P ev H (.call ⟨.builtin b,args,argTypes⟩)).2 H else pk P b argTypes.toList (args.toList.map ev) H K
 |o=>if cP o then(vq P ev H o).1/\K (vq P ev H o).2 H else gp P o ty ev H K
section
variable {P:P6}{ops:Array Oper}{F:PW}{H:Hp}
variable{K:PT}
def HM{o:Oper}(hq:(vq P (bw F) H o.op).1)(hk:K (vq P (bw F) H o.op).2 H):Bu P o F H K:=fun w tm h1 h2=>by obtain⟨v,hr,hv⟩:=xz o h1 (fun x=>h2.eval [] x) hq;exact⟨w,H,_,hk,h1,Ext.refl w H,.inl ⟨v,hr,hv⟩⟩
theorem Dm{sz:Nat}:∀(parts:List (Nat×AV)) (k:Nat) (pre zs:PW),parts.map (·.1)=List.range' k parts.length->(∀p∈parts,p.2.cells.length=sz)->pre.length=k*sz->zs.length=parts.length*sz->
  pY (fun i=>some (i*sz,sz)) (pre++zs) parts=some (pre++(parts.map (·.2.cells)).flatten)
 |[],k,pre,zs,_,_,_,hz=>by
  have:zs=[]:=by simpa using hz
  simp[pY,this]
 |(i,a)::parts,k,pre,zs,hp,hs,hk,hz=>by
  simp only[List.map_cons,List.length_cons,List.range'_succ,List.cons.injEq]at hp;obtain⟨rfl,hp⟩:=hp;have ha:a.cells.length=sz:=hs (i,a) jE;have Rq:zs.length=parts.length*sz+sz:=by rw[hz,List.length_cons,Nat.add_mul,Nat.one_mul]
  simp only[pY];rw[if_pos ⟨ha,by simp;omega⟩];have e:iO (pre++zs) (i*sz) a.cells=(pre++a.cells)++zs.drop sz:=by
   unfold iO;rw[<-hk,List.take_left',List.drop_append,ha]
   ·simp
   ·rfl
  rw[e,Dm parts (i+1) (pre++a.cells) (zs.drop sz) hp (fun p hp=>hs p (by simp[hp])) (by simp[hk,ha,Nat.add_mul]) jF];simp[List.append_assoc]
variable{w:NW}
def Jn{l:PW}{vs:P4}(h:bT w l vs){k:Nat}{u:AV}(hu:l[k]?=some u):az w u (vs.toArray.getD k undef):=by
 have hk:k<vs.length:=by rw[<-h.1];exact(List.getElem?_eq_some_iff.1 hu).1
 refine h.2 k u _ hu ?_;simp[hk]
variable{t:P1}
def IQ{n:Nat}{parts:List (Nat×AV)}{vparts:Array (Nat×Value)}(hw:aN w H)(h1:parts.map (·.1)=vparts.toList.map (·.1))(h2:∀(i:Nat) a v,parts[i]?=some a->vparts.toList[i]?=some v->az w a.2 v.2)
  (hv:lu P H t n parts K):∃(w':NW) (H':Hp) (r:AV) (v:Value),(Instr.buildSlice t n vparts).run P w.toWorld=.ok v w'.toWorld/\K r H'/\aN w' H'/\az w' r v/\Ext w H w' H':=by
 unfold lu at hv;split at hv;rotate_left
 ·exact hv.elim
 rename_i e he;split at hv;rotate_left
 ·exact hv.elim
 rename_i sz VE;obtain⟨⟨g',hok,hn,hz⟩,hk⟩:=hv;have hu:P.underlying t=some (.slice e):=by unfold gk at he;split at he<;>simp_all
 obtain⟨hp,hs⟩:=Fv hok;rw[g',<-List.range_eq_range']at hp;have Xf:∃z:P3,(n*sz=0/\z=#[])\/(n*sz≠0/\∃v,(zeroValue e).run P w.toWorld=.ok v w.toWorld/\v.cells=z):=by
  by_cases h0:n*sz=0
  ·exact⟨#[],.inl ⟨h0,rfl⟩⟩
  ·have Rq:=hz.resolve_left h0;obtain⟨zs,VF⟩:=Option.isSome_iff_exists.1 Rq;obtain⟨z,Tc,_⟩:=wJ (w:=w.toWorld) VF;exact⟨z.cells,.inr ⟨h0,z,Tc,rfl⟩⟩
 obtain⟨z,hz⟩:=Xf;generalize SW:(Array.range (n*sz)).map (z[· % z.size]!)=cur;have Ru:cur.size=n*sz:=by subst SW;simp
 have hf:=Dm (sz:=sz) parts 0 [] (cur.toList.map .raw) (by rw[hp,g',List.range_eq_range']) (fun p hp=>(hs p hp).2) jE (by simp[Ru,g']);simp only[List.nil_append]at hf;obtain⟨vs,g1,g2⟩:=yq (w:=w) (cur:=cur) hf h1 (fun i a v ha hv=>(h2 i a v ha hv).fD (hs _ (List.mem_of_getElem? ha)).1)
  ⟨jE,fun i a v ha hv=>by simp only[List.getElem?_map,Option.map_eq_some_iff]at ha;obtain⟨x,hx,rfl⟩:=ha;rw[hx]at hv;cases hv;exact .raw _⟩
 have C':(Instr.buildSlice t n vparts).run P w.toWorld=.ok (.slice (some ⟨w.heap.size,0,none⟩) n n) (w.alloc (.cells vs e)):=by
  have Sp:¬(n*sz>2 ^ 24):=jB;rcases hz with⟨h0,rfl⟩|⟨h0,v,hv,rfl⟩
  ·simp only[Instr.buildSlice,Sem.run_bind,run_underlying hu,Result.andThen_ok,kX VE,if_neg Sp,if_pos h0,Sem.run_pure,SW,g1,newRow,run_newObj];rfl
  ·simp only[Instr.buildSlice,Sem.run_bind,run_underlying hu,Result.andThen_ok,kX VE,if_neg Sp,if_neg h0,hv,Sem.run_pure,SW,g1,newRow,run_newObj];rfl
 have SB:(iD parts).length=n:=by simp[iD,g']
 have Qr:∀cs∈iD parts,cs.length=sz:=fun cs Ru=>by obtain⟨p,hp,rfl⟩:=List.mem_map.1 Ru;exact(hs p hp).2
 have RN:(iD parts).flatten.length=n*sz:=by rw[j6 Qr,SB]
 have TD:vs.size=n*sz:=by have:=g2.1;simp only[Array.length_toList]at this;rw[<-this];exact RN
 rcases hk with⟨Qe,hk⟩|⟨h0,i,hi,hk⟩
 ·have ex:=Ext.eu hw (.cells vs e);refine⟨_,H,_,_,C',hk,hw.eu _,?_,ex⟩;by_cases h0:n=0
  ·have:iD parts=[]:=List.length_eq_zero_iff.1 jB;rw[this,h0];exact .gF true sz _ 0 (fun _=>rfl)
  ·have:=az.sl (w:=w.to (w.alloc (.cells vs e))) (d:=[]) true sz (iD parts) ⟨w.heap.size,0,none⟩ n (fun j=>vs.getD j undef) jB jB (fun _=>⟨SB.symm,vs,e,heap_alloc_new w.toWorld _⟩) Qr jE (fun h=>by have:=hw.fin _ h;simp at this) (fun i j hi hj=>by
    rw[lg,sd w.heap.size _ vs e (0,0) (heap_alloc_new w.toWorld _)];have:=xF hi hj;rw[SB]at this;simp[show i*sz+j<vs.size from jB]) (fun i j u hi hu=>by
    have hj:j<sz:=by have:=(List.getElem?_eq_some_iff.1 hu).1;rwa [tx Qr hi]at this
    have hx:=Jn g2 (k:=i*sz+j) (u:=u) (by rw[<-hu];exact ow Qr hi hj);rw[Array.toArray_toList]at hx;refine(hx.kV (lA Qe (i:=i*sz+j) (by rw[<-hu];exact ow Qr hi hj))).bS ex.toKeep.bare (lW u))
   rw[SB]at this;exact this
 ·obtain⟨q1,q2⟩:=sW (row:=.aG e sz (iD parts)) hw (hw.none hi _) (fun r' hr=>by rw[hi]at hr;cases hr) ⟨h0,Qr⟩ vs ⟨rfl,by show(iD parts).flatten.length<=_;omega⟩ (fun k a v ha hv=>g2.2 k a v ha (by simpa using hv));refine⟨_,_,_,_,C',hk,q1,?_,q2⟩;have:=az.rs (w:=((w.to (w.alloc ((Row.aG e sz (iD parts)).obj vs))).fg w.heap.size).name i (Row.aG e sz (iD parts)).fv (.at w.heap.size vs.size (Row.aG e sz (iD parts)).bB)) i (iD parts).length sz (iD parts).length w.heap.size vs.size n (NW.cd _ _ _ _) TD.symm jB h0;rw[SB]at this ⊢;exact this
def CL(ne:Bool)(t:P1){a b:AV}{va vb:Value}(x y:Operand)(ha:az w a va)(hb:az w b vb)(hv:ns P ne t a b H K) :
  ∃r v,(do eqGuard (if ne then .neq else .eql) t x y va vb;binOp (if ne then .neq else .eql) t va vb:Sem Value).run P w.toWorld=.ok v w.toWorld/\K r H/\az w r v:=by
 have key:∀{n:Nat},ga P t=true->(∀b:Bool,(b=true->n=0)->K (.raw (.bool (ne ^^ b))) H)->(∃A c,va=.slice A n c/\(A=none->n=0))->vb=.slice none 0 0->
   ∃r v,(do eqGuard (if ne then .neq else .eql) t x y va vb;binOp (if ne then .neq else .eql) t va vb:Sem Value).run P w.toWorld=.ok v w.toWorld/\K r H/\az w r v:=fun{n} h1 h2 h3 h4=>by
  obtain⟨e,hu⟩:=oj h1;obtain⟨A,c,rfl,hA⟩:=h3;subst h4;have he:(Op.equal t (.slice A n c) (.slice none 0 0)).run P w.toWorld=.ok A.isNone w.toWorld:=by refine pW (fun d=>?_);cases A<;>simp[Op.equalIn,run_underlying hu]
  obtain⟨v,h1,h3⟩:=p4 (P:=P) (w:=w) (ne:=ne) (t:=t) (x:=x) (y:=y) (fun op=>eqGuard_at_slice _ _ _ _ _ _ _ _) rfl rfl he;exact⟨_,v,h1,h2 A.isNone (fun h=>hA (by simpa using h)),h3⟩
 unfold ns at hv;split at hv
 ·rename_i z sz css _;refine key (n:=css.length) hv.1 (fun b hb=>hv.2 b fun h=>List.length_eq_zero_iff.1 (hb h)) ?_ (di hb);cases ha with
  |gF _ _ A c _=>exact⟨A,c,rfl,fun _=>rfl⟩
  |sl _ _ _ ad c _ _ _ _ _ _ _ _ _=>exact⟨some ad,c,rfl,fun h=>by cases h⟩
 ·rename_i i m sz n;refine key (n:=n) hv.1 hv.2 ?_ (di hb);cases ha with
  |kH _ _ _ A _=>exact⟨A,0,rfl,fun _=>rfl⟩
  |rs _ _ _ _ b t c _ _ _ _=>exact⟨some ⟨b,0,none⟩,c,rfl,fun h=>by cases h⟩
 ·obtain⟨v,h1,h2⟩:=Cp (P:=P) (if ne then .neq else .eql) t x y ha hb hv.1;exact⟨_,v,h1,hv.2,h2⟩
-- appends
def bT.append{a b:PW}{x y:P4}(h:bT w a x)(k:bT w b y):bT w (a++b) (x++y):=by
 refine⟨by simp[h.1,k.1],fun i u v hu hv=>?_⟩;rcases Nat.lt_or_ge i a.length with h1|h1
 ·rw[List.getElem?_append_left h1]at hu;rw[List.getElem?_append_left (by rw[<-h.1];exact h1)]at hv;exact h.2 i u v hu hv
 ·rw[List.getElem?_append_right h1]at hu;rw[List.getElem?_append_right (by rw[<-h.1];exact h1),<-h.1]at hv;exact k.2 _ u v hu hv
def yX(w:NW)(sz:Nat)(v:Value)(ys:PU):Prop:=∃A c news,v=.slice A ys.length c/\bT w ys.flatten news/\(0<ys.length->∃ad,A=some ad/\∀(j:Nat) v,news[j]?=some v->w.cell? (ad.add j)=some v)
variable{sz:Nat}
def tg(A:Option Addr)(c:Nat):yX w sz (.slice A 0 c) []:=⟨A,c,[],rfl,⟨rfl,fun i a v h=>by simp at h⟩,fun h=>by simp at h⟩
variable{ys:PU}
def Bx{c:Nat}{ad:Addr}(hl:∀y∈ys,y.length=sz)(h:∀i j,i<ys.length->j<sz->∃v,w.cell? (ad.add (i*sz+j))=some v/\∀u,(ys.getD i [])[j]?=some u->az w u v):yX w sz (.slice (some ad) ys.length c) ys:=by
 have RN:=j6 hl;refine⟨some ad,c,(List.range (ys.length*sz)).map fun k=>(w.cell? (ad.add k)).getD undef,rfl,⟨by simp[RN],fun k a v ha hv=>?_⟩,fun _=>⟨ad,rfl,fun k v hv=>?_⟩⟩
 ·have hk:k<ys.length*sz:=by have:=(List.getElem?_eq_some_iff.1 ha).1;omega
  obtain⟨i,j,hi,hj,rfl⟩:=sK hk;rw[ow hl hi hj]at ha;obtain⟨v',h1,h2⟩:=h i j hi hj;simp only[List.getElem?_map,List.getElem?_range hk,Option.map_some,Option.some.injEq,h1,Option.getD_some]at hv;subst hv;exact h2 a ha
 ·have hk:k<ys.length*sz:=by have:=(List.getElem?_eq_some_iff.1 hv).1;simpa using this
  obtain⟨i,j,hi,hj,rfl⟩:=sK hk;obtain⟨v',h1,h2⟩:=h i j hi hj;simp only[List.getElem?_map,List.getElem?_range hk,Option.map_some,Option.some.injEq,h1,Option.getD_some]at hv;subst hv;exact h1
variable{css:PU}
def vv(hw:aN w H){i:Nat}{e:P1}{b t s:Nat}(hi:H.get i=some (.aG e sz css))(hn:w.nm i css.length=some (.at b t s)){k j:Nat}(hk:k<css.length)(hj:j<sz) :
  s=sz/\(∀cs∈css,cs.length=sz)/\css.length*sz<=t/\∃v,w.cell? ⟨b,k*sz+j,none⟩=some v/\∀u,(css.getD k [])[j]?=some u->az w u v:=by
 obtain⟨hok,z,hz,Qw⟩:=hw.rows i _ hi;have:z=.at b t s:=by have hz:w.nm i css.length=some z:=hz;rw[hn]at hz;cases hz;rfl
 subst this;obtain⟨hs_,cur,hh,⟨hs,hl⟩,hr⟩:=Qw;have hs_:sz=s:=hs_.symm;subst hs_;have RN:(Row.aG e sz css).cells.length=css.length*sz:=j6 hok.2;have h3:=xF hk hj;have h4:k*sz+j<cur.size:=jB;refine⟨rfl,hok.2,jB,cur[k*sz+j],?_,fun u hu=>?_⟩
 ·rw[sd b _ cur _ (0,0) hh];simp[h4]
 ·refine hr (k*sz+j) u _ ?_ (by simp[h4]);show css.flatten[k*sz+j]?=some u;rw[ow hok.2 hk hj];exact hu
def C8(hw:aN w H){x:AV}{vx:Value}(hx:az w x vx){c:Prop}(h:o9 H x=some (c,ys))(hc:c)(hg:gh sz ys):yX w sz vx ys:=by
 unfold o9 at h;split at h
 ·rename_i xx sz' css _;cases h;cases hx with
  |gF=>exact tg _ _
  |sl _ _ _ ad c vs hn Rj hx Qh hb hH I' hr=>
   have hz:sz'=sz:=by rw[<-Qh (ys[0]) (List.getElem_mem hn),(hg _ (List.getElem_mem hn)).1]
   subst hz;exact Bx Qh fun i j hi hj=>⟨_,I' i j hi hj,fun u hu=>(hr i j u hi hu).kK⟩
 ·rename_i i m sz' n;split at h
  ·rename_i e sz2 css hi;cases h;obtain⟨rfl,rfl,hn⟩:=hc;cases hx with
   |kH _ _ _ A Qx=>rw[List.take_zero];exact tg _ _
   |rs _ _ _ _ b t c Qx Rj P' RH=>
    have g':(css.take n).length=n:=by simp;omega
    by_cases h0:n=0
    ·subst h0;rw[List.take_zero];exact tg _ _
    have hz:sz2=sz:=by obtain⟨_,Qp,_⟩:=vv hw hi Qx (k:=0) (j:=0) jB RH;have h1:(css.take n)[0]' jB∈css.take n:=List.getElem_mem _;rw[<-Qp _ (List.mem_of_mem_take h1),(hg _ h1).1]
    subst hz;have:=Bx (w:=w) (sz:=sz2) (c:=c) (ys:=css.take n) (ad:=⟨b,0,none⟩) (fun y hy=>(hg y hy).1) fun i' j R8 hj=>by obtain⟨_,_,_,v,h1,h2⟩:=vv hw hi Qx (k:=i') (j:=j) jB hj;refine⟨v,by rw[lg,Nat.zero_add];exact h1,fun u hu=>h2 u ?_⟩;rw[<-hu];simp[List.getElem?_take,show i'<n from jB]
    rw[g']at this;exact this
  ·cases h
 ·rename_i i m sz' o n;split at h
  ·rename_i e sz2 css hi;cases h;obtain⟨rfl,rfl,hn⟩:=hc;have g':((css.drop o).take n).length=n:=by simp;omega
   cases hx with
   |ny _ _ _ _ A=>rw[List.take_zero];exact tg _ _
   |rv _ _ _ _ _ b t c Qx P'=>
    by_cases h0:n=0
    ·subst h0;rw[List.take_zero];exact tg _ _
    have h1:((css.drop o).take n)[0]' jB∈(css.drop o).take n:=List.getElem_mem _;obtain⟨hok,_⟩:=hw.rows i _ hi;have hz:sz2=sz:=by rw[<-hok.2 _ (List.mem_of_mem_drop (List.mem_of_mem_take h1)),(hg _ h1).1]
    subst hz;have:=Bx (w:=w) (sz:=sz2) (c:=c) (ys:=(css.drop o).take n) (ad:=⟨b,o*sz2,none⟩) (fun y hy=>(hg y hy).1) fun i' j R8 hj=>by obtain⟨_,_,_,v,h1,h2⟩:=vv hw hi Qx (k:=o+i') (j:=j) jB hj;refine⟨v,by rw[lg,<-Nat.add_assoc,<-Nat.add_mul];exact h1,fun u hu=>h2 u ?_⟩;rw[<-hu];simp[List.getElem?_take,show i'<n from jB]
    rw[g']at this;exact this
  ·cases h
 ·cases h;have:=di hx;subst this;exact tg _ _
 ·cases h
def zt{e:P1}(he:gk P t=some e):P.underlying t=some (.slice e):=by unfold gk at he;split at he<;>simp_all
def GF{e:P1}{zs:P4}(Qh:cW P e=some sz)(hz:dU P e=some zs)(hl:zs.length=sz):∃i z,P.info? e=some i/\i.size=sz/\i.zero=some z/\z.cells.size=sz/\im P e=i.bytes:=by
 unfold cW at Qh;cases hi:P.info? e with
 |none=>rw[hi]at Qh;cases Qh
 |some i=> rw[hi]at Qh;unfold dU at hz;rw[hi]at hz;simp only[Option.bind_some,Option.map_eq_some_iff]at hz;obtain⟨z,Tc,SG⟩:=hz;refine⟨i,z,rfl,by simpa using Qh,Tc,?_,by simp[im,hi]⟩;rw[<-hl,<-SG];simp
def vg(hw:aN w H){i:Nat}{e:P1}{cap:Nat}{vals:P4}{rest:P3}(h0:0<sz)(g':∀cs∈css,cs.length=sz)(Qk:bT w css.flatten vals)(SY:css.length<=cap)(RO:rest.size=(cap-css.length)*sz)
  (TN:w.nm i css.length=none) (SV:∀r,H.get i=some r->r.fv<=css.length) :
  ∃w':NW,w'.toWorld=w.drew.alloc (.cells (vals.toArray++rest) e)/\aN w' (H.put i (.aG e sz css))/\Ext w H w' (H.put i (.aG e sz css))/\az w' (.rs i css.length sz css.length) (.slice (some ⟨w.heap.size,0,none⟩) css.length cap):=by
 have RN:=j6 g';have Us:vals.length=css.length*sz:=by rw[<-Qk.1,RN]
 have Qh:(vals.toArray++rest).size=cap*sz:=by simp only[Array.size_append,List.size_toArray,Us,RO];rw[<-Nat.add_mul];congr 1;omega
 have P':=Nat.mul_le_mul_right sz SY;obtain⟨g1,g2⟩:=sW (row:=.aG e sz css) hw.drew TN SV ⟨h0,g'⟩ (vals.toArray++rest) ⟨rfl,by show css.flatten.length<=_;omega⟩ (fun k a v ha hv=>by
  have hi:k<vals.length:=by rw[<-Qk.1];exact(List.getElem?_eq_some_iff.1 ha).1
  rw[Array.getElem?_append_left (by simpa using hi)]at hv;exact(Qk.2 k a v ha (by simpa using hv)).ext (Ext.drew w H))
 refine⟨_,rfl,g1,(Ext.drew w H).trans g2,?_⟩;exact az.rs i css.length sz css.length w.heap.size (vals.toArray++rest).size cap (NW.cd _ _ _ _) Qh.symm SY h0
def Bd{a x:AV}(h:q0 P t a x H K):pn P t t a x H K:=by
 intro w va vx ty hw UL V2;unfold q0 at h;split at h;rotate_left
 ·exact h.elim
 rename_i e he;split at h;rotate_left
 ·exact h.elim
 rename_i sz zs c ys VE Xg U9;obtain⟨⟨SR,h0,hc,hg⟩,h⟩:=h;have hu:=zt he;obtain⟨i,z,hi,Re,UM,VF,WS⟩:=GF VE Xg SR;obtain⟨A,cx,news,rfl,Rr,RQ⟩:=C8 hw V2 U9 hc hg;have RN:ys.flatten.length=ys.length*sz:=j6 fun y hy=>(hg y hy).1
 have Tp:news.length=ys.length*sz:=by rw[<-Rr.1,RN]
 have V3:∀m,(Builtin.zeroCells z.cells m).size=m*sz:=fun m=>by simp[Builtin.zeroCells,VF]
 have Tq:∀need old,need<=grownCap w.toWorld need old e:=fun need old=>by unfold grownCap Question.cut;simp
 have TS:cM ys.flatten=true:=by simp only[cM,List.all_eq_true];intro u Xh;obtain⟨y,hy,Xi⟩:=List.mem_flatten.1 Xh;have:=(hg y hy).2;simp only[cM,List.all_eq_true]at this;exact this u Xi
 have U':∀A:Option Addr,ys.length=0->(Builtin.firstCells i.size 0 (.slice A 0 cx)).run P w.toWorld=.ok #[] w.toWorld:=fun A _=>by cases A<;>simp[Builtin.firstCells,loadCells,loadCellsFrom]
 rw[WS]at h;unfold um at h;split at h
 ·-- a row of one's own
  rename_i d m sz' n;split at h;rotate_left
  ·exact h.elim
  rename_i e' sz2 css hd;obtain⟨⟨rfl,rfl,rfl,rfl,V4,RR,VG⟩,hk⟩:=h;have hk:=O5 hk;have hok:=(hw.rows d _ hd).1;have RA:∀cs∈fW css n ys,cs.length=sz2:=fun cs h=>by
   unfold fW at h;rcases List.mem_append.1 h with h|h
   ·rcases List.mem_append.1 h with h|h
    ·exact hok.2 _ (List.mem_of_mem_take h)
    ·exact(hg cs h).1
   ·exact hok.2 _ (List.mem_of_mem_drop h)
  have Tr:=j6 hok.2;have Q4:=BH ys V4;cases UL with
  |kH _ _ _ A Qx=>
   -- nowhere yet
   obtain⟨_,z',Rq,Qw⟩:=hw.rows d _ hd;have:z'=.nil:=by have Rq:w.nm d css.length=some z':=Rq;rw[Qx]at Rq;cases Rq;rfl
   subst this;obtain⟨e2,sz3,Qw⟩:=Qw;cases Qw;simp only[fW,List.take_nil,List.drop_nil,List.append_nil,List.nil_append,List.length_nil,Nat.zero_add,Nat.zero_max]at hk Q4;by_cases hy:ys.length=0
   ·have:ys=[]:=List.length_eq_zero_iff.1 hy;subst this;refine⟨w,_,_,.slice A 0 0,?_,hk,?_,.kH _ _ _ _ Qx,?_⟩
    ·cases A<;>simp[Builtin.append_,run_underlying hu,sizeOf,typeInfo,hi,Builtin.lenOf,U',storeCells]
    ·refine{ hw with rows:=fun j r hj=>?_,dS:=fun j q z hz=>?_ }
     ·rw[Hp.cf]at hj;split at hj
      ·rename_i e;subst e;exact hw.rows j r (by rw[hd];exact hj)
      ·exact hw.rows j r hj
     ·rw[Hp.cf];split
      ·rename_i e;subst e;obtain⟨r,g1,g2⟩:=hw.dS j q z hz;rw[hd]at g1;cases g1;exact⟨_,rfl,g2⟩
      ·exact hw.dS j q z hz
    ·exact{ Ext.refl w H with base:=rfl }
   ·obtain⟨ad,rfl,I'⟩:=RQ jB;obtain⟨w',e1,g1,g2,g3⟩:=vg (i:=d) (e:=e') (cap:=grownCap w.toWorld ys.length 0 e') (css:=ys) (rest:=Builtin.zeroCells z.cells (grownCap w.toWorld ys.length 0 e'-ys.length)) hw h0 (fun y hy=>(hg y hy).1) Rr (Tq _ _) (V3 _) (hw.later hd (by show([]:PU).length<_;simp;omega)) (fun r hr=>by rw[hd]at hr;cases hr;exact Nat.zero_le _);refine⟨w',_,_,_,?_,hk,by simpa using g1,by simpa using g3,by simpa using g2⟩;rw[e1];cases A with
    |none=> have:=run_append_nil w.toWorld t ty e' i z hu hi UM ad ys.length cx news (by rw[Re];exact Tp) I' jB (by simp at VG;omega) (by simp at RR;omega);exact this
    |some b=>
     have:=run_append_grow (P:=P) w.toWorld t ty e' i z hu hi UM b 0 0 [] jE (fun j v h=>by simp at h) ad ys.length cx news (by rw[Re];exact Tp) I' jB (by simp at VG;simp;omega) (by rw[Nat.zero_add,nextslicecap_zero jB];simp at RR;omega)
     simpa using this
  |rs _ _ _ _ b t' cap Qx R7 P' RH=>
   obtain⟨_,z',Rq,Qw⟩:=hw.rows d _ hd;have:z'=.at b t' sz2:=by have Rq:w.nm d css.length=some z':=Rq;rw[Qx]at Rq;cases Rq;rfl
   subst this;obtain⟨_,cur,hh,⟨Ru,Qi⟩,TE⟩:=Qw;have hh:w.heap[b]?=some (.cells cur e' (0,0)):=hh;have Qi:css.flatten.length<=t':=Qi;have SY:css.length<=cap:=by rw[Tr,<-R7]at Qi;exact Nat.le_of_mul_le_mul_right Qi h0
   have SS:(css.take n).flatten.length=n*sz2:=by rw[j6 fun c hc=>hok.2 c (List.mem_of_mem_take hc),List.length_take,Nat.min_eq_left V4]
   have V5:(css.take n).flatten=css.flatten.take (n*sz2):=by
    have:css.flatten=(css.take n).flatten++(css.drop n).flatten:=by rw[<-List.flatten_append,List.take_append_drop]
    rw[this,<-SS,List.take_left'];rfl
   by_cases Qn:n+ys.length<=cap
   ·-- in place
    have Sj:n*sz2+ys.flatten.length<=t':=by rw[RN,<-Nat.add_mul,<-R7];exact Nat.mul_le_mul_right _ Qn
    obtain⟨w',C',g1,g2,g3⟩:=xr (P:=P) (off:=n*sz2) (r':=.aG e' sz2 (fW css n ys)) hw hd Qx Rr TS Sj rfl rfl rfl rfl (by show css.length<=(fW css n ys).length;rw[Q4];omega) ⟨h0,RA⟩ (by show(fW css n ys).flatten.length<=t';rw[j6 RA,Q4,<-R7];exact Nat.mul_le_mul_right _ (Nat.max_le.2 ⟨SY,Qn⟩)) (fun p u hp=>by
     have hp:(fW css n ys).flatten[p]?=some u:=hp;unfold fW at hp;rw[List.flatten_append,List.flatten_append]at hp;show if _ then _ else css.flatten[p]?=some u
     rcases Nat.lt_or_ge p (n*sz2)with h|h
     ·rw[jN];rw[List.getElem?_append_left (by simp only[List.length_append];omega),List.getElem?_append_left jB,V5,List.getElem?_take,if_pos h]at hp;exact hp
     ·rcases Nat.lt_or_ge p (n*sz2+ys.flatten.length)with h'|h'
      ·rw[if_pos ⟨h,h'⟩];rw[List.getElem?_append_left (by simp only[List.length_append];omega),List.getElem?_append_right jB,SS]at hp;exact hp
      ·rw[jN];rw[List.getElem?_append_right (by simp only[List.length_append];omega)]at hp;have e2:css.flatten=(css.take (n+ys.length)).flatten++(css.drop (n+ys.length)).flatten:=by rw[<-List.flatten_append,List.take_append_drop]
       have Qd:=(List.getElem?_eq_some_iff.1 hp).1;have YT:n+ys.length<=css.length:=by
        rcases Nat.lt_or_ge css.length (n+ys.length)with h6|h6
        ·rw[List.drop_eq_nil_of_le jB]at Qd;simp at Qd
        ·exact h6
       have e3:(css.take (n+ys.length)).flatten.length=n*sz2+ys.flatten.length:=by rw[j6 fun c hc=>hok.2 c (List.mem_of_mem_take hc),List.length_take,Nat.min_eq_left YT,RN,Nat.add_mul]
       rw[e2,List.getElem?_append_right jB,e3];simp only[List.length_append,SS]at hp;exact hp)
    refine⟨w',_,_,.slice (some ⟨b,0,none⟩) (n+ys.length) cap,?_,hk,g1,?_,g2⟩
    ·have hf:(Builtin.firstCells i.size ys.length (.slice A ys.length cx)).run P w.toWorld=.ok news.toArray w.toWorld:=by
      by_cases h0:ys.length=0
      ·have:news=[]:=by have:=Tp;rw[h0,Nat.zero_mul]at this;simpa using this
       subst this;rw[h0];cases A<;>simp[Builtin.firstCells,loadCells,loadCellsFrom]
      ·obtain⟨ad,rfl,I'⟩:=RQ jB;exact run_firstCells_some (P:=P) w.toWorld i.size ys.length ad ys.length cx news (by rw[Re];exact Tp) I'
     have Xj:(⟨b,0,none⟩:Addr).add (n*sz2)=⟨b,n*sz2,none⟩:=by rw[lg];simp
     rw[Re]at hf;simp[Builtin.append_,run_underlying hu,sizeOf,typeInfo,hi,Builtin.lenOf,Qn,hf,Re,Xj,C']
    ·have g3:w'.nm d (max css.length (n+ys.length))=some (.at b t' sz2):=by rw[<-Q4];exact g3
     exact .rs d _ sz2 _ b t' cap g3 R7 Qn RH
   ·-- a new row
    have Rl:0<ys.length:=jB;obtain⟨ad,rfl,I'⟩:=RQ Rl;have YU:fW css n ys=css.take n++ys:=by unfold fW;rw[List.drop_eq_nil_of_le jB,List.append_nil]
    have TQ:max css.length (n+ys.length)=n+ys.length:=Nat.max_eq_right jB;rw[YU]at hk RA Q4;rw[TQ]at hk Q4;have hold:bT w (css.take n).flatten (cur.toList.take (n*sz2)):=by
     refine⟨by simp only[List.length_take,Array.length_toList];have:=Nat.mul_le_mul_right sz2 P';omega,fun k a v VH hv=>?_⟩;rw[List.getElem?_take]at hv;split at hv
     ·rename_i Xk;rw[V5,List.getElem?_take,if_pos Xk]at VH;exact TE k a v VH (by simpa using hv)
     ·cases hv
    have Qp:=hold.append Rr;rw[<-List.flatten_append]at Qp;obtain⟨w',e1,g1,g2,g3⟩:=vg (i:=d) (e:=e') (cap:=grownCap w.toWorld (n+ys.length) cap e') (css:=css.take n++ys) (rest:=Builtin.zeroCells z.cells (grownCap w.toWorld (n+ys.length) cap e'-(n+ys.length))) hw h0 RA Qp (by rw[Q4];exact Tq _ _) (by rw[Q4];exact V3 _) (hw.later hd (by show css.length<_;rw[Q4];omega)) (fun r hr=>by rw[hd]at hr;cases hr;show css.length<=_;rw[Q4];omega);rw[Q4]at g3;refine⟨w',_,_,_,?_,hk,g1,g3,g2⟩;rw[e1];have:=run_append_grow (P:=P) w.toWorld t ty e' i z hu hi UM ⟨b,0,none⟩ n cap (cur.toList.take (n*sz2)) (by rw[<-hold.1,SS,Re]) (fun k v hv=>by
     rw[List.getElem?_take]at hv;split at hv
     ·rw[lg,sd b _ cur e' (0,0) hh,Nat.zero_add];simpa using hv
     ·cases hv) ad ys.length cx news (by rw[Re];exact Tp) I' jB jB (growslice_fits jB jB)
    rw[this];congr 3
    apply Array.ext';simp
 ·-- nothing
  obtain⟨⟨RR,VG⟩,d,hd,hk⟩:=h;have:=di UL;subst this;by_cases hy:ys.length=0
  ·have:ys=[]:=List.length_eq_zero_iff.1 hy;subst this;obtain⟨g1,g2⟩:=wR hw hd e h0;refine⟨_,_,_,.slice none 0 0,?_,hk,g1,.kH _ _ _ _ (NW.cd _ _ _ _),g2⟩;have:(Builtin.append_ #[t,t] ty #[.slice none 0 0,.slice A 0 cx]).run P w.toWorld=.ok (.slice none 0 0) w.toWorld:=by
    simp[Builtin.append_,run_underlying hu,sizeOf,typeInfo,hi,Builtin.lenOf,U',storeCells]
   exact this
  ·obtain⟨ad,rfl,I'⟩:=RQ jB;obtain⟨w',e1,g1,g2,g3⟩:=vg (i:=d) (e:=e) (cap:=grownCap w.toWorld ys.length 0 e) (css:=ys) (rest:=Builtin.zeroCells z.cells (grownCap w.toWorld ys.length 0 e-ys.length)) hw h0 (fun y hy=>(hg y hy).1) Rr (Tq _ _) (V3 _) (hw.none hd _) (fun r hr=>by rw[hd]at hr;cases hr);refine⟨w',_,_,_,?_,hk,g1,g3,g2⟩;rw[e1];exact run_append_nil w.toWorld t ty e i z hu hi UM ad ys.length cx news (by rw[Re];exact Tp) I' jB jB jB
 ·-- a literal
  rename_i sz' css _;obtain⟨⟨rfl,⟨RR,VG⟩,WT⟩,d,hd,hk⟩:=h;have Q4:(css++ys).length=css.length+ys.length:=List.length_append;cases UL with
  |gF _ _ A' c' hx=>
   have Ut:=hx rfl;subst Ut;by_cases hy:ys.length=0
   ·have:ys=[]:=List.length_eq_zero_iff.1 hy;subst this;obtain⟨g1,g2⟩:=wR hw hd e h0;refine⟨_,_,_,.slice A' 0 0,?_,hk,g1,.kH _ _ _ _ (NW.cd _ _ _ _),g2⟩;have:(Builtin.append_ #[t,t] ty #[.slice A' 0 0,.slice A 0 cx]).run P w.toWorld=.ok (.slice A' 0 0) w.toWorld:=by
     cases A'<;>simp[Builtin.append_,run_underlying hu,sizeOf,typeInfo,hi,Builtin.lenOf,U',storeCells]
    exact this
   ·obtain⟨ad,rfl,I'⟩:=RQ jB;obtain⟨w',e1,g1,g2,g3⟩:=vg (i:=d) (e:=e) (cap:=grownCap w.toWorld ys.length 0 e) (css:=ys) (rest:=Builtin.zeroCells z.cells (grownCap w.toWorld ys.length 0 e-ys.length)) hw h0 (fun y hy=>(hg y hy).1) Rr (Tq _ _) (V3 _) (hw.none hd _) (fun r hr=>by rw[hd]at hr;cases hr);refine⟨w',_,_,_,?_,hk,by simpa using g1,by simpa using g3,by simpa using g2⟩;rw[e1];cases A' with
    |none=>exact run_append_nil w.toWorld t ty e i z hu hi UM ad ys.length cx news (by rw[Re];exact Tp) I' jB (by simp at VG;omega) (by simp at RR;omega)
    |some b=>
     have:=run_append_grow (P:=P) w.toWorld t ty e i z hu hi UM b 0 0 [] jE (fun j v h=>by simp at h) ad ys.length cx news (by rw[Re];exact Tp) I' jB (by simp at VG;simp;omega) (by rw[Nat.zero_add,nextslicecap_zero jB];simp at RR;omega)
     simpa using this
  |sl _ _ _ b c' vs hn Rj hx Qh hb hH Va hr=>
   have RA:∀cs∈css++ys,cs.length=sz':=fun cs h=>by
    rcases List.mem_append.1 h with h|h
    ·exact Qh _ h
    ·exact(hg cs h).1
   obtain⟨Xl,cur,el,RU⟩:=hx rfl;subst Xl;have Tr:=j6 Qh;have hold:bT w css.flatten ((List.range (css.length*sz')).map vs):=by
    refine⟨by simp[Tr],fun k a v VH hv=>?_⟩;have hk:k<css.length*sz':=by have:=(List.getElem?_eq_some_iff.1 VH).1;omega
    obtain⟨i',j,R8,hj,rfl⟩:=sK hk;rw[ow Qh R8 hj]at VH;simp only[List.getElem?_map,List.getElem?_range hk,Option.map_some,Option.some.injEq]at hv;subst hv;exact(hr i' j a R8 VH).kK
   by_cases hy:ys.length=0
   ·
    omega
   ·obtain⟨ad,rfl,I'⟩:=RQ jB;have Qp:=hold.append Rr;rw[<-List.flatten_append]at Qp;obtain⟨w',e1,g1,g2,g3⟩:=vg (i:=d) (e:=e) (cap:=grownCap w.toWorld (css.length+ys.length) css.length e) (css:=css++ys) (rest:=Builtin.zeroCells z.cells (grownCap w.toWorld (css.length+ys.length) css.length e-(css.length+ys.length))) hw h0 RA Qp (by rw[Q4];exact Tq _ _) (by rw[Q4];exact V3 _) (hw.none hd _) (fun r hr=>by rw[hd]at hr;cases hr);rw[Q4]at g3;refine⟨w',_,_,_,?_,hk,g1,g3,g2⟩;rw[e1];have:=run_append_grow (P:=P) w.toWorld t ty e i z hu hi UM b css.length css.length ((List.range (css.length*sz')).map vs) (by rw[<-hold.1,Tr,Re]) (fun k v hv=>by
     have hk:k<css.length*sz':=by have:=(List.getElem?_eq_some_iff.1 hv).1;simpa using this
     obtain⟨i',j,R8,hj,rfl⟩:=sK hk;simp only[List.getElem?_map,List.getElem?_range hk,Option.map_some,Option.some.injEq]at hv;subst hv;exact Va i' j R8 hj) ad ys.length cx news (by rw[Re];exact Tp) I' jB jB (growslice_fits jB jB)
    rw[this];congr 3
    apply Array.ext';simp
 ·exact h.elim
end
section
variable {P:P6}{H:Hp}
variable{w:NW}
def DB(l:P4):bT w (l.map .raw) l:=⟨jE,fun i a v ha hv=>by simp only[List.getElem?_map,Option.map_eq_some_iff]at ha;obtain⟨x,hx,rfl⟩:=ha;rw[hx]at hv;cases hv;exact .raw _⟩
variable{f:FuncId}
def Ji{a:AV}{v:Value}{first captured:PW}(h:az w a v)(hf:uD a=some (f,first,captured)):∃x y:P3,v=.func (.func f) x y/\bT w first x.toList/\bT w captured y.toList:=by
 unfold uD at hf;split at hf
 ·rename_i f x y;simp only[Option.some.injEq,Prod.mk.injEq]at hf;obtain⟨rfl,rfl,rfl⟩:=hf;exact⟨x,y,di h,DB _,DB _⟩
 ·simp only[Option.some.injEq,Prod.mk.injEq]at hf;obtain⟨rfl,rfl,rfl⟩:=hf;cases h with
  |dW _ _ vs hl hr=>exact⟨#[],vs,rfl,⟨rfl,fun i a v h=>by simp at h⟩,⟨by simpa using hl,fun i a v h1 h2=>hr i a v h1 (by simpa using h2)⟩⟩
 ·simp only[Option.some.injEq,Prod.mk.injEq]at hf;obtain⟨rfl,rfl,rfl⟩:=hf;cases h with
  |bd _ _ vs hl hr=>exact⟨vs,#[],rfl,⟨by simpa using hl,fun i a v h1 h2=>hr i a v h1 (by simpa using h2)⟩,⟨rfl,fun i a v h=>by simp at h⟩⟩
 ·cases hf
def F5{l:PW}{vs:P4}(h:bT w l vs):bU w l vs.toArray:=⟨by simpa using h.1,fun i a v ha hv=>h.2 i a v ha (by simpa using hv)⟩
def KY  (h : aQ P f = true) : ∃ fn, P.funcs[f]? = some fn ∧ fn.body.isSome = true ∧ (fn.name == "runtime.NumGoroutine") = false := by
 unfold aQ at h;split at h
 ·rename_i fn hf;simp only[Bool.and_eq_true,Bool.not_eq_true']at h;exact⟨fn,hf,h.1,h.2⟩
 ·cases h
variable{R:PT}
def Dt{xs:P3}{l:PW}{o:Oper}(h:(aQ P f=true/\cw P f l H R)\/ub P f l H R){a:Act}{next:Act->World->Prop}{Q:Exit->Act->World->Prop}(Yh:(execOp a.eval o).run P w.toWorld=(callFunc f xs).run P w.toWorld)(hw:aN w H)(Qk:bU w l xs)
  (hn:∀(v:Value) (r:AV) (w':NW) (H':Hp),R r H'->aN w' H'->az w' r v->Ext w H w' H'->next (a.put o.dst v) w'.toWorld):Oper.wp P o a w.toWorld next Q:=by
 rcases h with⟨Qq,hc⟩|Qg
 ·obtain⟨fn,Q5,hb,TO⟩:=KY Qq;have C':(execOp a.eval o).run P w.toWorld=.ok (.enter f xs) w.toWorld:=by
   have RJ:fn.body.isNone=false:=by cases VI:fn.body<;>simp_all
   rw[Yh];simp only[callFunc,Sem.run_bind,run_program,Result.andThen_ok,Q5,TO,RJ,Bool.false_eq_true,if_false,Sem.run_pure]
  simp only[Oper.wp,C',Oper.upon_enter];refine(hc w _ hw Qk).mono ?_;rintro e W ⟨v,r,H',w',rfl,rfl,hR,g1,g2,g3⟩;exact hn v r w' H' hR g1 g2 g3
 ·obtain⟨v,w',r,H',C',hR,g1,g2,g3⟩:=Qg w _ hw Qk;rw[<-Yh]at C';simp only[Oper.wp,C',Oper.upon];exact hn v r w' H' hR g1 g2 g3
variable{as:Array Operand}{ts:Array P1}{dst:Option Tmp}{after:Array Edge}{guard:Option (Nat×Bool)}
def ui{f:AV}{args:PW}{fo:Operand}{ty:P1}{pos:String}{ev:P2}(Td:ev fo=f)(UN:as.toList.map ev=args)
  (h:dp P f args H R) {w:NW} {a:Act} {next:Act->World->Prop} {Q:Exit->Act->World->Prop} (hw:aN w H) (hr:∀x,az w (ev x) (a.eval x))
  (hn:∀(v:Value) (r:AV) (w':NW) (H':Hp),R r H'->aN w' H'->az w' r v->Ext w H w' H'->next (a.put dst v) w'.toWorld):Oper.wp P ⟨dst,.call ⟨.value fo,as,ts⟩,ty,pos,after,guard⟩ a w.toWorld next Q:=by
 unfold dp at h;split at h
 ·rename_i f first captured hf
  obtain⟨x,y,hv,hx,hy⟩:=Ji (Td ▸ hr fo) hf;have Q0:as.map a.eval=(as.toList.map a.eval).toArray:=by rw[<-Array.toList_map,Array.toArray_toList]
  refine Dt h ?_ hw (F5 ((hx.append (UN ▸ tU hr as.toList)).append hy)) hn;have e:x++(as.toList.map a.eval).toArray++y=(x.toList++as.toList.map a.eval++y.toList).toArray:=by apply Array.ext';simp
  simp only[execOp,resolve,hv,Deferred.ofValue,pure_bind,invoke,Q0,e]
 ·exact h.elim
def JR{t:P1}{m:String}(h:mf P t m=some f)(v:Value)(W:World):(method (P.types.size+Made.depth) t v m).run P W=.ok (f,v) W:=by
 unfold mf at h;split at h;rotate_left
 ·cases h
 rename_i ti e ht hu;split at h;rotate_left
 ·cases h
 rename_i r hr;split at h;rotate_left
 ·cases h
 rename_i hp;split at h;rotate_left
 ·cases h
 rename_i g hf;cases h;have RU:r.path.toList=[]:=by have:=Array.isEmpty_iff.1 hp;rw[this]
 obtain⟨n,hn⟩:∃n,P.types.size+Made.depth=n+1:=⟨P.types.size+Made.depth-1,by have hd:=(by decide:Made.depth≠0);omega⟩;rw[hn];unfold method;simp only[Sem.run_bind,run_typeInfo W ht,Result.andThen_ok,hr,RU,follow,Sem.run_pure,hf,receiverAt,run_underlying hu,Place.get]
def yV{x:AV}{m:String}{args:PW}{fo:Operand}{ty:P1}{pos:String}{ev:P2}(Td:ev fo=x)(UN:as.toList.map ev=args)
  (h:nk P x m args H R) {w:NW} {a:Act} {next:Act->World->Prop} {Q:Exit->Act->World->Prop} (hw:aN w H) (hr:∀x,az w (ev x) (a.eval x))
  (hn:∀(v:Value) (r:AV) (w':NW) (H':Hp),R r H'->aN w' H'->az w' r v->Ext w H w' H'->next (a.put dst v) w'.toWorld):Oper.wp P ⟨dst,.call ⟨.invoke fo m,as,ts⟩,ty,pos,after,guard⟩ a w.toWorld next Q:=by
 unfold nk at h;split at h;rotate_left
 ·exact h.elim
 rename_i t b;split at h;rotate_left
 ·exact h.elim
 rename_i f hf;have hx:=hr fo;rw[Td]at hx;generalize hv:a.eval fo=v at hx;cases hx with
 |iz _ _ u hu=>
  have Q0:as.map a.eval=(as.toList.map a.eval).toArray:=by rw[<-Array.toList_map,Array.toArray_toList]
  have h':(aQ P f=true/\cw P f (b::args) H R)\/ub P f (b::args) H R:=by
   have:dp P (.raw (.func (.func f) #[] #[])) (b::args) H R=((aQ P f=true/\cw P f (b::args) H R)\/ub P f (b::args) H R):=by show((aQ P f=true/\cw P f ([]++(b::args)++[]) H R)\/ub P f ([]++(b::args)++[]) H R)=_;rw[List.nil_append,List.append_nil]
   rw[<-this];exact h
  have hl:bT w (b::args) (u::as.toList.map a.eval):=bT.append (a:=[b]) (x:=[u]) ⟨rfl,fun i p q hp hq=>by
   match i with
   |0=>cases hp;cases hq;exact hu
   |i+1=>simp at hp⟩ (UN ▸ tU hr as.toList)
  refine Dt h' (xs:=(u::as.toList.map a.eval).toArray) ?_ hw (F5 hl) hn;have e0:(#[Value.iface t u]++as.map a.eval)[0]?=some (.iface t u):=by rw[Array.getElem?_append_left (by show 0<1;decide)];rfl
  have e1:(#[Value.iface t u]++as.map a.eval).extract 1 (#[Value.iface t u]++as.map a.eval).size=as.map a.eval:=jE;have e2:#[u]++as.map a.eval=(u::as.toList.map a.eval).toArray:=by apply Array.ext';simp
  simp only[execOp,resolve,pure_bind,invoke,hv,e0,e1,callMethod,Sem.run_bind,run_program,Result.andThen_ok,JR hf,e2]
end
variable{P:P6}{args':PW}
@[congr] theorem jzK{f f':AV}{args:PW}(h1:f=f')(h2:args=args'):dp P f args H K=dp P f' args' H K:=by rw[h1,h2]
variable{a':AV}
@[congr] theorem jwG{a:AV}{m:String}{args:PW}(h1:a=a')(h2:args=args'):nk P a m args H K=nk P a' m args' H K:=by rw[h1,h2]
variable{t:P1}
@[congr] theorem jxI:ll P H t K=ll P H t K:=rfl
@[congr] theorem j1c{x x':AV}(h:x=x'):pN H t x K=pN H t x' K:=by rw[h]
@[congr] theorem juM{t':P1}{a x x':AV}(h1:a=a')(h2:x=x'):pn P t t' a x H K=pn P t t' a' x' H K:=by rw[h1,h2]
@[congr] theorem jse{b:Builtin}{ts ts':List P1}{as as':PW}(h1:ts=ts')(h2:as=as'):pk P b ts as H K=pk P b ts' as' H K:=by rw[h1,h2]
def jV(ops:Array Oper)(F:PW)(j:Nat)(want:Bool):Option Bool:=match (ops[j]?).bind (·.dst)with
 |some d=>match F[d]? with
  |some (.raw (.bool b))=>some (b == want)
  |some (.gd g (.raw (.bool b)))=>some (g && (b == want))
  |_=>none
 |none=>none
def bA(F:PW)(x:Operand):AV:=(jk (bw F x)).2
def eO(F:PW)(o:Op):Bool:=o.operands.toList.all fun x=>(jk (bw F x)).1
def fN:Op->Bool
 |.call { callee:=.invoke ..,.. }=>true
 |.binOp .eql ..=>true
 |.binOp .neq ..=>true
 |o=>cP o
def dR(P:P6)(F:PW)(H:Hp)(g:Bool)(K:AV->Prop):Op->Prop
 |.call { callee:=.value f,args,argTypes }=>∃r,(g=true->eO F (.call ⟨.value f,args,argTypes⟩)=true/\dp P (bA F f) (args.toList.map (bA F)) H fun r' H'=>r'=r/\H'=H)/\K (.gd g r)
 |.call { callee:=.invoke f m,args,argTypes }=>∃r,(g=true->eO F (.call ⟨.invoke f m,args,argTypes⟩)=true/\nk P (bA F f) m (args.toList.map (bA F)) H fun r' H'=>r'=r/\H'=H)/\K (.gd g r)
 |.pick c a b=>(g=true->(jk (bw F c)).1=true/\(jY (bA F c) (bw F a) (bw F b)).1)/\K (.gd g (jY (bA F c) (bw F a) (bw F b)).2)
 |o=>if fN o then(g=true->eO F o=true/\(vq P (bA F) H o).1)/\K (.gd g (vq P (bA F) H o).2)else False
def fV:Op->Bool
 |.call { callee:=.value _,.. }=>true
 |_=>false
def jT(P:P6)(ops:Array Oper)(K:PS):List Oper->PS
 |[],F,H=>K F H
 |o::rest,F,H=>match o.guard with
  |none=>vc P (bw F) H o.type (fun r H'=>jT P ops K rest (bO F o.dst r) H') o.op
  |some (j,want)=>match jV ops F j want with
   |some b=>if fV o.op || fN o.op then dR P F H b (fun r=>jT P ops K rest (bO F o.dst r) H) o.op
    else(b=true->vc P (bw F) H o.type (fun r H'=>jT P ops K rest (bO F o.dst r) H') o.op)/\(b=false->jT P ops K rest (bO F o.dst .any) H)
   |none=>False
section
variable {P:P6}{ops:Array Oper}{F:PW}{H:Hp}
variable{K:PS}{w:NW}{tm:P3}
def y7{o:Oper}{ev:P2}(h:vc P ev H o.type (fun r H'=>K (bO F o.dst r) H') o.op){Q:Exit->Act->World->Prop}{next:Act->World->Prop}
  (h1:aN w H) (h2:bU w F tm) (hr:∀x,az w (ev x) ((Act.mk tm []).eval x))
  (hn:∀Qv (w':NW) F' H',K F' H'->aN w' H'->bU w' F' Qv->Ext w H w' H'->next ⟨Qv,[]⟩ w'.toWorld):o.wp P ⟨tm,[]⟩ w.toWorld next Q:=by
 have quiet:((vq P ev H o.op).1/\K (bO F o.dst (vq P ev H o.op).2) H)->o.wp P ⟨tm,[]⟩ w.toWorld next Q:=fun hq=>by obtain⟨v,C',hv⟩:=xz o h1 hr hq.1;simp only[Oper.wp,C',Oper.upon];rw[Act.put_eq];exact hn _ w _ H hq.2 h1 (h2.put o.dst hv []) (Ext.refl w H)
 have val:∀{w':NW} {H':Hp} {r:AV} {v:Value},(execOp (Act.mk tm []).eval o).run P w.toWorld=.ok (.value v) w'.toWorld->K (bO F o.dst r) H'->aN w' H'->az w' r v->Ext w H w' H'->o.wp P ⟨tm,[]⟩ w.toWorld next Q:=fun{w' H' r v} C' hk g1 g2 g3=>by simp only[Oper.wp,C',Oper.upon];rw[Act.put_eq];exact hn _ w' _ H' hk g1 ((h2.ext g3).put o.dst g2 []) g3
 have skip:∀{w':NW} {H':Hp},(execOp (Act.mk tm []).eval o).run P w.toWorld=.ok .skip w'.toWorld->K (bO F o.dst .any) H'->aN w' H'->Ext w H w' H'->o.wp P ⟨tm,[]⟩ w.toWorld next Q:=fun{w' H'} C' hk g1 g3=>by simp only[Oper.wp,C',Oper.upon];rw[Act.put_eq];exact hn _ w' _ H' hk g1 ((h2.ext g3).put o.dst (.any _) []) g3
 have other:gp P o.op o.type ev H (fun r H'=>K (bO F o.dst r) H')->o.wp P ⟨tm,[]⟩ w.toWorld next Q:=fun ho=>by
  obtain⟨w',H',r,hk,g1,g2,g3⟩:=ho w (Act.mk tm []).eval o.dst o.pos o.after o.guard h1 (fun x _=>hr x);rcases g3 with⟨v,C',hv⟩|⟨C',rfl⟩
  ·exact val C' hk g1 hv g2
  ·exact skip C' hk g1 g2
 obtain⟨dst,op,ty,pos,after,guard⟩:=o;have vrun:∀{s:Sem Value} {v:Value} {W:World},s.run P w.toWorld=.ok v W->(do pure (Next.value (<-s)):Sem Next).run P w.toWorld=.ok (.value v) W:=fun hs=>by simp[hs]
 cases op
 case box t x=> obtain⟨ho,i,hi,hk⟩:=h;obtain⟨u,w',C',g0,g1,g2⟩:=Hl (P:=P) (t:=t) h1 hi (hr x) ho;exact val (vrun C') hk g1 g0 g2
 case alloc t=>
  simp only[vc,ll]at h;split at h
  ·rename_i zs hz;obtain⟨i,hi,hk⟩:=h;obtain⟨u,w',C',g0,g1,g2⟩:=Kt (P:=P) (t:=t) h1 hi hz;exact val (vrun C') hk g1 g0 g2
  ·exact h.elim
 case store t a x=>
  simp only[vc,qa]at h;split at h
  ·rename_i i m k j n ha hk;split at h
   ·rename_i r hb;obtain⟨⟨s1,s2,s3⟩,O'⟩:=h;have Yi:=hr a;rw[ha]at Yi;obtain⟨w',C',g1,g2⟩:=Ma (P:=P) h1 Yi hb (hr x) s1 hk s2 s3;refine skip ?_ O' g1 g2;simp only[execOp,Sem.run_bind,C',Result.andThen_ok,Sem.run_pure]
   ·exact h.elim
  ·exact h.elim
 case buildSlice t n parts=>
  have h':lu P H t n (parts.toList.map fun p=>(p.1,ev p.2)) (fun r H'=>K (bO F dst r) H'):=h;obtain⟨w',H',r,v,C',hk,g1,g2,g3⟩:=IQ (P:=P) (parts:=parts.toList.map fun p=>(p.1,ev p.2)) (vparts:=parts.map fun p=>(p.1,(Act.mk tm []).eval p.2)) h1 jE (fun i a v ha hv=>by simp only[List.getElem?_map,Option.map_eq_some_iff,Array.toList_map,Array.getElem?_toList]at ha hv;obtain⟨x,hx,rfl⟩:=ha;obtain⟨y,hy,rfl⟩:=hv;rw[hx]at hy;cases hy;exact hr x.2) h'
  exact val (vrun C') hk g1 g2 g3
 case binOp op t x y t'=>
  cases op
  case eql=> obtain⟨r,v,C',hk,hv⟩:=CL (P:=P) (K:=fun r H'=>K (bO F dst r) H') false t x y (hr x) (hr y) h;exact val (vrun C') hk h1 hv (Ext.refl w H)
  case neq=> obtain⟨r,v,C',hk,hv⟩:=CL (P:=P) (K:=fun r H'=>K (bO F dst r) H') true t x y (hr x) (hr y) h;exact val (vrun C') hk h1 hv (Ext.refl w H)
  all_goals exact quiet h
 case call c=>
  obtain⟨callee,args,argTypes⟩:=c;cases callee
  case value f=>
   refine ui rfl rfl h h1 hr fun v r w' H' hk g1 g2 g3=>?_
   rw[Act.put_eq];exact hn _ w' _ H' hk g1 ((h2.ext g3).put dst g2 []) g3
  case invoke r m=>
   refine yV rfl rfl h h1 hr fun v r w' H' hk g1 g2 g3=>?_
   rw[Act.put_eq];exact hn _ w' _ H' hk g1 ((h2.ext g3).put dst g2 []) g3
  case builtin b=>
   have Q0:args.map (Act.mk tm []).eval=(args.toList.map (Act.mk tm []).eval).toArray:=by rw[<-Array.toList_map,Array.toArray_toList]
   have bvc:pk P b argTypes.toList (args.toList.map ev) H (fun r H'=>K (bO F dst r) H')->Oper.wp P ⟨dst,.call ⟨.builtin b,args,argTypes⟩,ty,pos,after,guard⟩ ⟨tm,[]⟩ w next Q:=fun hb=>by obtain⟨w',H',r,v,C',hk,g1,g2,g3⟩:=hb w _ ty (args.map fun|.const _=>true|_=>false) h1 (tU hr args.toList);refine val (w':=w') (v:=v) ?_ hk g1 g2 g3;simp only[execOp,resolve,pure_bind,invoke,Q0];exact C'
   cases b
   case append=>
    simp only[vc]at h;split at h
    ·rename_i t t' a x ht ha;obtain⟨w',H',r,v,C',hk,g1,g2,g3⟩:=h w _ _ ty h1 (hr a) (hr x);refine val (w':=w') (v:=v) ?_ hk g1 g2 g3;have e1:argTypes=#[t,t']:=by rw[<-Array.toArray_toList (xs:=argTypes),ht]
     have e2:args=#[a,x]:=by rw[<-Array.toArray_toList (xs:=args),ha]
     subst e1 e2;simp only[execOp,resolve,pure_bind,invoke,builtin,Sem.run_bind];have:(#[a,x].map (Act.mk tm []).eval)=#[(Act.mk tm []).eval a,(Act.mk tm []).eval x]:=jE;rw[this,C'];rfl
    ·exact h.elim
   case len=>exact quiet h
   case cap=>exact quiet h
   case max=>exact quiet h
   case min=>exact quiet h
   all_goals exact bvc h
 case move=>exact quiet h
 case assign=>exact quiet h
 case pick=>exact quiet h
 case nilCheck=>exact quiet h
 case unOp=>exact quiet h
 case load=>exact quiet h
 case fieldAddr=>exact quiet h
 case field=>exact quiet h
 case indexAddr=>exact quiet h
 case index=>exact quiet h
 case extract=>exact quiet h
 case slice=>exact quiet h
 case makeFunc=>exact quiet h
 case makeInterface=>exact quiet h
 case convert=>exact quiet h
 case build=>exact quiet h
 all_goals first|exact other h|exact(quiet h)
def oi{o:Oper}(hg:o.guard=none)(h:vc P (bw F) H o.type (fun r H'=>K (bO F o.dst r) H') o.op):k8 P ops o F H K:=fun w tm Q next h1 h2 hn=>by unfold qf;rw[if_pos (by simp[Region.wanted,hg])];exact .inl (y7 h h1 h2 (fun x=>h2.eval [] x) hn)
def JU{j:Nat}{want b:Bool}(h:jV ops F j want=some b)(h2:bU w F tm):(yielded ops tm j == some want)=b:=by
 unfold jV at h;split at h
 ·rename_i d hd;split at h<;>try cases h
  ·rename_i b' hF;have Qd:d<tm.size:=by rw[<-h2.1];exact(List.getElem?_eq_some_iff.1 hF).1
   have:=di (h2.2 d _ _ hF (Array.getElem?_eq_getElem Qd));unfold yielded;rw[hd,Option.bind_some,Array.getElem?_eq_getElem Qd,this];cases b'<;>cases want<;>rfl
  ·rename_i g b' hF;have Qd:d<tm.size:=by rw[<-h2.1];exact(List.getElem?_eq_some_iff.1 hF).1
   have hr:=h2.2 d _ _ hF (Array.getElem?_eq_getElem Qd);unfold yielded;rw[hd,Option.bind_some,Array.getElem?_eq_getElem Qd];cases hr with
   |gd _ _ _ hh hu=>cases g with
    |true=> have:=di (hh rfl);rw[this];cases b'<;>cases want<;>rfl
    |false=>rw[hu rfl];rfl
 ·cases h
def zU(h2:bU w F tm)(x:Operand)(ok:(jk (bw F x)).1=true):az w (bA F x) ((Act.mk tm []).eval x):=zD (h2.eval [] x) ok
def ja(F:PW)(x:Operand):AV:=if(jk (bw F x)).1=true then bA F x else .any
def y6{f g:P2}{o:Option Operand}(h:∀x∈o.toList,f x=g x):o.map f=o.map g:=by
 cases o with
 |none=>rfl
 |some x=>simp[h x jE]
def rb{ev ev':P2}(o:Op)(h:∀x∈o.operands.toList,ev x=ev' x):vq P ev H o=vq P ev' H o:=by
 cases o
 case call c=>
  obtain⟨callee,args,ts⟩:=c;cases callee
  case builtin b=> simp only[vq];rw[List.map_congr_left (fun x hx=>h x (by simpa[Op.operands,Call.operands]using hx))]
  all_goals rfl
 case slice t a lo hi mx=> simp only[Op.operands]at h;simp only[vq];rw[h a jE,y6 (o:=lo) (fun x hx=>h x (by simp at hx ⊢;simp[hx])),y6 (o:=hi) (fun x hx=>h x (by simp at hx ⊢;simp[hx])),y6 (o:=mx) (fun x hx=>h x (by simp at hx ⊢;simp[hx]))]
 case makeFunc fn a b=> simp only[Op.operands]at h;simp only[vq];rw[List.map_congr_left (l:=a.toList) (fun x hx=>h x (by simp at hx ⊢;simp[hx])),List.map_congr_left (l:=b.toList) (fun x hx=>h x (by simp at hx ⊢;simp[hx]))]
 case build t ps=> simp only[Op.operands]at h;simp only[vq];rw[List.map_congr_left (g:=fun p=>(p.1,ev' p.2)) (fun x hx=>by rw[h x.2 (by simp at hx ⊢;exact⟨_,hx⟩)])]
 all_goals first
  |rfl
  |(simp only[Op.operands]at h;simp only[vq];(repeat rw[h _ jE]))
def qB(h2:bU w F tm)(x:Operand):az w (ja F x) ((Act.mk tm []).eval x):=by
 unfold ja;split
 ·rename_i h;exact zU h2 x h
 ·exact .any _
def oe{o:Op}(h:eO F o=true):∀x∈o.operands.toList,ja F x=bA F x:=fun x hx=>by unfold ja;rw[if_pos];simp only[eO,List.all_eq_true]at h;exact h x hx
def na{o:Oper}{j:Nat}{want b:Bool}(hg:o.guard=some (j,want))(hb:jV ops F j want=some b)
  (ht:b=true->∀w tm (Q:Exit->Act->World->Prop) (next:Act->World->Prop),aN w H->bU w F tm->(∀Qv w' F' H',K F' H'->aN w' H'->bU w' F' Qv->Ext w H w' H'->next ⟨Qv,[]⟩ w')->o.wp P ⟨tm,[]⟩ w.toWorld next Q)
  (hf:b=false->∃r,(∀w:NW,az w r undef)/\K (bO F o.dst r) H):k8 P ops o F H K:=fun w tm Q next h1 h2 hn=>by
 have hy:=JU hb h2;unfold qf;have hw:Region.wanted o (yielded ops (Act.mk tm []).tmps)=b:=by unfold Region.wanted;rw[hg];exact hy
 cases b with
 |true=> rw[if_pos hw];exact .inl (ht rfl w tm Q next h1 h2 hn)
 |false=> rw[if_neg (by rw[hw];exact Bool.false_ne_true)];obtain⟨r,hr,hk⟩:=hf rfl;rw[Act.put_eq];exact hn _ w _ H hk h1 (h2.put o.dst (hr w) []) (Ext.refl w H)
def oQ{r:AV}{g:Bool}(hg:g=false)(w:NW):az w (.gd g r) undef:=.gd _ _ _ (fun h=>by rw[hg]at h;cases h) (fun _=>rfl)
def qD{r:AV}{v:Value}{g:Bool}(hg:g=true)(h:az w r v):az w (.gd g r) v:=.gd _ _ _ (fun _=>h) (fun h=>by rw[hg]at h;cases h)
theorem vu{K:PS}:∀(l:List Oper) (F:PW) (H:Hp),jT P ops K l F H->td P ops K l F H
 |[],F,H,h=>GW h
 |o::rest,F,H,h=>by
  refine Er ?_;simp only[jT]at h;split at h
  ·rename_i hg;exact(oi (K:=fun F' H'=>jT P ops K rest F' H') hg h).mono fun F' H' hk=>vu rest F' H' hk
  ·rename_i j want hg;split at h
   ·rename_i b hb;split at h
    ·refine k8.mono (K:=fun F' H'=>jT P ops K rest F' H') ?_ fun F' H' hk=>vu rest F' H' hk
     obtain⟨dst,op,ty,pos,after,guard⟩:=o;unfold dR at h;split at h
     ·rename_i f args argTypes SX;cases SX;obtain⟨r,hc,hk⟩:=h;refine na hg hb (fun Qz w tm Q next h1 h2 hn=>?_) (fun Qz=>⟨_,oQ Qz,hk⟩);obtain⟨ok,Qq⟩:=hc Qz;have SH:=oe ok;have e1:ja F f=bA F f:=SH f (by simp[Op.operands,Call.operands]);have e2:args.toList.map (ja F)=args.toList.map (bA F):=List.map_congr_left fun x hx=>SH x (by simp[Op.operands,Call.operands]at hx ⊢;exact .inr hx)
      refine ui (ev:=ja F) e1 e2 Qq h1 (qB h2) fun v r' w' H' hR g1 g2 g3=>?_
      obtain⟨rfl,rfl⟩:=hR;rw[Act.put_eq];exact hn _ w' _ H' hk g1 ((h2.ext g3).put dst (qD Qz g2) []) g3
     ·rename_i f m args argTypes SX;cases SX;obtain⟨r,hc,hk⟩:=h;refine na hg hb (fun Qz w tm Q next h1 h2 hn=>?_) (fun Qz=>⟨_,oQ Qz,hk⟩);obtain⟨ok,Qq⟩:=hc Qz;have SH:=oe ok;have e1:ja F f=bA F f:=SH f (by simp[Op.operands,Call.operands]);have e2:args.toList.map (ja F)=args.toList.map (bA F):=List.map_congr_left fun x hx=>SH x (by simp[Op.operands,Call.operands]at hx ⊢;exact .inr hx)
      refine yV (ev:=ja F) e1 e2 Qq h1 (qB h2) fun v r' w' H' hR g1 g2 g3=>?_
      obtain⟨rfl,rfl⟩:=hR;rw[Act.put_eq];exact hn _ w' _ H' hk g1 ((h2.ext g3).put dst (qD Qz g2) []) g3
     ·rename_i c x y SX;simp only at SX;subst SX;obtain⟨hs,hk⟩:=h;refine na hg hb (fun Qz w tm Q next h1 h2 hn=>?_) (fun Qz=>⟨_,oQ Qz,hk⟩);obtain⟨ok,hq⟩:=hs Qz;obtain⟨v,C',hv⟩:=GS (P:=P) (ρ:=(Act.mk tm []).eval) (dst:=dst) (ty:=ty) (pos:=pos) (after:=after) (guard:=guard) (zU h2 c ok) (h2.eval [] x) (h2.eval [] y) hq;simp only[Oper.wp,C',Oper.upon];rw[Act.put_eq];exact hn _ w _ H hk h1 (h2.put dst (qD Qz hv) []) (Ext.refl w H)
     ·split at h
      ·obtain⟨hs,hk⟩:=h;refine na hg hb (fun Qz w tm Q next h1 h2 hn=>?_) (fun Qz=>⟨_,oQ Qz,hk⟩);obtain⟨ok,hq⟩:=hs Qz;rw[<-rb _ (oe ok)]at hq;obtain⟨v,C',hv⟩:=xz (ρ:=(Act.mk tm []).eval) ⟨dst,op,ty,pos,after,guard⟩ h1 (qB h2) hq;simp only[Oper.wp,C',Oper.upon];rw[Act.put_eq];rw[rb _ (oe ok)]at hv;exact hn _ w _ H hk h1 (h2.put dst (qD Qz hv) []) (Ext.refl w H)
      ·exact h.elim
    ·refine k8.mono (K:=fun F' H'=>jT P ops K rest F' H') ?_ fun F' H' hk=>vu rest F' H' hk
     refine na hg hb (fun Qz w tm Q next h1 h2 hn=>?_) (fun Qz=>⟨_,fun w=>.any _,h.2 Qz⟩);exact y7 (h.1 Qz) h1 h2 (fun x=>h2.eval [] x) hn
   ·exact h.elim
def JC{id:Nat}{l:List Oper}{Q:Exit->PS}(h:jT P l.toArray (Q .normal) l F H):cz P (.region id l.toArray false) Q F H:=
 CR (by simpa using vu l F H h)
-- the results of a body
def fP(P:P6)(H:Hp)(F:PW):List ResultVar->Option PW
 |[]=>some []
 |.tmp t::rest=>(fP P H F rest).map (F.getD t .any::·)
 |.cell a t::rest=>match mC H (F.getD a .any),dK P t,cW P t with
  |some (_,cs),some ag,some k=>(fP P H F rest).map (pB ag k cs::·)
  |_,_,_=>none
def gx(P:P6)(H:Hp)(F:PW):List ResultVar->Prop
 |[]=>True
 |.tmp _::rest=>gx P H F rest
 |.cell a t::rest=>match mC H (F.getD a .any),cW P t with
  |some (c,cs),some k=>(c/\k<=cs.length/\1<=cs.length)/\gx P H F rest
  |_,_=>False
def fZ:PW->AV
 |[r]=>r
 |rs=>.bt rs
def sQ(tm:P3):ResultVar->Sem Value
 |.tmp t=>pure (tm.getD t undef)
 |.cell a t=>do loadVar t (<-asAddr (tm.getD a undef))
def Pb(fn:Func)(tm:P3):results fn tm=(do let vs <-fn.results.mapM (sQ tm);pure (if h:vs.size=1 then vs[0]else .tuple vs)):=rfl
theorem BE{w:NW}{tm:P3}(hw:aN w H)(h2:bU w F tm):∀(rs:List ResultVar) (out:PW),gx P H F rs->fP P H F rs=some out->
  ∃vs:P4,bT w out vs/\(rs.mapM (sQ tm)).run P w.toWorld=.ok vs w.toWorld
 |[],out,_,h=>by simp[fP]at h;subst h;exact⟨[],⟨rfl,fun i a v ha=>by simp at ha⟩,jE⟩
 |.tmp t::rest,out,hok,h=>by
  simp only[fP,Option.map_eq_some_iff]at h;obtain⟨l,hl,rfl⟩:=h;obtain⟨vs,Qk,C'⟩:=BE hw h2 rest l hok hl;refine⟨tm.getD t undef::vs,⟨by simp[Qk.1],fun i a v ha hv=>?_⟩,?_⟩
  ·cases i with
   |zero=> simp only[List.getElem?_cons_zero,Option.some.injEq]at ha hv;subst ha hv;exact h2.eval [] (.tmp t)
   |succ i=>exact Qk.2 i a v (by simpa using ha) (by simpa using hv)
  ·rw[List.mapM_cons];simp only[sQ,Sem.run_bind,Sem.run_pure,Result.andThen_ok];rw[C'];rfl
 |.cell ad t::rest,out,hok,h=>by
  simp only[fP]at h;simp only[gx]at hok;split at h
  ·rename_i c cs ag k e1 e2 e3;rw[e1,e3]at hok;obtain⟨⟨hc,Qt,Qf⟩,hok⟩:=hok;simp only[Option.map_eq_some_iff]at h;obtain⟨l,hl,rfl⟩:=h;obtain⟨vs,Qk,C'⟩:=BE hw h2 rest l hok hl;obtain⟨addr,us,hv,I',hr⟩:=EV (h2.eval [] (.tmp ad)) hw e1 hc;obtain⟨v,V6,YV⟩:=Em (P:=P) e2 e3 Qt Qf I' hr;have Qm:tm.getD ad undef=.pointer (some addr):=hv;refine⟨v::vs,⟨by simp[Qk.1],fun i a u ha hu=>?_⟩,?_⟩
   ·cases i with
    |zero=> simp only[List.getElem?_cons_zero,Option.some.injEq]at ha hu;subst ha hu;exact YV
    |succ i=>exact Qk.2 i a u (by simpa using ha) (by simpa using hu)
   ·rw[List.mapM_cons];have ha:(asAddr (tm.getD ad undef)).run P w.toWorld=.ok addr w.toWorld:=by rw[Qm];rfl
    have hf:(sQ tm (.cell ad t)).run P w.toWorld=.ok v w.toWorld:=by simp only[sQ,Sem.run_bind,ha,V6,Result.andThen_ok]
    simp only[Sem.run_bind,hf,C',Sem.run_pure,Result.andThen_ok]
  ·cases h
def Ms{fn:Func}{out:PW}(hw:aN w H)(h2:bU w F tm)(hok:gx P H F fn.results.toList)(h:fP P H F fn.results.toList=some out):∃v,(results fn tm).run P w.toWorld=.ok v w.toWorld/\az w (fZ out) v:=by
 obtain⟨vs,Qk,C'⟩:=BE (P:=P) hw h2 _ out hok h;have hm:(fn.results.mapM (sQ tm)).run P w.toWorld=.ok vs.toArray w.toWorld:=by rw[Array.mapM_eq_mapM_toList];simp only[Sem.run_map,C',Result.andThen_ok]
 have hr:(results fn tm).run P w.toWorld=.ok (if h:vs.toArray.size=1 then vs.toArray[0]else .tuple vs.toArray) w.toWorld:=by rw[Pb];simp only[Sem.run_bind,hm,Result.andThen_ok,Sem.run_pure]
 refine⟨_,hr,?_⟩;match vs,out,Qk with
 |[],[],Qk=>exact .bt _ _ rfl fun i a v ha=>by simp at ha
 |[v],[a],Qk=>exact Qk.2 0 _ _ rfl rfl
 |v::v'::vs,a::a'::out,Qk=>exact .bt _ _ (by have:=Qk.1;simpa using this) fun i x y hx hy=>Qk.2 i x y hx (by simpa using hy)
 |[],_::_,Qk=>have:=Qk.1;simp at this
 |_::_,[],Qk=>have:=Qk.1;simp at this
 |[_],_::_::_,Qk=>have:=Qk.1;simp at this
 |_::_::_,[_],Qk=>have:=Qk.1;simp at this
def hU(P:P6)(fn:Func)(R:AV->List P8->Prop):Exit->PS
 |.normal,F,H|.ret,F,H=>∃out r H',fP P H F fn.results.toList=some out/\gx P H F fn.results.toList/\hJ (fZ out) H r H'/\R r H'.l
 |_,_,_=>False
def A9{f:FuncId}{fn:Func}{c:Code}{args:PW}{l:PV}{R:AV->List P8->Prop}(hf:P.funcs[f]?=some fn)(hb:fn.body=some c)(h:cz P c (hU P fn R) (args++List.replicate (fn.ntmps-args.length) .any) (entry l)) :
  af P f args l R:=fun w vs h1 h2=>by
 have g':args.length=vs.size:=h2.1;refine calls_of_wp hf hb (wp_mono (h w _ h1 ?_) ?_)
 ·refine⟨by simp[g'],fun i a v ha hv=>?_⟩;rcases Nat.lt_or_ge i args.length with hi|hi
  ·rw[List.getElem?_append_left hi]at ha;rw[Array.getElem?_append_left jB]at hv;exact h2.2 i a v ha hv
  ·rw[List.getElem?_append_right hi]at ha;rw[List.getElem?_replicate]at ha;split at ha<;>cases ha;exact .any _
 ·rintro e a W ⟨tm,F',H',w',rfl,rfl,hq,g1,g2,g3⟩;have fin:(∃out r QK,fP P H' F' fn.results.toList=some out/\gx P H' F' fn.results.toList/\hJ (fZ out) H' r QK/\R r QK.l)->
    ∃v,(results fn tm).run P w'.toWorld=.ok v w'.toWorld/\∃v' r QK w'',w'.toWorld=NW.toWorld w''/\Ending.returned v=.returned v'/\R r (Hp.l QK)/\aN w'' QK/\az w'' r v'/\eK w (entry l) w'' QK:=by
   rintro⟨out,r,QK,e1,e0,e2,e3⟩;obtain⟨v,C',hv⟩:=Ms g1 g2 e0 e1;obtain⟨w'',k0,k1,k2,k3⟩:=e2 w' v g1 hv;exact⟨v,C',v,r,QK,w'',k0.symm,rfl,e3,k1,k2,g3.trans k3⟩
  cases e with
  |normal=>exact⟨rfl,fin hq⟩
  |ret=>exact⟨rfl,fin hq⟩
  |exit id=>exact hq.elim
  |goto l=>exact hq.elim
  |panic ch=>exact hq.elim
  |outgrown=>exact hq.elim
end
-- encoders of Lean data
class cu{α:Type}(enc:α->List AV)(sz:outParam Nat):Prop where
 len:∀x,(enc x).length=sz
 cM:∀x,cM (enc x)=true
 free:∀x,aU cV (enc x)=true
def QL(q:P5)(css:PU):Prop:=∀cs∈css,aU q cs=true
def nq(q:P5):Row->Prop
 |.var _ cs=>aU q cs=true
 |.aG _ _ css=>QL q css
 |.mp _ vs=>aU q vs=true
theorem yt{q:P5}:∀(a b:PW),aU q (a++b)=(aU q a && aU q b)
 |[],b=>by simp[aU]
 |x::a,b=>by simp[aU,yt a b,Bool.and_assoc]
theorem xp{q:P5}:∀{css:PU},QL q css->aU q css.flatten=true
 |[],_=>rfl
 |cs::css,h=>by rw[List.flatten_cons,yt,h cs jE,xp (css:=css) fun c hc=>h c (by simp[hc])];rfl
variable{q:P5}
def Gv{r:Row}(h:nq q r):aU q r.cells=true:=by
 cases r with
 |var t cs=>exact h
 |aG e sz css=>exact xp h
 |mp ks vs=>exact h
def xo(q:P5):QL q []:=fun _ h=>by simp at h
def CG{cs:PW}(h:aU q cs=true)(k:QL q css):QL q (cs::css):=fun c hc=>by
 rcases List.mem_cons.1 hc with rfl|hc
 ·exact h
 ·exact k c hc
def za{a b:PU}(h:QL q a)(k:QL q b):QL q (a++b):=fun c hc=>(List.mem_append.1 hc).elim (h c) (k c)
variable{α:Type}
def iW{enc:α->PW}[e:cu enc sz](l:List α):QL q (l.map enc):=fun c hc=>by obtain⟨x,_,rfl⟩:=List.mem_map.1 hc;exact iN (fun _ h=>by cases h) _ (e.free x)
def JD(sz:Nat):gh sz []:=fun _ h=>by simp at h
def Cv{enc:α->PW}[e:cu enc sz](l:List α):gh sz (l.map enc):=fun c hc=>by obtain⟨x,_,rfl⟩:=List.mem_map.1 hc;exact⟨e.len x,e.cM x⟩
-- calls
def fits:List P8->Hp->Prop
 |[],_=>True
 |(i,r)::l,H=>H.get i=some r/\fits l H
theorem Ai:∀{l:PV} {H:Hp},fits l H->∀i r,aB l i=some r->H.get i=some r
 |[],_,_,i,r,h=>by cases h
 |(j,s)::l,H,hf,i,r,h=>by
  simp only[aB]at h;split at h
  ·rename_i e;subst e;cases h;exact hf.1
  ·exact Ai hf.2 i r h
def pO(q:P5):List P8->Prop
 |[]=>True
 |(_,r)::l=>nq q r/\pO q l
theorem Ef{q:P5}:∀{l:PV},pO q l->∀i r,aB l i=some r->aU q r.cells=true
 |[],_,i,r,h=>by cases h
 |(j,s)::l,hf,i,r,h=>by
  simp only[aB]at h;split at h
  ·cases h;exact Gv hf.1
  ·exact Ef hf.2 i r h
def fresh(L:PZ)(H:Hp):List P8->Prop
 |[]=>True
 |(i,_)::l=>(L.contains i=true\/H.get i=none)/\fresh L H l
theorem we{L:PZ}{H:Hp}:∀{l:PV},fresh L H l->∀i r,aB l i=some r->L.contains i=true\/H.get i=none
 |[],_,i,r,h=>by cases h
 |(j,s)::l,hf,i,r,h=>by
  simp only[aB]at h;split at h
  ·rename_i e;subst e;exact hf.1
  ·exact we hf.2 i r h
section
variable {P:P6}{f:FuncId}{args:PW}{H:Hp}{l:PV}{K:PT}
def H5{R:AV->List P8->Prop}(hc:af P f args l R)(h1:fits l H)(h2:aU (fun i=>(ids l).contains i) args=true)(h3:pO (fun i=>(ids l).contains i) l)
  (hk:∀r l',R r l'->fresh (ids l) H l'/\(ids l').Nodup/\K r ⟨H.B,jm H.l l'⟩):cw P f args H K:=fun _ _ hw hv=>
 vt hc (Ai h1) h2 (Ef h3) (fun r l' hR=>⟨we (hk r l' hR).1,(hk r l' hR).2⟩) hw hv
def tN{r0:AV}{l0:PV}(hc:af P f args l fun r l'=>r=r0/\l'=l0)(h1:fits l H)(h2:aU (fun i=>(ids l).contains i) args=true)(h3:pO (fun i=>(ids l).contains i) l)
  (h4:fresh (ids l) H l0) (h5:(ids l0).Nodup) (hk:K r0 ⟨H.B,jm H.l l0⟩):cw P f args H K:=
 H5 hc h1 h2 h3 fun r l' ⟨e1,e2⟩=>by rw[e1,e2];exact⟨h4,h5,hk⟩
def ue{r:AV}(hc:aA P f args r)(h2:aU cV args=true)(hk:K r H):cw P f args H K:=
 tN hc trivial (by simpa[ids]using h2) trivial trivial (by simp[ids]) hk
def ko{args:PW}(hc:aQ P f=true)(h:cw P f args H K):dp P (.raw (.func (.func f) #[] #[])) args H K:=.inl ⟨hc,by simpa using h⟩
def C7{cs:PW}{args:PW}(hc:aQ P f=true)(h:cw P f (args++cs) H K):dp P (.dW f cs) args H K:=.inl ⟨hc,by simpa using h⟩
end
-- things of which D holds are let go of, and may be read from then on
def dq(D:P5):List P8->PV
 |[]=>[]
 |(j,s)::l=>bif D j then dq D l else(j,s)::dq D l
theorem Bc(D:P5):∀(l:PV) (i:Nat),aB (dq D l) i=if D i=true then none else aB l i
 |[],i=>by simp[dq,aB]
 |(k,s)::l,i=>by
  have ih:=Bc D l i;unfold dq;cases hk:D k
  ·simp only[cond_false,aB];split
   ·rename_i h;subst h;rw[hk];simp
   ·exact ih
  ·simp only[cond_true,aB];rw[ih];split
   ·rfl
   ·rename_i h;rw[if_neg];rintro rfl;exact h hk
def NW.ek(w:NW)(D:P5):NW:={ w with O:=fun b=>w.O b/\∀i m t s,D i=true->w.nm i m≠some (.at b t s),nm:=fun j n=>if D j=true then none else w.nm j n }
def df(D:P5):P5:=fun i=>!(D i)
def eL(D:P5):List P8->Prop
 |[]=>True
 |(j,r)::l=>(D j=true\/nq (df D) r)/\eL D l
theorem Bj{D:P5}:∀{l:PV},eL D l->∀{i:Nat} {r:Row},aB l i=some r->D i=false->aU (df D) r.cells=true
 |[],_,i,r,h,_=>by cases h
 |(j,s)::l,hf,i,r,h,hd=>by
  simp only[aB]at h;split at h
  ·rename_i e;subst e;cases h;rcases hf.1 with h|h
   ·rw[hd]at h;cases h
   ·exact Gv h
  ·exact Bj hf.2 h hd
def o4(w:NW)(D:P5):Keep (df D) w (w.ek D):=⟨Nat.le_refl _,fun b _ h=>⟨rfl,fun h'=>h h'.1⟩,fun j n z hq h=>by show(if D j=true then none else w.nm j n)=_;rw[if_neg (by unfold df at hq;intro e;rw[e]at hq;cases hq)];exact h⟩
variable{D:P5}
def E9{w:NW}(r:aN w H)(hB:H.B.all (df D)=true)(hl:eL D H.l):aN (w.ek D) ⟨H.B,dq D H.l⟩/\eK w H (w.ek D) ⟨H.B,dq D H.l⟩:=by
 have QP:∀j n,(w.ek D).nm j n=if D j=true then none else w.nm j n:=fun _ _=>rfl
 have gE:∀j,(Hp.mk H.B (dq D H.l)).get j=if D j=true then none else H.get j:=fun j=>Bc D H.l j
 refine⟨{ rows:=fun j s hj=>?_,dS:=fun j n z hz=>?_,inj:=fun j n j' n' b t s t' s' h1 h2=>?_,own:=fun j n b t s h=>?_,fin:=fun b hb=>r.fin b hb.1,ci:=r.ci.bS (o4 w D) },{ o4 w D with names:=fun j n z hq h=>?_,os:=rfl,tape:=rfl,output:=rfl,rest:=fun b hb hO Qe=>⟨rfl,⟨hO,fun i m t s _=>Qe _ _ _ _⟩,fun j n t s h=>?_⟩,base:=rfl }⟩
 ·rw[gE]at hj;split at hj
  ·cases hj
  ·rename_i e;obtain⟨h1,z,h2,h3⟩:=r.rows j s hj;refine⟨h1,z,by rw[QP,if_neg e];exact h2,?_⟩;cases z with
   |nil=>exact h3
   |«at» b t st=> obtain⟨g1,cur,g2,g3,g5⟩:=h3;exact⟨g1,cur,g2,g3,fun k a v ha hv=>(g5 k a v ha hv).bS (o4 w D) (lA (Bj hl hj (by simpa using e)) ha)⟩
 ·rw[QP]at hz;split at hz
  ·cases hz
  ·rename_i e;obtain⟨r',h1,h2⟩:=r.dS j n z hz;exact⟨r',by rw[gE,if_neg e];exact h1,h2⟩
 ·rw[QP]at h1 h2;split at h1
  ·cases h1
  ·split at h2
   ·cases h2
   ·exact r.inj _ _ _ _ _ _ _ _ _ h1 h2
 ·rw[QP]at h;split at h
  ·cases h
  ·rename_i e;exact⟨r.own _ _ _ _ _ h,fun i m t' s' hd h'=>e (by rw[r.inj _ _ _ _ _ _ _ _ _ h h'];exact hd)⟩
 ·have hq:H.B.contains j=true:=hq;have:=List.all_eq_true.1 hB j (List.contains_iff_mem.1 hq);rw[QP,if_neg (by intro e;unfold df at this;rw[e]at this;cases this)];exact h
 ·rw[QP]at h;split at h
  ·cases h
  ·exact Qe _ _ _ _ h
inductive db(D:Nat->Bool)(H:Hp):AV->AV->Prop
 |same (a:AV) (h:a.all (df D)=true):db D H a a
 |drop (a:AV):db D H a .any
 |nil (sz:Nat) (d:List AV):db D H (.raw (.slice none 0 0)) (.sl false sz [] d)
 |lit (x:Bool) (sz:Nat) (css:List (List AV)) (d d':List AV):db D H (.sl x sz css d) (.sl false sz css d')
 |agg (cs ds:List AV) (hl:cs.length=ds.length) (h:∀(i:Nat) c d,cs[i]?=some c->ds[i]?=some d->db D H c d):db D H (.agg cs) (.agg ds)
 |bt (cs ds:List AV) (hl:cs.length=ds.length) (h:∀(i:Nat) c d,cs[i]?=some c->ds[i]?=some d->db D H c d):db D H (.bt cs) (.bt ds)
 |uv (dd:List AV) (i sz m n:Nat) (e:TypeId) (css:List (List AV)) (dss:List (List AV)) (hD:D i=true) (hi:H.get i=some (.aG e sz css)) (hm:m=css.length) (hn:n<=m) (hd:dss.length=n) (RX:∀ds∈dss,ds.length=sz) (Qe:QL cV dss)
   (h:∀k (j:Nat) c d,k<n->(css.getD k [])[j]?=some c->(dss.getD k [])[j]?=some d->db D H c d):db D H (.rs i m sz n) (.sl false sz dss dd)
 |pt (i k j:Nat) (t:TypeId) (cs ds:List AV) (hD:D i=true) (hi:H.get i=some (.var t cs)) (hl:(cs.drop j).length=ds.length) (Qe:aU cV ds=true) (h:∀(q:Nat) c d,(cs.drop j)[q]?=some c->ds[q]?=some d->db D H c d):db D H (.pt i 0 k j) (.ip ds)
def db.sound{w:NW}(hw:aN w H){a:AV}(h:db D H a a'):∀{v:Value},az w a v->az (w.ek D) a' v:=by
 induction h with
 |same a h=>intro v hv;exact hv.bS (o4 w D) h
 |drop a=>intro v hv;exact .any v
 |nil sz d=>intro v hv;have:=di hv;subst this;exact .gF _ _ _ _ (fun e=>by cases e)
 |lit x sz css d d'=>
  intro v hv;have Qm:=hv.bS (o4 w D) (by simp only[AV.all]);cases Qm with
  |gF _ _ A c _=>exact .gF _ _ _ _ (fun e=>by cases e)
  |sl _ _ _ a c vs hn hc hx Qh hb hH I' hr=>exact .sl _ _ _ a c vs hn hc (fun e=>by cases e) Qh hb hH I' hr
 |agg cs ds hl _ ih=>
  intro v hv;cases hv with
  |agg _ vs Rb hr=>
   refine .agg ds vs jB fun i d v hd hv=>?_
   have hi:i<cs.length:=by rw[hl];exact(List.getElem?_eq_some_iff.1 hd).1
   have hc:cs[i]?=some cs[i]:=List.getElem?_eq_getElem hi;exact ih i _ d hc hd (hr i _ v hc hv)
 |bt cs ds hl _ ih=>
  intro v hv;cases hv with
  |bt _ vs Rb hr=>
   refine .bt ds vs jB fun i d v hd hv=>?_
   have hi:i<cs.length:=by rw[hl];exact(List.getElem?_eq_some_iff.1 hd).1
   have hc:cs[i]?=some cs[i]:=List.getElem?_eq_getElem hi;exact ih i _ d hc hd (hr i _ v hc hv)
 |uv dd i sz m n e css dss hD hi hm hn hd RX Qe _ ih=>
  intro v hv;subst hm;cases hv with
  |kH _ _ _ A Qx=> have:dss=[]:=List.length_eq_zero_iff.1 jB;rw[this];exact .gF _ _ _ _ (fun h=>by cases h)
  |rs _ _ _ _ b t c Qx hc P' RH=>
   by_cases h0:n=0
   ·have:dss=[]:=List.length_eq_zero_iff.1 jB;rw[this,h0];exact .gF _ _ _ _ (fun h=>by cases h)
   ·have hsz0:0<sz:=RH;have:=az.sl (w:=w.ek D) (d:=dd) false sz dss ⟨b,0,none⟩ c (fun k=>(w.cell? ⟨b,k,none⟩).getD undef) jB jB (fun h=>by cases h) RX (hw.lt Qx) (fun h=>h.2 i _ t sz hD Qx) (fun k j hk hj=>by
     obtain⟨_,_,_,v,h1,h2⟩:=vv hw hi Qx (k:=k) (j:=j) jB hj;show w.cell? _=_;rw[lg,Nat.zero_add,h1];rfl) (fun k j u hk hu=>by
     have hj:j<sz:=by have:=(List.getElem?_eq_some_iff.1 hu).1;rwa [tx RX hk]at this
     obtain⟨_,Qp,_,v,h1,h2⟩:=vv hw hi Qx (k:=k) (j:=j) jB hj;have Xm:=tx Qp (show k<css.length from jB);have hc:(css.getD k [])[j]?=some ((css.getD k [])[j]' jB):=List.getElem?_eq_getElem jB;rw[h1];have QW:dss.getD k []∈dss:=by
      have:dss.getD k []=dss[k]:=by simp[hk]
      rw[this];exact List.getElem_mem _
     exact(ih k j _ u jB hc hu (h2 _ hc)).kV (lA (Qe _ QW) hu))
    rw[hd]at this;exact this
 |pt i k j t cs ds hD hi hl Qe _ ih=>
  intro v hv;cases hv with
  |pt _ _ _ _ b t' s Qx=>
   obtain⟨hok,z,hz,Qw⟩:=hw.rows i _ hi;have:z=.at b t' s:=by have hz:w.nm i 0=some z:=hz;rw[Qx]at hz;cases hz;rfl
   subst this;obtain⟨rfl,cur,hh,⟨hs,P'⟩,hr⟩:=Qw;have RH:(Row.var t cs).bB=0:=rfl;have P':cs.length<=t':=P';have e0:k*(Row.var t cs).bB+j=j:=by rw[RH];omega
   rw[e0];refine .ip ds ⟨b,j,none⟩ (fun q=>cur.getD (j+q) undef) (hw.lt Qx) (fun h=>h.2 i 0 _ _ hD Qx) (fun q hq=>?_) (fun q u hu=>?_)
   ·show w.cell? _=_;simp only[List.length_drop]at hl;have:j+q<cur.size:=jB;rw[lg,sd b _ cur _ (0,0) hh];simp[this]
   ·have Vb:q<(cs.drop j).length:=by rw[hl];exact(List.getElem?_eq_some_iff.1 hu).1
    have hc:(cs.drop j)[q]?=some (cs.drop j)[q]:=List.getElem?_eq_getElem Vb;simp only[List.length_drop]at Vb;have:j+q<cur.size:=jB;refine(ih q _ u hc hu (hr (j+q) _ _ (by rw[<-List.getElem?_drop];exact hc) ?_)).kV (lA Qe hu);simp[this]
theorem db.rs{D:P5}{H:Hp}(dd:PW)(i sz n:Nat)(e:P1)(css:PU)(dss:PU)(hD:D i=true)(hi:H.get i=some (.aG e sz css))(hn:n=css.length)(hd:dss.length=css.length)(RX:∀ds∈dss,ds.length=sz)(Qe:QL cV dss)
  (h:∀k (j:Nat) c d,k<css.length->(css.getD k [])[j]?=some c->(dss.getD k [])[j]?=some d->db D H c d):db D H (.rs i n sz n) (.sl false sz dss dd):=
 .uv dd i sz n n e css dss hD hi hn jl jB RX Qe fun k j c d hk=>h k j c d jB
def db.row{dd:PW}{i:Nat}{e:P1}{enc:α->PW}[he:cu enc sz](l:List α)(hD:D i=true)(hi:H.get i=some (.aG e sz (l.map enc)))(hn:n=l.length):db D H (.rs i n sz n) (.sl false sz (l.map enc) dd):=
 .rs dd i sz n e _ _ hD hi (by simpa using hn) rfl (fun ds RX=>by obtain⟨x,_,rfl⟩:=List.mem_map.1 RX;exact he.len x) (iW l) fun k j c d hk h1 h2=>by
  rw[h1]at h2;cases h2;have O':k<l.length:=by simpa using hk
  have e1:(l.map enc).getD k []=enc l[k]:=by simp[O']
  rw[e1]at h1;exact .same c (pF (fun _ h=>by cases h) _ (lA (he.free _) h1))
def hJ.free{r r':AV}(D:P5)(hB:H.B.all (df D)=true)(hl:eL D H.l)(hv:db D H r r'):hJ r H r' ⟨H.B,dq D H.l⟩:=fun w v h1 h2=>by obtain⟨a,b⟩:=E9 h1 hB hl;exact⟨w.ek D,rfl,a,hv.sound h1 h2,b⟩
def bc(D:P5)(H:Hp):PW->PW->Prop
 |[],[]=>True
 |a::l,b::m=>db D H a b/\bc D H l m
 |_,_=>False
theorem bc.get{D:P5}{H:Hp}:∀{l m:PW},bc D H l m->l.length=m.length/\∀(i:Nat) a b,l[i]?=some a->m[i]?=some b->db D H a b
 |[],[],_=>⟨rfl,fun i a b h=>by simp at h⟩
 |x::l,y::m,h=>by
  have ih:=bc.get h.2;refine⟨by simp[ih.1],fun i a b ha hb=>?_⟩;cases i with
  |zero=>simp at ha hb;subst ha hb;exact h.1
  |succ i=>exact ih.2 i a b (by simpa using ha) (by simpa using hb)
theorem bc.agg{D:P5}{H:Hp}{cs ds:PW}(h:bc D H cs ds):db D H (.agg cs) (.agg ds):=.agg cs ds h.get.1 h.get.2
theorem bc.bt{D:P5}{H:Hp}{cs ds:PW}(h:bc D H cs ds):db D H (.bt cs) (.bt ds):=.bt cs ds h.get.1 h.get.2
theorem bc.pt{D:P5}{H:Hp}{i k j:Nat}{t:P1}{cs ds:PW}(hD:D i=true)(hi:H.get i=some (.var t cs))(Qe:aU cV ds=true)(h:bc D H (cs.drop j) ds):db D H (.pt i 0 k j) (.ip ds):=.pt i k j t cs ds hD hi h.get.1 Qe h.get.2
def cY.free{F F':PW}(D:P5)(hB:H.B.all (df D)=true)(hl:eL D H.l)(hv:bc D H F F'):cY F H F' ⟨H.B,dq D H.l⟩:=fun w tm h1 h2=>by
 obtain⟨a,b⟩:=E9 h1 hB hl;obtain⟨Rb,hg⟩:=hv.get;refine⟨w.ek D,rfl,a,⟨by rw[<-Rb];exact h2.1,fun i c v hc hv=>?_⟩,b⟩;have hi:i<F.length:=by rw[Rb];exact(List.getElem?_eq_some_iff.1 hc).1
 exact(hg i F[i] c (List.getElem?_eq_getElem hi) hc).sound h1 (h2.2 i _ v (List.getElem?_eq_getElem hi) hv)
-- what is lent: a function that is UZ nothing of one's own but to read
mutual
def AV.flat:AV->Bool
 |.raw _=>true
 |.any=>true
 |.agg cs=>r8 cs
 |.bt cs=>r8 cs
 |.gd _ v=>v.flat
 |_=>false
def r8:PW->Bool
 |[]=>true
 |a::l=>a.flat && r8 l
end
theorem y9:∀{l:PW},r8 l=true->∀{i:Nat} {a:AV},l[i]?=some a->a.flat=true
 |[],_,i,a,h=>by simp at h
 |x::l,hl,i,a,h=>by
  simp only[r8,Bool.and_eq_true]at hl;cases i with
  |zero=>simp at h;subst h;exact hl.1
  |succ i=>exact y9 hl.2 (by simpa using h)
theorem az.flat{w:NW}{a:AV}{v:Value}(h:az w a v):∀{w':NW},a.flat=true->az w' a v:=by
 induction h with
 |raw v=>intro w' _;exact .raw v
 |any v=>intro w' _;exact .any v
 |agg cs vs hl _ ih=>intro w' ha;simp only[AV.flat]at ha;exact .agg cs vs hl fun i a v h1 h2=>ih i a v h1 h2 (y9 ha h1)
 |bt cs vs hl _ ih=>intro w' ha;simp only[AV.flat]at ha;exact .bt cs vs hl fun i a v h1 h2=>ih i a v h1 h2 (y9 ha h1)
 |gd p a v _ hu ih=>intro w' ha;exact .gd p a v (fun hp=>ih hp (by simpa only[AV.flat]using ha)) hu
 |gF=>intro w' ha;simp only[AV.flat]at ha;cases ha
 |sl=>intro w' ha;simp only[AV.flat]at ha;cases ha
 |ip=>intro w' ha;simp only[AV.flat]at ha;cases ha
 |dW=>intro w' ha;simp only[AV.flat]at ha;cases ha
 |pt=>intro w' ha;simp only[AV.flat]at ha;cases ha
 |kH=>intro w' ha;simp only[AV.flat]at ha;cases ha
 |rs=>intro w' ha;simp only[AV.flat]at ha;cases ha
 |ny=>intro w' ha;simp only[AV.flat]at ha;cases ha
 |rv=>intro w' ha;simp only[AV.flat]at ha;cases ha
 |mr=>intro w' ha;simp only[AV.flat]at ha;cases ha
 |bd=>intro w' ha;simp only[AV.flat]at ha;cases ha
 |iz=>intro w' ha;simp only[AV.flat]at ha;cases ha
 |mv=>intro w' ha;simp only[AV.flat]at ha;cases ha
variable{P:P6}{f:FuncId}{H:Hp}{K:PT}{r:AV}
def Cm{args args':PW}(hc:aA P f args' r)(hv:bc (fun _=>true) H args args')(hr:r.flat=true)(hk:K r H):cw P f args H K:=fun w vs h1 h2=>by
 obtain⟨Rb,hg⟩:=hv.get;have Xd:aN (w.ek fun _=>true) (entry []):={
  rows:=fun i r h=>by cases h
  dS:=fun i m z h=>by cases h
  inj:=fun i m j n b t s t' s' h _=>by cases h
  own:=fun i m b t s h=>by cases h
  fin:=fun b hb=>h1.fin b hb.1
  ci:=h1.ci.bS (o4 w fun _=>true) }
 refine(hc (w.ek fun _=>true) vs Xd ⟨by rw[<-Rb];exact h2.1,fun i c v hc hv=>?_⟩).mono ?_
 ·have hi:i<args.length:=by rw[Rb];exact(List.getElem?_eq_some_iff.1 hc).1
  exact(hg i args[i] c (List.getElem?_eq_getElem hi) hc).sound h1 (h2.2 i _ v (List.getElem?_eq_getElem hi) hv)
 ·rintro e W ⟨v,r',H',w',rfl,rfl,⟨rfl,_⟩,g1,g2,g3⟩;have SF:∀b,b<w.heap.size->w'.heap[b]?=w.heap[b]?:=fun b hb=>by
   classical
   by_cases hO:(w.ek fun _=>true).O b
   ·exact(g3.rest b hb hO fun i m t s h=>by cases h).1
   ·exact(g3.free b hb hO).1
  have ex:Ext w H (w.to w'.toWorld) H:={
   size:=g3.size
   free:=fun b hb hO=>⟨SF b hb,hO⟩
   names:=fun _ _ _ _ h=>h
   os:=g3.os,tape:=g3.tape,output:=g3.output
   rest:=fun b hb hO Qe=>⟨SF b hb,hO,Qe⟩
   base:=rfl }
  refine⟨v,r',H,w.to w'.toWorld,rfl,rfl,hk,{ rows:=fun i s hi=>?_,dS:=h1.dS,inj:=h1.inj,own:=h1.own,fin:=fun b hb=>Nat.lt_of_lt_of_le (h1.fin b hb) g3.size,ci:=h1.ci.bS ex.toKeep },g2.flat hr,ex⟩;obtain⟨e1,z,e2,e3⟩:=h1.rows i s hi;refine⟨e1,z,e2,e3.ext ex fun b t s e=>?_⟩;subst e;exact SF b (h1.lt e2)
-- a slot that holds nothing yet, as a row of one's own without elements
theorem cY.nil{F:PW}{H:Hp}(i slot:Nat)(e:P1){sz:Nat}(hi:H.get i=none)(h0:0<sz)(hs:F[slot]?=some (.raw (.slice none 0 0))\/∃x s d,F[slot]?=some (.sl true s x d)/\x=[]):cY F H (F.set slot (.rs i 0 sz 0)) (H.put i (.aG e sz [])):=fun w tm h1 h2=>by
 obtain⟨a,b⟩:=wR h1 hi e h0;refine⟨w.name i 0 .nil,rfl,a,⟨by rw[List.length_set];exact h2.1,fun k c v hc hv=>?_⟩,b.pm⟩;rw[List.getElem?_set]at hc;by_cases hk:slot=k
 ·subst hk;rw[if_pos rfl]at hc;split at hc
  ·cases hc;have Qm:∃A,v=.slice A 0 0:=by
    rcases hs with hs|⟨x,s,d,hs,rfl⟩
    ·exact⟨none,by have:=h2.2 slot _ v hs hv;cases this;rfl⟩
    ·have:=h2.2 slot _ v hs hv;cases this with
     |gF _ _ A c hx=>have:=hx rfl;subst this;exact⟨A,rfl⟩
     |sl _ _ _ _ _ _ hn=>simp at hn
   obtain⟨A,rfl⟩:=Qm;exact .kH _ _ _ _ (NW.cd _ _ _ _)
  ·cases hc
 ·rw[if_neg hk]at hc;exact(h2.2 k c v hc hv).ext b
def nth{α:Type}[Inhabited α](l:List α)(i:Nat):α:=l.getD i default
variable{α:Type}{i:Nat}
def gD[Inhabited α]{l:List α}(h:i<l.length):nth l i=l[i]:=by simp[nth,h]
def qF[Inhabited α]{l:List α}(h:i<l.length):l.take (i+1)=l.take i++[nth l i]:=by rw[gD h,List.take_succ_eq_append_getElem h]
@[reducible] def ax{α:Type}[Inhabited α](enc:α->PW)(sz:Nat)(l:List α):AV:=.sl false sz (l.map enc) (enc default)
@[go_sem] def jwW:(∀(next:PS) (Q:Exit->PS) (F:PW) (H:Hp),rL next Q .normal F H=next F H)/\(∀(next:PS) (Q:Exit->PS) (F:PW) (H:Hp),rL next Q .ret F H=Q .ret F H)/\(∀(next:PS) (Q:Exit->PS) (id:Nat) (F:PW) (H:Hp),rL next Q (.exit id) F H=Q (.exit id) F H)/\(∀(id:Nat) (Q:Exit->PS) (F:PW) (H:Hp),oS id Q .normal F H=Q .normal F H)/\(∀(id:Nat) (Q:Exit->PS) (F:PW) (H:Hp),oS id Q .ret F H=Q .ret F H):=by and_intros<;>(intros;rfl)
@[go_sem] def jxX(id:Nat)(Q:Exit->PS)(F:PW)(H:Hp):oS id Q (.exit id) F H=Q .normal F H:=by simp[oS]
def AP(K:PT)(_:fz K):PT:=K
def tu(K:AV->Prop)(_:fz K):AV->Prop:=K
@[go_sem] def j3O:(∀(K:PT) (d:fz K) (r:AV) (H:Hp),AP K d r H=K r H)/\(∀(K:AV->Prop) (d:fz K) (r:AV),tu K d r=K r):=by and_intros<;>(intros;rfl)
def J0{d:fz K}(h:K r H):AP K d r H:=h
def pu(o:Option Bool)(A:Bool->Prop)(_:fz A):Prop:=match o with
 |some b=>A b
 |none=>False
@[go_sem] def jzL(b:Bool)(A:Bool->Prop)(d:fz A):pu (some b) A d=A b:=(rfl)
def ng(q:Bool)(A B:Prop)(_:fz A)(_:fz B):Prop:=if q=true then A else B
@[go_sem] def j4K:(∀(A B:Prop) (d:fz A) (e:fz B),ng true A B d e=A)/\(∀(A B:Prop) (d:fz A) (e:fz B),ng false A B d e=B)/\(∀{P:P6} {ops:Array Oper} {K:PS} (F:PW) (H:Hp),jT P ops K [] F H=K F H):=by and_intros<;>(intros;rfl)
variable{ops:Array Oper}{K:PS}
@[go_sem] def j43(dst:Option Tmp)(op:Op)(ty:P1)(pos:String)(after:Array Edge)(rest:List Oper)(F:PW)(H:Hp) :
  jT P ops K (⟨dst,op,ty,pos,after,none⟩::rest) F H=vc P (bw F) H ty (AP (fun r H'=>jT P ops K rest (bO F dst r) H') .mk) op:=(rfl)
@[go_sem] def j3D(dst:Option Tmp)(op:Op)(ty:P1)(pos:String)(after:Array Edge)(j:Nat)(want:Bool)(rest:List Oper)(F:PW)(H:Hp) :
  jT P ops K (⟨dst,op,ty,pos,after,some (j,want)⟩::rest) F H=pu (jV ops F j want) (fun b=>ng (fV op || fN op) (dR P F H b (tu (fun r=>jT P ops K rest (bO F dst r) H) .mk) op)
    ((b=true->vc P (bw F) H ty (AP (fun r H'=>jT P ops K rest (bO F dst r) H') .mk) op)/\(b=false->jT P ops K rest (bO F dst .any) H)) .mk .mk) .mk:=by
 unfold pu ng;rfl
@[go_sem] def j09(a:Nat):((a:Int)+1).toNat=a+1:=jB
@[go_sem] def j1a(a:Nat):((a:Int)-1).toNat=a-1:=jB
attribute [go_sem] Int.cast_ofNat_Int
def qc{n:Int}(h:-9223372036854775808<=n/\n<=9223372036854775807):IntKind.i64.wrap n=n:=by have h1:(2:Int) ^ 64=18446744073709551616:=jC;have h2:(2:Int) ^ (64-1)=9223372036854775808:=jC;simp only[IntKind.wrap,IntKind.bits,IntKind.signed,Bool.true_and,h1,h2,decide_eq_true_eq];split<;>omega
variable{fn:Func}{F:PW}
def Kw{c:Code}{args:PW}(hf:P.funcs[f]?=some fn)(hb:fn.body=some c)(hF:args++List.replicate (fn.ntmps-args.length) .any=F)
  (h:cz P c (hU P fn fun r' l'=>r'=r/\l'=[]) F ⟨[],[]⟩):aA P f args r:=A9 hf hb (by rw[hF];exact h)
variable{l:PV}{R:AV->List P8->Prop}
def Lh{c:Code}{args:PW}(hf:P.funcs[f]?=some fn)(hb:fn.body=some c)(hF:args++List.replicate (fn.ntmps-args.length) .any=F){L:PZ}(hL:ids l=L)
  (h:cz P c (hU P fn R) F ⟨L,l⟩):af P f args l R:=A9 hf hb (by rw[hF];subst hL;exact h)
section
variable {P:P6}{ev:P2}{H:Hp}{ty:P1}{K:PT}
@[go_sem] def j6B(x:Operand):vc P ev H ty K (.move x)=K (ev x) H:=by simp[vc,cP,vq]
@[go_sem] def j3w(x:Operand):vc P ev H ty K (.assign x)=K (ev x) H:=by simp[vc,cP,vq]
@[go_sem] def j6C(c a b:Operand):vc P ev H ty K (.pick c a b)=((jY (ev c) (ev a) (ev b)).1/\K (jY (ev c) (ev a) (ev b)).2 H):=by simp[vc,cP,vq]
@[go_sem] def jzU(x:Operand):vc P ev H ty K (.nilCheck x)=((l4 P (ev x)).1/\K (l4 P (ev x)).2 H):=by simp[vc,cP,vq]
@[go_sem] def j6D(op:UnOp)(t:P1)(x:Operand):vc P ev H ty K (.unOp op t x)=((nO op (ev x)).1/\K (nO op (ev x)).2 H):=by simp[vc,cP,vq]
@[go_sem] def j6A(t:P1)(x:Operand):vc P ev H ty K (.load t x)=((kL P H t (ev x)).1/\K (kL P H t (ev x)).2 H):=by simp[vc,cP,vq]
@[go_sem] def jxM(t:P1)(x:Operand)(f:Nat):vc P ev H ty K (.fieldAddr t x f)=((mK P t (ev x) f).1/\K (mK P t (ev x) f).2 H):=by simp[vc,cP,vq]
@[go_sem] def j4V(t:P1)(x:Operand)(f:Nat):vc P ev H ty K (.field t x f)=((nP P t (ev x) f).1/\K (nP P t (ev x) f).2 H):=by simp[vc,cP,vq]
@[go_sem] def jxN(t:P1)(x i:Operand):vc P ev H ty K (.indexAddr t x i)=((mJ P t (ev x) (ev i)).1/\K (mJ P t (ev x) (ev i)).2 H):=by simp[vc,cP,vq]
@[go_sem] def j4W(t:P1)(x i:Operand):vc P ev H ty K (.index t x i)=((nR P t (ev x) (ev i)).1/\K (nR P t (ev x) (ev i)).2 H):=by simp[vc,cP,vq]
@[go_sem] def j1i(x:Operand)(i:Nat):vc P ev H ty K (.extract x i)=((pG (ev x) i).1/\K (pG (ev x) i).2 H):=by simp[vc,cP,vq]
@[go_sem] def j4X(t:P1)(a:Operand)(lo hi mx:Option Operand):vc P ev H ty K (.slice t a lo hi mx)=((nE P t (ev a) (lo.map ev) (hi.map ev) (mx.map ev)).1/\K (nE P t (ev a) (lo.map ev) (hi.map ev) (mx.map ev)).2 H):=by simp[vc,cP,vq]
@[go_sem] def jzT(fn:Fn)(a b:Array Operand):vc P ev H ty K (.makeFunc fn a b)=((po fn (a.toList.map ev) (b.toList.map ev)).1/\K (po fn (a.toList.map ev) (b.toList.map ev)).2 H):=by simp[vc,cP,vq]
@[go_sem] def jxO(t:P1)(x:Operand):vc P ev H ty K (.makeInterface t x)=((pT P t (ev x)).1/\K (pT P t (ev x)).2 H):=by simp[vc,cP,vq]
@[go_sem] def j1h(s d:P1)(x:Operand):vc P ev H ty K (.convert s d x)=((pw P s d (ev x)).1/\K (pw P s d (ev x)).2 H):=by simp[vc,cP,vq]
@[go_sem] def j4U(t:P1)(ps:Array (Nat×Operand)):vc P ev H ty K (.build t ps)=((o8 P t (ps.toList.map fun p=>(p.1,ev p.2))).1/\K (o8 P t (ps.toList.map fun p=>(p.1,ev p.2))).2 H):=by simp[vc,cP,vq]
@[go_sem] def j9F(as:Array Operand)(ts:Array P1):vc P ev H ty K (.call ⟨.builtin .len,as,ts⟩)=((jU P H .len ts.toList (as.toList.map ev)).1/\K (jU P H .len ts.toList (as.toList.map ev)).2 H):=by simp[vc,cP,vq]
@[go_sem] def j9I(as:Array Operand)(ts:Array P1):vc P ev H ty K (.call ⟨.builtin .max,as,ts⟩)=((jU P H .max ts.toList (as.toList.map ev)).1/\K (jU P H .max ts.toList (as.toList.map ev)).2 H):=by simp[vc,cP,vq]
@[go_sem] def j9J(as:Array Operand)(ts:Array P1):vc P ev H ty K (.call ⟨.builtin .min,as,ts⟩)=((jU P H .min ts.toList (as.toList.map ev)).1/\K (jU P H .min ts.toList (as.toList.map ev)).2 H):=by simp[vc,cP,vq]
@[go_sem] def j9A(t:P1)(x y:Operand)(t':P1):vc P ev H ty K (.binOp .add t x y t')=((dX P .add t (ev x) (ev y)).1/\K (dX P .add t (ev x) (ev y)).2 H):=by simp[vc,cP,vq]
@[go_sem] def j9O(t:P1)(x y:Operand)(t':P1):vc P ev H ty K (.binOp .sub t x y t')=((dX P .sub t (ev x) (ev y)).1/\K (dX P .sub t (ev x) (ev y)).2 H):=by simp[vc,cP,vq]
@[go_sem] def j9K(t:P1)(x y:Operand)(t':P1):vc P ev H ty K (.binOp .mul t x y t')=((dX P .mul t (ev x) (ev y)).1/\K (dX P .mul t (ev x) (ev y)).2 H):=by simp[vc,cP,vq]
@[go_sem] def j9M(t:P1)(x y:Operand)(t':P1):vc P ev H ty K (.binOp .quo t x y t')=((dX P .quo t (ev x) (ev y)).1/\K (dX P .quo t (ev x) (ev y)).2 H):=by simp[vc,cP,vq]
@[go_sem] def j9N(t:P1)(x y:Operand)(t':P1):vc P ev H ty K (.binOp .rem t x y t')=((dX P .rem t (ev x) (ev y)).1/\K (dX P .rem t (ev x) (ev y)).2 H):=by simp[vc,cP,vq]
@[go_sem] def j9P(t:P1)(x y:Operand)(t':P1):vc P ev H ty K (.binOp .xor t x y t')=((dX P .xor t (ev x) (ev y)).1/\K (dX P .xor t (ev x) (ev y)).2 H):=by simp[vc,cP,vq]
@[go_sem] def j9H(t:P1)(x y:Operand)(t':P1):vc P ev H ty K (.binOp .lss t x y t')=((dX P .lss t (ev x) (ev y)).1/\K (dX P .lss t (ev x) (ev y)).2 H):=by simp[vc,cP,vq]
@[go_sem] def j9G(t:P1)(x y:Operand)(t':P1):vc P ev H ty K (.binOp .leq t x y t')=((dX P .leq t (ev x) (ev y)).1/\K (dX P .leq t (ev x) (ev y)).2 H):=by simp[vc,cP,vq]
@[go_sem] def j9E(t:P1)(x y:Operand)(t':P1):vc P ev H ty K (.binOp .gtr t x y t')=((dX P .gtr t (ev x) (ev y)).1/\K (dX P .gtr t (ev x) (ev y)).2 H):=by simp[vc,cP,vq]
@[go_sem] def j9D(t:P1)(x y:Operand)(t':P1):vc P ev H ty K (.binOp .geq t x y t')=((dX P .geq t (ev x) (ev y)).1/\K (dX P .geq t (ev x) (ev y)).2 H):=by simp[vc,cP,vq]
@[go_sem] def j9C:(∀(t:P1) (x y:Operand) (t':P1),vc P ev H ty K (.binOp .eql t x y t')=ns P false t (ev x) (ev y) H K)/\(∀(t:P1) (x y:Operand) (t':P1),vc P ev H ty K (.binOp .neq t x y t')=ns P true t (ev x) (ev y) H K)/\(∀(t:P1) (x:Operand),vc P ev H ty K (.box t x)=pN H t (ev x) K)/\(∀(t:P1),vc P ev H ty K (.alloc t)=ll P H t K)/\(∀(t:P1) (a x:Operand),vc P ev H ty K (.store t a x)=qa P H t (ev a) (ev x) K)/\(∀(t:P1) (n:Nat) (ps:Array (Nat×Operand)),vc P ev H ty K (.buildSlice t n ps)=lu P H t n (ps.toList.map fun p=>(p.1,ev p.2)) K)/\(∀(f:Operand) (as:Array Operand) (ts:Array P1),vc P ev H ty K (.call ⟨.value f,as,ts⟩)=dp P (ev f) (as.toList.map ev) H K)/\(∀(f:Operand) (m:String) (as:Array Operand) (ts:Array P1),vc P ev H ty K (.call ⟨.invoke f m,as,ts⟩)=nk P (ev f) m (as.toList.map ev) H K):=by and_intros<;>(intros;rfl)
@[go_sem] def jzM(t:P1)(v:AV)(m:String)(args:PW):nk P (.iz t v) m args H K=match mf P t m with|some f=>dp P (.raw (.func (.func f) #[] #[])) (v::args) H K|none=>False:=(rfl)
@[go_sem] def j3v(t:P1)(a x:Operand):vc P ev H ty K (.call ⟨.builtin .append,#[a,x],#[t,t]⟩)=pn P t t (ev a) (ev x) H K:=by simp[vc]
@[go_sem] def Nv(as:Array Operand)(ts:Array P1):vc P ev H ty K (.call ⟨.builtin .copy,as,ts⟩)=pk P .copy ts.toList (as.toList.map ev) H K:=by simp[vc,cP]
end
section
variable {P:P6}{F:PW}{H:Hp}{g:Bool}{K:AV->Prop}
@[go_sem] def j6I(c a b:Operand):dR P F H g K (.pick c a b)=((g=true->(jk (bw F c)).1=true/\(jY (bA F c) (bw F a) (bw F b)).1)/\K (.gd g (jY (bA F c) (bw F a) (bw F b)).2)):=(rfl)
@[go_sem] def jzY(x:Operand):dR P F H g K (.nilCheck x)=((g=true->eO F (.nilCheck x)=true/\(l4 P (bA F x)).1)/\K (.gd g (l4 P (bA F x)).2)):=by simp[dR,fN,cP,vq]
@[go_sem] def j6J(op:UnOp)(t:P1)(x:Operand):dR P F H g K (.unOp op t x)=((g=true->eO F (.unOp op t x)=true/\(nO op (bA F x)).1)/\K (.gd g (nO op (bA F x)).2)):=by simp[dR,fN,cP,vq]
@[go_sem] def j6G(t:P1)(x:Operand):dR P F H g K (.load t x)=((g=true->eO F (.load t x)=true/\(kL P H t (bA F x)).1)/\K (.gd g (kL P H t (bA F x)).2)):=by simp[dR,fN,cP,vq]
@[go_sem] def jxP(t:P1)(x:Operand)(f:Nat):dR P F H g K (.fieldAddr t x f)=((g=true->eO F (.fieldAddr t x f)=true/\(mK P t (bA F x) f).1)/\K (.gd g (mK P t (bA F x) f).2)):=by simp[dR,fN,cP,vq]
@[go_sem] def jxQ(t:P1)(x i:Operand):dR P F H g K (.indexAddr t x i)=((g=true->eO F (.indexAddr t x i)=true/\(mJ P t (bA F x) (bA F i)).1)/\K (.gd g (mJ P t (bA F x) (bA F i)).2)):=by simp[dR,fN,cP,vq]
@[go_sem] def j44(t:P1)(x i:Operand):dR P F H g K (.index t x i)=((g=true->eO F (.index t x i)=true/\(nR P t (bA F x) (bA F i)).1)/\K (.gd g (nR P t (bA F x) (bA F i)).2)):=by simp[dR,fN,cP,vq]
@[go_sem] def j45(t:P1)(a:Operand)(lo hi mx:Option Operand):dR P F H g K (.slice t a lo hi mx)=((g=true->eO F (.slice t a lo hi mx)=true/\(nE P t (bA F a) (lo.map (bA F)) (hi.map (bA F)) (mx.map (bA F))).1)/\K (.gd g (nE P t (bA F a) (lo.map (bA F)) (hi.map (bA F)) (mx.map (bA F))).2)):=by simp[dR,fN,cP,vq]
@[go_sem] def j9U(as:Array Operand)(ts:Array P1):dR P F H g K (.call ⟨.builtin .len,as,ts⟩)=((g=true->eO F (.call ⟨.builtin .len,as,ts⟩)=true/\(jU P H .len ts.toList (as.toList.map (bA F))).1)/\K (.gd g (jU P H .len ts.toList (as.toList.map (bA F))).2)):=by simp[dR,fN,cP,vq]
@[go_sem] def j9Q(t:P1)(x y:Operand)(t':P1):dR P F H g K (.binOp .add t x y t')=((g=true->eO F (.binOp .add t x y t')=true/\(dX P .add t (bA F x) (bA F y)).1)/\K (.gd g (dX P .add t (bA F x) (bA F y)).2)):=by simp[dR,fN,cP,vq]
@[go_sem] def j9Y(t:P1)(x y:Operand)(t':P1):dR P F H g K (.binOp .sub t x y t')=((g=true->eO F (.binOp .sub t x y t')=true/\(dX P .sub t (bA F x) (bA F y)).1)/\K (.gd g (dX P .sub t (bA F x) (bA F y)).2)):=by simp[dR,fN,cP,vq]
@[go_sem] def j9W(t:P1)(x y:Operand)(t':P1):dR P F H g K (.binOp .lss t x y t')=((g=true->eO F (.binOp .lss t x y t')=true/\(dX P .lss t (bA F x) (bA F y)).1)/\K (.gd g (dX P .lss t (bA F x) (bA F y)).2)):=by simp[dR,fN,cP,vq]
@[go_sem] def j9V(t:P1)(x y:Operand)(t':P1):dR P F H g K (.binOp .leq t x y t')=((g=true->eO F (.binOp .leq t x y t')=true/\(dX P .leq t (bA F x) (bA F y)).1)/\K (.gd g (dX P .leq t (bA F x) (bA F y)).2)):=by simp[dR,fN,cP,vq]
@[go_sem] def j9T(t:P1)(x y:Operand)(t':P1):dR P F H g K (.binOp .gtr t x y t')=((g=true->eO F (.binOp .gtr t x y t')=true/\(dX P .gtr t (bA F x) (bA F y)).1)/\K (.gd g (dX P .gtr t (bA F x) (bA F y)).2)):=by simp[dR,fN,cP,vq]
@[go_sem] def j9S(t:P1)(x y:Operand)(t':P1):dR P F H g K (.binOp .geq t x y t')=((g=true->eO F (.binOp .geq t x y t')=true/\(dX P .geq t (bA F x) (bA F y)).1)/\K (.gd g (dX P .geq t (bA F x) (bA F y)).2)):=by simp[dR,fN,cP,vq]
@[go_sem] def j6H(x:Operand):dR P F H g K (.move x)=((g=true->eO F (.move x)=true)/\K (.gd g (bA F x))):=by simp[dR,fN,cP,vq]
@[go_sem] def j9R(t:P1)(x y:Operand)(t':P1):dR P F H g K (.binOp .eql t x y t')=((g=true->eO F (.binOp .eql t x y t')=true/\(dX P .eql t (bA F x) (bA F y)).1)/\K (.gd g (dX P .eql t (bA F x) (bA F y)).2)):=by simp[dR,fN,vq]
@[go_sem] def j9X(t:P1)(x y:Operand)(t':P1):dR P F H g K (.binOp .neq t x y t')=((g=true->eO F (.binOp .neq t x y t')=true/\(dX P .neq t (bA F x) (bA F y)).1)/\K (.gd g (dX P .neq t (bA F x) (bA F y)).2)):=by simp[dR,fN,vq]
@[go_sem] def j3E:(∀(f:Operand) (m:String) (as:Array Operand) (ts:Array P1),dR P F H g K (.call ⟨.invoke f m,as,ts⟩)=∃r,(g=true->eO F (.call ⟨.invoke f m,as,ts⟩)=true/\nk P (bA F f) m (as.toList.map (bA F)) H fun r' H'=>r'=r/\H'=H)/\K (.gd g r))/\(∀(f:Operand) (as:Array Operand) (ts:Array P1),dR P F H g K (.call ⟨.value f,as,ts⟩)=∃r,(g=true->eO F (.call ⟨.value f,as,ts⟩)=true/\dp P (bA F f) (as.toList.map (bA F)) H fun r' H'=>r'=r/\H'=H)/\K (.gd g r)):=by and_intros<;>(intros;rfl)
@[go_sem] def j5n:(∀(t:Tmp),bw F (.tmp t)=F.getD t .any)/\(∀(v:Value),bw F (.const v)=.raw v)/\(∀(f:FuncId),bw F (.func f)=.raw (.func (.func f) #[] #[]))/\(∀(d:Tmp) (a:AV),bO F (some d) a=F.set d a)/\(∀(a:AV),bO F none a=F):=by and_intros<;>(intros;rfl)
end
attribute [go_sem] bA eO jk jV fV fN cP jY l4 tP si rp dX nO kL mC mK nP tc mJ nR pG pH nE D6 po pT pw pc sN rH jU pY o8 qa ns lu iO
attribute [go_sem] cM Op.operands Call.operands p9
section
@[go_sem] def j1K:(∀(cs:PW),(AV.agg cs).cells=cs)/\(∀(k:IntKind) (n:Int),(AV.raw (.int k n)).cells=[.raw (.int k n)])/\(∀(s:P0),(AV.raw (.string s)).cells=[.raw (.string s)])/\(∀(a:Option Addr) (n c:Nat),(AV.raw (.slice a n c)).cells=[.raw (.slice a n c)])/\(∀(x:Bool) (sz:Nat) (css:PU) (d:PW),(AV.sl x sz css d).cells=[.sl x sz css d])/\(∀(i m k j:Nat),(AV.pt i m k j).cells=[.pt i m k j])/\(∀(i m k j:Nat),(AV.rs i m k j).cells=[.rs i m k j])/\(∀(k:IntKind) (n:Int),(AV.raw (.int k n)).one=true)/\(∀(s:P0),(AV.raw (.string s)).one=true)/\(∀(a:Option Addr) (n c:Nat),(AV.raw (.slice a n c)).one=true)/\(∀(x:Bool) (sz:Nat) (css:PU) (d:PW),(AV.sl x sz css d).one=true)/\(∀(i m k j:Nat),(AV.pt i m k j).one=true)/\(∀(i m k j:Nat),(AV.rs i m k j).one=true):=by and_intros<;>(intros;rfl)
end
attribute [go_sem] Hp.get Hp.put aB eD oW jm entry ids o9 um q0 room uT sf iD
attribute [go_sem] AV.all aU cV AV.flat r8 nq pO fits fresh eL dq df BV FI bc
@[go_sem] def j2o(sz:Nat):gh sz []=True:=by simp[JD]
@[go_sem] def j0R(sz:Nat)(cs:PW)(css:PU):gh sz (cs::css)=((cs.length=sz/\cM cs=true)/\gh sz css):=by simp[gh]
@[go_sem] def j2n(enc:α->PW)(sz:Nat)[cu enc sz](l:List α):gh sz (l.map enc)=True:=by simp[Cv]
@[go_sem] def j6c(q:P5):QL q []=True:=by simp[xo]
@[go_sem] def j4C(q:P5)(cs:PW)(css:PU):QL q (cs::css)=(aU q cs=true/\QL q css):=by simp[QL]
@[go_sem] def j06(q:P5)(a b:PU):QL q (a++b)=(QL q a/\QL q b):=by apply propext;exact⟨fun h=>⟨fun c hc=>h c (List.mem_append_left _ hc),fun c hc=>h c (List.mem_append_right _ hc)⟩,fun h=>za h.1 h.2⟩
variable{sz:Nat}
@[go_sem] def j6b(q:P5)(enc:α->PW)[cu enc sz](l:List α):QL q (l.map enc)=True:=by simp[iW]
@[go_sem] def tH[Inhabited α](enc:α->PW)(l:List α)(k:Nat)(h:k<l.length):(l.map enc).getD k []=enc (nth l k):=by simp[nth,h]
@[go_sem] def j0Q[Inhabited α](enc:α->PW)(l:List α)(k:Nat):(l.map enc).getD k (enc default)=enc (nth l k):=by unfold nth;rcases Nat.lt_or_ge k l.length with h|h<;>simp[h]
@[go_sem] def j2I(enc:α->PW)(l:List α)(k:Nat):(l.map enc).drop k=(l.drop k).map enc:=jE
@[go_sem] def j2J(enc:α->PW)(l:List α)(k:Nat):(l.map enc).take k=(l.take k).map enc:=jE
@[go_sem] def jyT{β:Type}(f:α->β)(l:List α):(l.map f).length=l.length:=jE
@[go_sem] def juU(a b:List α):(a++b).length=a.length+b.length:=jE
@[go_sem] def jyZ{β:Type}(f:α->β)(a b:List α):(a++b).map f=a.map f++b.map f:=jE
@[go_sem] def jvk(i:Nat):([]:PZ).contains i=false:=(rfl)
@[go_sem] def juP(i j:Nat)(l:PZ):(j::l).contains i=(i == j || l.contains i):=List.contains_cons
@[go_sem] def jzd(e e':P1)(sz sz':Nat)(a b:PU):(Row.aG e sz a=Row.aG e' sz' b)=(e=e'/\sz=sz'/\a=b):=jE
attribute [go_sem] List.getD_cons_zero List.getD_cons_succ List.getD_nil List.set_cons_zero List.set_cons_succ List.set_nil List.map_nil List.map_cons List.getElem?_cons_zero List.getElem?_cons_succ List.getElem?_nil List.getElem?_toArray List.all_nil List.all_cons List.append_nil List.nil_append List.cons_append List.length_cons List.length_nil List.take_succ_cons List.take_zero List.take_nil List.drop_succ_cons List.drop_zero List.drop_nil List.flatten_nil List.flatten_cons
def LI(b:Bool):(b == true)=b:=by cases b<;>rfl
def Lj(b:Bool):(b == false)=!b:=by cases b<;>rfl
attribute [go_sem] if_true if_false true_and and_true false_and and_false Option.map_some Option.map_none Option.getD_some Option.getD_none Option.bind_some Option.bind_none Option.isSome_some Option.isNone_some Option.isNone_none Option.some.injEq Bool.and_true Bool.true_and Bool.and_self Bool.not_true Bool.not_false LI Lj Bool.false_eq_true Bool.true_eq_false reduceCtorEq imp_self implies_true forall_const or_true true_or or_self or_false false_or not_true_eq_false not_false_eq_true eq_self ne_eq and_self List.foldl_cons List.foldl_nil Bool.not_eq_true' Bool.or_true Bool.or_false Bool.true_or Bool.false_or decide_true decide_false Nat.zero_add Nat.add_zero Nat.le_refl Int.toNat_natCast
@[go_sem] def j0e(c x:Bool):uF c x false=(c && x):=by cases c<;>rfl
@[go_sem] def j1H(c y:Bool):uF c true y=(c || y):=by cases c<;>rfl
@[go_sem] def j1q(b:Bool):(false ^^ b)=b:=by cases b<;>rfl
@[go_sem] def j3J(b:Bool):(true ^^ b)=!b:=by cases b<;>rfl
@[go_sem] def juN(id id':Nat)(Q:Exit->PS)(F:PW)(H:Hp):oS id Q (.exit id') F H=if id'=id then Q .normal F H else Q (.exit id') F H:=(rfl)
def jL(J:List (Nat×AV))(F:PW):PW:=J.foldl (fun F p=>F.set p.1 p.2) F
attribute [go_sem] jL lm Cb List.replicate_succ List.replicate_zero
def Next(n:Nat){S:Type}(W:List (Nat×Nat))(ok:S->Prop)(J:S->List (Nat×AV))(G:S->Hp)(μ:S->Nat)(F₀ F:PW)(H:Hp):Prop:=∃s,μ s<n/\cY F H (jL (J s) (lm W F₀)) (G s)/\ok s
variable{n:Nat}{W:List (Nat×Nat)}{F₀:PW}
def dI{S:Type}{ok:S->Prop}{J:S->List (Nat×AV)}{G:S->Hp}{μ:S->Nat}(s:S)(h1:ok s)(h2:μ s<n)(h4:H=G s)(h3:gU F (jL (J s) (lm W F₀))):Next n W ok J G μ F₀ F H:=⟨s,h2,by rw[<-h4];exact cY.pt H h3,h1⟩
def zo{S:Type}{ok:S->Prop}{J:S->List (Nat×AV)}{G:S->Hp}{μ:S->Nat}(D:P5)(s:S)(h1:ok s)(h2:μ s<n)(hB:H.B.all (df D)=true)(hl:eL D H.l)(h4:⟨H.B,dq D H.l⟩=G s)(h3:bc D H F (jL (J s) (lm W F₀))):Next n W ok J G μ F₀ F H:=⟨s,h2,by rw[<-h4];exact cY.free D hB hl h3,h1⟩
def de{c:Code}{Q:Exit->PS}{S:Type}(W:List (Nat×Nat))(ok:S->Prop)(J:S->List (Nat×AV))(G:S->Hp)(μ:S->Nat)(s₀:S)(h0:ok s₀)(P':cY F H (jL (J s₀) (lm W F)) (G s₀))
  (round:∀s,ok s->∀K:PS,(∀F' H',Next (μ s) W ok J G μ F F' H'->K F' H')->cz P c (rL K Q) (jL (J s) (lm W F)) (G s)):cz P (.loop c) Q F H:=by
 refine Gs (S:=S) (fun s F' H'=>F'=jL (J s) (lm W F)/\H'=G s/\ok s) μ s₀ P' ⟨rfl,rfl,h0⟩ ?_;rintro s F' H' ⟨rfl,rfl,hok⟩;refine round s hok _ ?_;rintro F'' QK ⟨s',h1,h2,h3⟩;exact⟨s',_,_,h1,h2,rfl,rfl,h3⟩
def dc{F':PW}{H':Hp}(h1:H=H')(h2:gU F F'):cY F H F' H':=by rw[<-h1];exact cY.pt H h2
variable{out:PW}
def rk{e:Exit}(he:e=.normal\/e=.ret)(ho:fP P H F fn.results.toList=some out)(hok:gx P H F fn.results.toList)(r:AV)(H':Hp)(P':hJ (fZ out) H r H')(hR:R r H'.l):hU P fn R e F H:=by rcases he with rfl|rfl<;>exact⟨out,r,H',ho,hok,P',hR⟩
variable{t:P1}{K:PT}{zs:P4}
def vS(i:Nat)(hz:dU P t=some zs)(hi:H.get i=none)(h:K (.pt i 0 0 0) (H.put i (.var t (zs.map .raw)))):ll P H t K:=by unfold ll;rw[hz];exact⟨i,hi,h⟩
def wN{x:AV}(i:Nat)(ho:cM x.cells=true)(hi:H.get i=none)(h:K (.pt i 0 0 0) (H.put i (.var t x.cells))):pN H t x K:=⟨ho,i,hi,h⟩
def wM:List P8->Nat->Nat
 |[],m=>m
 |(i,_)::l,m=>wM l (if m<=i then i+1 else m)
def nx(l:PV):Nat:=wM l 0
theorem As:∀(l:PV) (m i:Nat),wM l m<=i->aB l i=none/\m<=i
 |[],m,i,h=>⟨rfl,h⟩
 |(j,r)::l,m,i,h=>by
  obtain⟨h1,h2⟩:=As l _ i h;simp only[aB];split at h2
  ·rw[jN];exact⟨h1,jB⟩
  ·rw[jN];exact⟨h1,h2⟩
def wl(l:PV)(i:Nat)(h:nx l<=i):aB l i=none:=(As l 0 i h).1
attribute [go_sem] wM
attribute [go_sem] nx
@[go_sem] def jy4:((none:Option Operand).toArray.toList=[])/\(∀(x:Operand),(some x).toArray.toList=[x]):=by and_intros<;>(intros;rfl)
def Kd{A:Nat->Prop}{d:fz A}(h:A (nx H.l)):sM H A d:=⟨_,wl _ _ jl,h⟩
def NZ(hz:dU P t=some zs)(h:K (.pt (nx H.l) 0 0 0) (H.put (nx H.l) (.var t (zs.map .raw)))):ll P H t K:=vS _ hz (wl _ _ jl) h
def K5{x:AV}(ho:cM x.cells=true)(h:K (.pt (nx H.l) 0 0 0) (H.put (nx H.l) (.var t x.cells))):pN H t x K:=wN _ ho (wl _ _ jl) h
variable{css:PU}
def wh{e:P1}(h1:aU cV css.flatten=true)(h2:K (.sl true sz css []) H):pX e sz css H K:=.inl ⟨h1,h2⟩
def yH{e:P1}(i:Nat)(h0:0<sz)(hi:H.get i=none)(h2:K (.rs i css.length sz css.length) (H.put i (.aG e sz css))):pX e sz css H K:=.inr ⟨h0,i,hi,h2⟩
def MT{e:P1}(h0:0<sz)(h2:K (.rs (nx H.l) css.length sz css.length) (H.put (nx H.l) (.aG e sz css))):pX e sz css H K:=yH _ h0 (wl _ _ jl) h2
def JX{e:P1}(h0:0<sz)(h2:K (.rs (nx H.l) 0 sz 0) (H.put (nx H.l) (.aG e sz []))):pX e sz [] H K:=MT h0 h2
def eV(a a':AV):Prop:=∀(w:NW) v,az w a v->az w a' v
def eV.refl(a:AV):eV a a:=fun _ _ h=>h
theorem eV.sl{x:Bool}{sz:Nat}{css:PU}{d d':PW}:eV (.sl x sz css d) (.sl false sz css d'):=fun w v hr=>by
 cases hr with
 |gF _ _ A c _=>exact .gF _ _ _ _ (fun e=>by cases e)
 |sl _ _ _ a c vs hn hc hx Qh hb hH I' hr=>exact .sl _ _ _ a c vs hn hc (fun e=>by cases e) Qh hb hH I' hr
def eV.nil{d:PW}:eV (.raw (.slice none 0 0)) (.sl false sz [] d):=fun w v hr=>by have:=di hr;subst this;exact .gF _ _ _ _ (fun e=>by cases e)
def nU:PW->PW->Prop
 |[],[]=>True
 |a::l,b::m=>eV a b/\nU l m
 |_,_=>False
theorem nU.get:∀{l m:PW},nU l m->l.length=m.length/\∀(i:Nat) a b,l[i]?=some a->m[i]?=some b->eV a b
 |[],[],_=>⟨rfl,fun i a b h=>by simp at h⟩
 |x::l,y::m,h=>by
  have ih:=nU.get h.2;refine⟨by simp[ih.1],fun i a b ha hb=>?_⟩;cases i with
  |zero=>simp at ha hb;subst ha hb;exact h.1
  |succ i=>exact ih.2 i a b (by simpa using ha) (by simpa using hb)
attribute [go_sem] fZ
@[go_sem] def j0P(l:PW)(n m:Nat):(l.drop n).getD m .any=l.getD (n+m) .any:=by simp[List.getD_eq_getElem?_getD]
attribute [go_sem] List.drop_drop List.length_drop Array.toList_append
def Cd{e:Exit}(he:e=.normal\/e=.ret)(ho:fP P H F fn.results.toList=some out)(hok:gx P H F fn.results.toList)(h1:fZ out=r)(h2:H.l=l):hU P fn (fun r' l'=>r'=r/\l'=l) e F H:=
 rk he ho hok r H (hJ.of_eq H h1) ⟨rfl,h2⟩
def uc{e:Exit}(D:P5)(he:e=.normal\/e=.ret)(ho:fP P H F fn.results.toList=some out)(hok:gx P H F fn.results.toList)(hB:H.B.all (df D)=true)(hl:eL D H.l)(hv:db D H (fZ out) r)(h2:dq D H.l=l):hU P fn (fun r' l'=>r'=r/\l'=l) e F H:=
 rk he ho hok r _ (hJ.free D hB hl hv) ⟨rfl,h2⟩
def p5{D:P5}{a a':AV}(h:a=a')(hq:a.all (df D)=true):db D H a a':=by subst h;exact .same _ hq
def iZ(B:PZ):P5:=fun i=>!(B.contains i)
def Ci{e:Exit}(he:e=.normal\/e=.ret)(ho:fP P H F fn.results.toList=some out)(hok:gx P H F fn.results.toList)(hl:eL (iZ H.B) H.l)(hv:db (iZ H.B) H (fZ out) r)(h2:dq (iZ H.B) H.l=l):hU P fn (fun r' l'=>r'=r/\l'=l) e F H:=
 uc (iZ H.B) he ho hok (by rw[List.all_eq_true];intro x hx;simp[df,iZ,hx]) hl hv h2
attribute [go_sem] fP gx
def EF{e:Exit}(rs:List ResultVar)(RB:fn.results.toList=rs)(he:e=.normal\/e=.ret)(ho:fP P H F rs=some out)(hok:gx P H F rs)(hl:eL (iZ H.B) H.l)(hv:db (iZ H.B) H (fZ out) r)(h2:dq (iZ H.B) H.l=l):hU P fn (fun r' l'=>r'=r/\l'=l) e F H:=by subst RB;exact Ci he ho hok hl hv h2
def Kb{e:Exit}(rs:List ResultVar)(RB:fn.results.toList=rs)(he:e=.normal\/e=.ret)(ho:fP P H F rs=some out)(hok:gx P H F rs)(h1:fZ out=r)(h2:H.l=l):hU P fn (fun r' l'=>r'=r/\l'=l) e F H:=by subst RB;exact Cd he ho hok h1 h2
attribute [go_sem] iZ cond_true cond_false pB
def oP{S:Type}{ok:S->Prop}{J:S->List (Nat×AV)}{G:S->Hp}{μ:S->Nat}(L:PZ)(s:S)(h1:ok s)(h2:μ s<n)(hB:H.B.all (df fun i=>L.contains i)=true)(hl:eL (fun i=>L.contains i) H.l)(h4:⟨H.B,dq (fun i=>L.contains i) H.l⟩=G s)(h3:bc (fun i=>L.contains i) H F (jL (J s) (lm W F₀))):Next n W ok J G μ F₀ F H:=zo _ s h1 h2 hB hl h4 h3
def AB{D:P5}(a:AV):db D H a .any:=.drop a
@[go_sem] def jzJ(i:Nat)(e:P1)(m sz:Nat)(css ys:PU)(H:Hp)(K:PT):qp i e m sz m css ys H K=K (.rs i (m+ys.length) sz (m+ys.length)) (H.put i (.aG e sz (css++ys))):=if_pos rfl
def M3{enc:α->PW}(vars more ys:List α){e:P1}{m:Nat}{yss:PU}(hm:m=vars.length+more.length)(hn:n=vars.length)(hc:css=(vars++more).map enc)(hy:yss=ys.map enc)
  (h:K (.rs i (vars.length+ys.length+(more.drop ys.length).length) sz (vars.length+ys.length)) (H.put i (.aG e sz ((vars++ys++more.drop ys.length).map enc)))):qp i e m sz n css yss H K:=by
 subst hm hn hc hy;unfold qp;split
 ·rename_i h';have:more=[]:=List.length_eq_zero_iff.1 jB;subst this;simpa using h
 ·have e1:max (vars.length+more.length) (vars.length+(ys.map enc).length)=vars.length+ys.length+(more.drop ys.length).length:=by simp;omega
  have e2:fW ((vars++more).map enc) vars.length (ys.map enc)=(vars++ys++more.drop ys.length).map enc:=by
   unfold fW;rw[<-List.map_take,List.take_left',<-List.map_drop,List.length_map,List.drop_append,List.drop_eq_nil_of_le jB,List.nil_append]
   ·simp
   ·rfl
  rw[e1,e2];simpa using h
def LU{b c:Bool}(h:b=c):AV.raw (.bool b)=AV.raw (.bool c):=by rw[h]
def PC{k:IntKind}{b c:Int}(h:b=c):AV.raw (.int k b)=AV.raw (.int k c):=by rw[h]
section
variable {P:P6}{ops:Array Oper}{H:Hp}
def ug(ops:Array Oper)(o:Oper)(F G:PW):Prop:=(∀x∈o.op.operands.toList,bw G x=bw F x)/\∀j b,o.guard=some (j,b)->jV ops G j b=jV ops F j b
def QV(P:P6)(ops:Array Oper)(o:Oper)(F:PW)(H:Hp)(r:AV):Prop:=∀G,ug ops o F G->k8 P ops o G H fun F' H'=>F'=bO G o.dst r/\H'=H
variable{K:PT}
def wb{f:AV}{args:PW}{K':PT}(h:dp P f args H K)(hk:∀r H,K r H->K' r H):dp P f args H K':=by
 unfold dp at*;split at h
 ·rcases h with h|h
  ·exact .inl ⟨h.1,h.2.mono hk⟩
  ·exact .inr fun w vs h1 h2=>by obtain⟨v,w',r,H',e,k,g⟩:=h w vs h1 h2;exact⟨v,w',r,H',e,hk _ _ k,g⟩
 ·exact h.elim
def mb(P:P6)(t:P1)(n:Nat)(parts:List (Nat×AV))(K:AV->Prop):Prop:=match gk P t with
 |some e=>match cW P e with
  |some sz=>((parts.length=n/\p9 sz 0 parts/\n*sz<=16777216/\(n*sz=0\/(dU P e).isSome=true))/\aU cV (iD parts).flatten=true)/\K (.sl true sz (iD parts) [])
  |none=>False
 |none=>False
variable{t:P1}{n:Nat}{parts:List (Nat×AV)}
def Ll(h:mb P t n parts fun r=>K r H):lu P H t n parts K:=by
 unfold mb at h;unfold lu;split at h
 ·rename_i e he;split at h
  ·rename_i sz hs;try simp only[he,hs]
   exact⟨h.1.1,.inl ⟨h.1.2,h.2⟩⟩
  ·exact h.elim
 ·exact h.elim
variable{K:AV->Prop}
def yN(h:mb P t n parts K):∃r,K r/\∀K':AV->Prop,K' r->mb P t n parts K':=by
 unfold mb at h;split at h
 ·rename_i e he;split at h
  ·rename_i sz hs;exact⟨_,h.2,fun K' hk=>by unfold mb;rw[he];simp only[hs];exact⟨h.1,hk⟩⟩
  ·exact h.elim
 ·exact h.elim
def mw:Op->Bool
 |.binOp .eql ..=>true
 |.binOp .neq ..=>true
 |_=>false
variable{o:Oper}{F:PW}
def MM{K:PS}(hg:o.guard=none)(hq:(vq P (bw F) H o.op).1)(hk:K (bO F o.dst (vq P (bw F) H o.op).2) H):k8 P ops o F H K:=
 Np hg (HM (K:=fun r H'=>K (bO F o.dst r) H') hq hk)
def tQ(hg:o.guard=none)(hq:(vq P (bw F) H o.op).1):QV P ops o F H (vq P (bw F) H o.op).2:=fun G hG=>by have e:vq P (bw G) H o.op=vq P (bw F) H o.op:=rb _ hG.1;exact MM hg (by rw[e];exact hq) ⟨by rw[e],rfl⟩
variable{dst:Option Tmp}{after:Array Edge}
def D9{f:Operand}{args:Array Operand}{ts:Array P1}{ty:P1}{pos:String}{r:AV}(h:dp P (bw F f) (args.toList.map (bw F)) H fun r' H'=>r'=r/\H'=H) :
  QV P ops ⟨dst,.call ⟨.value f,args,ts⟩,ty,pos,after,none⟩ F H r:=fun G hG=>by
 refine oi (K:=fun F' H'=>F'=bO G dst r/\H'=H) rfl ?_;show dp P (bw G f) (args.toList.map (bw G)) H _;rw[hG.1 f (by simp[Op.operands,Call.operands]),List.map_congr_left (g:=bw F) (fun x hx=>hG.1 x (by simp[Op.operands,Call.operands]at hx ⊢;exact .inr hx))];exact wb h fun r' H' ⟨e1,e2⟩=>⟨by rw[e1],e2⟩
def yD{parts:Array (Nat×Operand)}{ty:P1}{pos:String}{r:AV}(h:mb P t n (parts.toList.map fun p=>(p.1,bw F p.2)) fun r'=>r'=r) :
  QV P ops ⟨dst,.buildSlice t n parts,ty,pos,after,none⟩ F H r:=fun G hG=>by
 refine oi (K:=fun F' H'=>F'=bO G dst r/\H'=H) rfl ?_;show lu P H t n (parts.toList.map fun p=>(p.1,bw G p.2)) (fun r_1 H'=>bO G dst r_1=bO G dst r/\H'=H);rw[List.map_congr_left (g:=fun p=>(p.1,bw F p.2)) (fun x hx=>by rw[hG.1 x.2 (by simp[Op.operands]at hx ⊢;exact⟨_,hx⟩)])];refine Ll ?_;obtain⟨r',e,hk⟩:=yN h;subst e;exact hk _ ⟨rfl,rfl⟩
variable{G:PW}
def Bp(o:Op)(h:∀x∈o.operands.toList,bw G x=bw F x):eO G o=eO F o:=by unfold eO;rw[Bool.eq_iff_iff,List.all_eq_true,List.all_eq_true];constructor<;>intro hh x hx<;>have:=hh x hx<;>rw[h x hx]at*<;>exact this
def tp:Op->Bool
 |.pick ..=>true
 |.call { callee:=.invoke ..,.. }=>true
 |_=>false
def uS{g:Bool}(o:Op)(h:fV o=false)(hp:tp o=false):dR P F H g K o=if fN o then(g=true->eO F o=true/\(vq P (bA F) H o).1)/\K (.gd g (vq P (bA F) H o).2)else False:=by
 cases o
 case call c=>
  obtain⟨callee,args,ts⟩:=c;cases callee
  case value f=>cases h
  case invoke f m=>cases hp
  all_goals rfl
 case pick=>cases hp
 all_goals rfl
def BB{g:Bool}{o:Op}(h:dR P F H g K o):∃r,K (.gd g r)/\∀(G:PW) (K':AV->Prop),(∀x∈o.operands.toList,bw G x=bw F x)->K' (.gd g r)->dR P G H g K' o:=by
 cases hc:fV o with
 |false=>
  by_cases hp:tp o=true
  ·cases o<;>try cases hp
   case call c=>
    obtain⟨callee,args,ts⟩:=c;cases callee<;>try cases hp
    rename_i f m;obtain⟨r,h1,h2⟩:=h;refine⟨r,h2,fun G K' hG hk=>⟨r,fun hg=>⟨Bp _ hG ▸ (h1 hg).1,?_⟩,hk⟩⟩;have he:∀x∈(Op.call ⟨.invoke f m,args,ts⟩).operands.toList,bA G x=bA F x:=fun x hx=>by unfold bA;rw[hG x hx]
    rw[he f (by simp[Op.operands,Call.operands]),List.map_congr_left (g:=bA F) (fun x hx=>he x (by simp[Op.operands,Call.operands]at hx ⊢;exact .inr hx))];exact(h1 hg).2
   rename_i c a b;refine⟨_,h.2,fun G K' hG hk=>?_⟩;have he:∀x∈(Op.pick c a b).operands.toList,bA G x=bA F x:=fun x hx=>by unfold bA;rw[hG x hx]
   show(g=true->(jk (bw G c)).1=true/\(jY (bA G c) (bw G a) (bw G b)).1)/\K' (.gd g (jY (bA G c) (bw G a) (bw G b)).2);rw[hG c (by simp[Op.operands]),hG a (by simp[Op.operands]),hG b (by simp[Op.operands]),he c (by simp[Op.operands])];exact⟨h.1,hk⟩
  have hp:tp o=false:=by simpa using hp
  rw[uS o hc hp]at h;split at h
  ·rename_i hq;refine⟨_,h.2,fun G K' hG hk=>?_⟩;have he:∀x∈o.operands.toList,bA G x=bA F x:=fun x hx=>by unfold bA;rw[hG x hx]
   rw[uS o hc hp,if_pos hq,rb _ he,Bp o hG];exact⟨h.1,hk⟩
  ·exact h.elim
 |true=>
  cases o<;>try cases hc
  rename_i c;obtain⟨callee,args,ts⟩:=c;cases callee<;>try cases hc
  rename_i f;obtain⟨r,h1,h2⟩:=h;refine⟨r,h2,fun G K' hG hk=>⟨r,fun hg=>⟨Bp _ hG ▸ (h1 hg).1,?_⟩,hk⟩⟩;have he:∀x∈(Op.call ⟨.value f,args,ts⟩).operands.toList,bA G x=bA F x:=fun x hx=>by unfold bA;rw[hG x hx]
  rw[he f (by simp[Op.operands,Call.operands]),List.map_congr_left (g:=bA F) (fun x hx=>he x (by simp[Op.operands,Call.operands]at hx ⊢;exact .inr hx))];exact(h1 hg).2
def Aq{j:Nat}{want b:Bool}{r:AV}(hg:o.guard=some (j,want))(hb:jV ops F j want=some b)(hq:(fV o.op || fN o.op)=true)(h:dR P F H b (fun r'=>r'=r) o.op):QV P ops o F H r:=fun G hG=>by
 have hv:jT P ops (fun F' H'=>F'=bO G o.dst r/\H'=H) [o] G H:=by simp only[jT,hg,hG.2 j want hg,hb,hq,if_true];obtain⟨r',h1,h2⟩:=BB h;exact h2 G _ hG.1 ⟨by rw[h1],trivial⟩
 have hs:=vu [o] G H hv;intro w tm Q next h1 h2 hn;have:=hs w tm (fun e a w=>match e with|.normal=>next a w|e=>Q e a w) h1 h2 hn;simp only[wpList]at this;unfold qf;split
 ·rename_i hw;rw[if_pos hw]at this;rcases this with h|⟨ha,hl⟩
  ·refine .inl ?_;unfold Oper.wp at*;generalize (execOp (Act.mk tm []).eval o).run P w=res at*;cases res with
   |ok n w'=>
    cases n<;>simp only[Oper.upon]at h ⊢
    case enter f args=>exact Calls.mono h fun e w'' he=>by cases e<;>exact he
    all_goals exact h
   |halt x w'=>cases x<;>simp only[Oper.upon]at h ⊢;exact h
  ·exact .inr ⟨ha,hl⟩
 ·rename_i hw;rw[if_neg hw]at this;exact this
def fM(P:P6)(ops:Array Oper)(H:Hp)(K:PW->Prop):List Oper->PW->Prop
 |[],F=>K F
 |o::rest,F=>match o.guard with
  |none=>match o.op with
   |.call { callee:=.value f,args,.. }=>∃r,(dp P (bw F f) (args.toList.map (bw F)) H fun r' H'=>r'=r/\H'=H)/\fM P ops H K rest (bO F o.dst r)
   |.buildSlice t n parts=>mb P t n (parts.toList.map fun p=>(p.1,bw F p.2)) fun r=>fM P ops H K rest (bO F o.dst r)
   |op=>(vq P (bw F) H op).1/\fM P ops H K rest (bO F o.dst (vq P (bw F) H op).2)
  |some (j,want)=>match jV ops F j want with
   |some b=>(fV o.op || fN o.op)=true/\dR P F H b (fun r=>fM P ops H K rest (bO F o.dst r)) o.op
   |none=>False
def v8(P:P6)(ops:Array Oper)(H:Hp)(K:PW->Prop):List Oper->PW->PW->Prop
 |[],F,rs=>rs=[]/\K F
 |o::rest,F,rs=>∃r QR,rs=r::QR/\QV P ops o F H r/\v8 P ops H K rest (bO F o.dst r) QR
theorem D7{K:PW->Prop}:∀(l:List Oper) (F:PW),fM P ops H K l F->∃rs,v8 P ops H K l F rs
 |[],F,h=>⟨[],rfl,h⟩
 |o::rest,F,h=>by
  have mk:∀r,QV P ops o F H r->fM P ops H K rest (bO F o.dst r)->∃rs,v8 P ops H K (o::rest) F rs:=fun r h1 h2=>by obtain⟨rs,h3⟩:=D7 rest _ h2;exact⟨r::rs,r,rs,rfl,h1,h3⟩
  obtain⟨dst,op,ty,pos,after,guard⟩:=o;cases guard with
  |none=>
   unfold fM at h;simp only at h;split at h
   ·obtain⟨r,h1,h2⟩:=h;exact mk r (D9 h1) h2
   ·rename_i t n parts;obtain⟨r,h1,h2⟩:=yN h;exact mk r (yD (h2 _ rfl)) h1
   ·exact mk _ (tQ rfl h.1) h.2
  |some g=>
   obtain⟨j,want⟩:=g;unfold fM at h;simp only at h;split at h
   ·rename_i b hb;obtain⟨hq,hv⟩:=h;obtain⟨r,h1,h2⟩:=BB hv;exact mk _ (Aq rfl hb hq (r:=.gd b r) (h2 F _ (fun _ _=>rfl) rfl)) h1
   ·exact h.elim
-- the order
def FL(os:List Oper)(rs:PW)(L:P5)(F:PW):Nat->PW
 |0=>F
 |m+1=>if L m then bO (FL os rs L F m) ((os[m]?).bind (·.dst)) (rs.getD m .any)else FL os rs L F m
def j1(os:List Oper)(rs:PW)(L:P5)(F:PW)(s:Nat):Nat->AV
 |0=>F.getD s .any
 |m+1=>if L m=true/\(os[m]?).bind (·.dst)=some s then rs.getD m .any else j1 os rs L F s m
theorem j4(os:List Oper)(rs:PW)(L:P5)(F:PW):∀m,(FL os rs L F m).length=F.length
 |0=>rfl
 |m+1=>by
  unfold FL;split
  ·rw[<-j4 os rs L F m];cases(os[m]?).bind (·.dst)<;>simp[bO]
  ·exact j4 os rs L F m
theorem qw(os:List Oper)(rs:PW)(L:P5)(F:PW){s:Nat}(hs:s<F.length):∀m,(FL os rs L F m).getD s .any=j1 os rs L F s m
 |0=>rfl
 |m+1=>by
  have ih:=qw os rs L F hs m;have hl:=j4 os rs L F m;unfold FL j1;cases hd:(os[m]?).bind (·.dst)with
  |none=>
   have Qe:¬(L m=true/\(none:Option Tmp)=some s):=fun h=>by have:=h.2;cases this
   rw[if_neg Qe];cases hL:L m
   ·exact ih
   ·exact ih
  |some d=>
   cases hL:L m
   ·simpa using ih
   ·simp only[if_true,bO,true_and,Option.some.injEq];by_cases e:d=s
    ·subst e;simp[hl,hs]
    ·rw[if_neg e];have:(List.set (FL os rs L F m) d (rs.getD m .any)).getD s .any=(FL os rs L F m).getD s .any:=by simp[List.getElem?_set,e]
     rw[this,ih]
variable{os:List Oper}
def GK{rs:PW}{L L':P5}{m m':Nat}(hG:G.length=F.length)(h:∀s,s<F.length->G.getD s .any=j1 os rs L F s m):G=FL os rs L F m:=by
 refine List.ext_getElem? fun s=>?_
 rcases Nat.lt_or_ge s F.length with hs|hs
 ·have h1:=h s hs;rw[<-qw os rs L F hs m]at h1;have h2:G[s]?=some (G.getD s .any):=by simp[hG,hs]
  have h3:(FL os rs L F m)[s]?=some ((FL os rs L F m).getD s .any):=by simp[j4,hs]
  rw[h2,h3,h1]
 ·rw[List.getElem?_eq_none jB,List.getElem?_eq_none (by rw[j4];omega)]
def looks(os:List Oper)(o:Oper):PZ:=
 (o.op.operands.toList.filterMap fun|.tmp t=>some t|_=>none)++
 (match o.guard with
   |some (g,_)=>((os[g]?).bind (·.dst)).toList
   |none=>[])
def oR:PZ->PZ
 |[]=>[]
 |x::l=>if(oR l).contains x then oR l else x::oR l
theorem yz{x:Nat}:∀{l:PZ},x∈oR l<->x∈l
 |[]=>Iff.rfl
 |y::l=>by
  have ih:x∈oR l<->x∈l:=yz;unfold oR;split
  ·rename_i h;rw[ih,List.mem_cons];refine⟨.inr,fun h'=>h'.elim (fun e=>?_) id⟩;subst e;exact ih.1 (List.contains_iff_mem.1 h)
  ·rw[List.mem_cons,List.mem_cons,ih]
def lU(R9:List PZ)(o:Oper):List PZ:=R9++[oR ((o.after.toList.filter (Region.binds .any)).flatMap fun e=>e.on::R9.getD e.on [])]
def iX(os:List Oper):List PZ:=os.foldl lU []
def rY(os:List Oper)(a b:Oper):Bool:=
 (match a.dst with
   |some d=>(looks os b).contains d || b.dst == some d
   |none=>false) ||
 (match b.dst with
   |some d=>(looks os a).contains d
   |none=>false)
def re(os:List Oper):Bool:=
 let ps:=iX os
 (List.range os.length).all fun j=>match os[j]? with
  |some b=>(b.after.toList.all fun e=>!Region.binds .any e || decide (e.on<j)) &&
   (List.range j).all fun i=>match os[i]? with
    |some a=>!rY os a b || (ps.getD j []).contains i
    |none=>true
  |none=>true
theorem Bv:∀(os:List Oper) (R9:List PZ) (j:Nat),j<R9.length->(os.foldl lU R9)[j]?=R9[j]?
 |[],R9,j,_=>rfl
 |o::os,R9,j,h=>by simp only[List.foldl_cons];rw[Bv os _ j (by simp[lU];omega)];unfold lU;rw[List.getElem?_append_left h]
theorem Ca:∀(os:List Oper) (R9:List PZ) (j:Nat) (o:Oper),os[j]?=some o->(os.foldl lU R9).getD (R9.length+j) []=oR ((o.after.toList.filter (Region.binds .any)).flatMap fun e=>e.on::(if e.on<R9.length+j then(os.foldl lU R9).getD e.on []else[]))
 |[],R9,j,o,h=>by simp at h
 |o'::os,R9,0,o,h=>by
  simp only[List.getElem?_cons_zero,Option.some.injEq]at h;subst h;simp only[List.foldl_cons,Nat.add_zero];have h1:(os.foldl lU (lU R9 o')).getD R9.length []=oR ((o'.after.toList.filter (Region.binds .any)).flatMap fun e=>e.on::R9.getD e.on []):=by rw[List.getD_eq_getElem?_getD,Bv os _ _ (by simp[lU])];unfold lU;rw[List.getElem?_append_right jl];simp
  rw[h1];congr 2
  funext e
  congr 1
  split
  ·rename_i Qd;rw[List.getD_eq_getElem?_getD,List.getD_eq_getElem?_getD,Bv os _ _ (by simp[lU];omega)];unfold lU;rw[List.getElem?_append_left Qd]
  ·rename_i Yj;rw[List.getD_eq_getElem?_getD,List.getElem?_eq_none jB];rfl
 |o'::os,R9,j+1,o,h=>by
  simp only[List.foldl_cons];have:=Ca os (lU R9 o') j o (by simpa using h);have e:(lU R9 o').length+j=R9.length+(j+1):=by simp[lU];omega
  rw[e]at this;exact this
def DW{j:Nat}(h:os[j]?=some o):(iX os).getD j []=oR ((o.after.toList.filter (Region.binds .any)).flatMap fun e=>e.on::(if e.on<j then(iX os).getD e.on []else[])):=by have:=Ca os [] j o h;simp only[List.length_nil,Nat.zero_add]at this;exact this
def l5(os:List Oper)(L:P5):Prop:=∀j o,os[j]?=some o->L j=true->∀e∈o.after.toList,Region.binds .any e=true->L e.on=true
def sx{L:P5}(hc:l5 os L)(Qd:∀j o,os[j]?=some o->∀e∈o.after.toList,Region.binds .any e=true->e.on<j):∀n j,j<n->∀o,os[j]?=some o->(∀e∈o.after.toList,Region.binds .any e=true->L e.on=true)->∀i∈(iX os).getD j [],L i=true:=by
 intro n;induction n with
 |zero=>intro j hj;omega
 |succ n ih=>
  intro j hj o ho hL i hi;rw[DW ho,yz]at hi;obtain⟨e,he,hi⟩:=List.mem_flatMap.1 hi;obtain⟨Td,UN⟩:=List.mem_filter.1 he;have QN:=hL e Td UN;rcases List.mem_cons.1 hi with rfl|hi
  ·exact QN
  ·rw[if_pos (Qd j o ho e Td UN)]at hi;have hlt':=Qd j o ho e Td UN;have hjlen:=(List.getElem?_eq_some_iff.1 ho).1;have SI:os[e.on]?=some (os[e.on]' jB):=List.getElem?_eq_getElem jB;exact ih e.on jB _ SI (fun e' h1 h2=>hc _ _ SI QN e' h1 h2) i hi
theorem Be(o:Oper)(os:List Oper)(r:AV)(rs:PW)(F:PW):∀m,FL (o::os) (r::rs) (fun _=>true) F (m+1)=FL os rs (fun _=>true) (bO F o.dst r) m
 |0=>by simp[FL]
 |m+1=>by have ih:=Be o os r rs F m;rw[FL,if_pos rfl,ih,FL,if_pos rfl];simp
theorem G0{K:PW->Prop}:∀(l:List Oper) (F:PW) (rs:PW),v8 P ops H K l F rs->(∀i o,l[i]?=some o->QV P ops o (FL l rs (fun _=>true) F i) H (rs.getD i .any))/\K (FL l rs (fun _=>true) F l.length)
 |[],F,rs,h=>⟨fun i o hi=>by simp at hi,h.2⟩
 |o::l,F,rs,h=>by
  obtain⟨r,QR,rfl,h1,h2⟩:=h;obtain⟨g1,g2⟩:=G0 l _ QR h2;refine⟨fun i o' hi=>?_,by rw[List.length_cons,Be];exact g2⟩;cases i with
  |zero=> simp only[List.getElem?_cons_zero,Option.some.injEq]at hi;subst hi;exact h1
  |succ i=> rw[Be];exact g1 i o' (by simpa using hi)
def sr(h:re os=true):(∀j o,os[j]?=some o->∀e∈o.after.toList,Region.binds .any e=true->e.on<j)/\
  ∀i j a b,i<j->os[i]?=some a->os[j]?=some b->rY os a b=true->i∈(iX os).getD j []:=by
 simp only[re,List.all_eq_true,List.mem_range]at h;constructor
 ·intro j o ho e he hb;have:=h j (List.getElem?_eq_some_iff.1 ho).1;rw[ho]at this;simp only[Bool.and_eq_true,List.all_eq_true]at this;have:=this.1 e he;simpa[hb]using this
 ·intro i j a b Xn ha hb hc;have:=h j (List.getElem?_eq_some_iff.1 hb).1;rw[hb]at this;simp only[Bool.and_eq_true,List.all_eq_true,List.mem_range]at this;have:=this.2 i Xn;rw[ha]at this;simp only[hc,Bool.not_true,Bool.false_or]at this;simpa using this
theorem BI{os:List Oper}{rs F:PW}{L:P5}{i s:Nat}(hw:∀k o,os[k]?=some o->o.dst=some s->L k=decide (k<i)):∀m,j1 os rs L F s m=j1 os rs (fun _=>true) F s (min m i)
 |0=>by simp[j1]
 |m+1=>by
  have ih:=BI (rs:=rs) (F:=F) hw m;rw[j1];by_cases hd:(os[m]?).bind (·.dst)=some s
  ·obtain⟨o,ho,hs⟩:=Option.bind_eq_some_iff.1 hd;have hL:=hw m o ho hs;by_cases hm:m<i
   ·rw[if_pos ⟨by rw[hL];simpa using hm,hd⟩,show min (m+1) i=m+1 from jB,j1,if_pos ⟨rfl,hd⟩]
   ·rw[if_neg (by rw[hL];simp[hm]),ih,show min (m+1) i=min m i from jB]
  ·rw[if_neg (by simp[hd]),ih];by_cases hm:m<i
   ·rw[show min (m+1) i=m+1 from jB,show min m i=m from jB,j1,if_neg (by simp[hd])]
   ·rw[show min (m+1) i=min m i from jB]
theorem Ax{os:List Oper}{rs F:PW}{L L':P5}{i s:Nat}{o:Oper}(ho:os[i]?=some o)(Sc:∀k,L' k=(L k || k == i))(hw:∀k o',os[k]?=some o'->o'.dst=some s->L k=decide (k<i))(hs:o.dst=some s):∀m,i<m->j1 os rs L' F s m=rs.getD i .any
 |0,h=>by omega
 |m+1,h=>by
  rw[j1];by_cases hm:m=i
  ·subst hm;rw[if_pos ⟨by rw[Sc];simp,by rw[ho];exact hs⟩]
  ·rw[if_neg]
   ·exact Ax ho Sc hw hs m jB
   ·rintro⟨h1,h2⟩;obtain⟨o',SI,Ur⟩:=Option.bind_eq_some_iff.1 h2;rw[Sc,hw m o' SI Ur]at h1;simp at h1;omega
theorem zf{os:List Oper}{rs F:PW}{L L':P5}{i s:Nat}{o:Oper}(ho:os[i]?=some o)(Sc:∀k,L' k=(L k || k == i))(hs:o.dst≠some s):∀m,j1 os rs L' F s m=j1 os rs L F s m
 |0=>rfl
 |m+1=>by
  have ih:=zf (rs:=rs) (F:=F) ho Sc hs m;rw[j1,j1,ih,Sc];by_cases hm:m=i
  ·subst hm;rw[ho];simp[hs]
  ·simp[hm]
def JV{t:Nat}(h:Operand.tmp t∈o.op.operands.toList):t∈looks os o:=
 List.mem_append_left _ (List.mem_filterMap.2 ⟨_,h,rfl⟩)
def FF(hl:F.length=G.length)(h:∀s∈looks os o,s<F.length->G.getD s .any=F.getD s .any):ug os.toArray o F G:=by
 have Qo:∀s∈looks os o,G[s]?=F[s]?:=fun s hs=>by
  rcases Nat.lt_or_ge s F.length with h1|h1
  ·have:=h s hs h1;have e1:G[s]?=some (G.getD s .any):=by simp[<-hl,h1]
   have e2:F[s]?=some (F.getD s .any):=by simp[h1]
   rw[e1,e2,this]
  ·rw[List.getElem?_eq_none jB,List.getElem?_eq_none h1]
 constructor
 ·intro x hx;cases x with
  |tmp t=>simp only[bw,List.getD_eq_getElem?_getD,Qo t (JV hx)]
  |const v=>rfl
  |global g=>rfl
  |func f=>rfl
 ·intro j b hg;unfold jV;cases hd:(os.toArray[j]?).bind (·.dst)with
  |none=>rfl
  |some d=> simp only;rw[Qo d (List.mem_append_right _ (by rw[hg];simp at hd ⊢;simpa using hd))]
variable{Q:Exit->PS}
def Pm{l:List Oper}{rs:PW}(hok:re l=true)(Vc:∀i o,l[i]?=some o->QV P l.toArray o (FL l rs (fun _=>true) F i) H (rs.getD i .any))(hK:Q .normal (FL l rs (fun _=>true) F l.length) H)(w0:NW) :
  ∀(fuel:Nat) (listed:Array Bool),listed.size=l.length->l5 l (fun i=>listed.getD i false)->(List.range l.length).countP (fun i=>!listed.getD i false)=fuel->
   ∀(w:NW) tm,aN w H->bU w (FL l rs (fun i=>listed.getD i false) F l.length) tm->Ext w0 H w H->wpAny P .any l.toArray (fK Q w0 H) fuel listed ⟨tm,[]⟩ w.toWorld:=by
 obtain⟨Qd,Qi⟩:=sr hok
 -- when all are done
 have fin:∀(listed:Array Bool),(∀i,i<l.length->listed.getD i false=true)->∀(w:NW) tm,aN w H->bU w (FL l rs (fun i=>listed.getD i false) F l.length) tm->Ext w0 H w H->fK Q w0 H .normal ⟨tm,[]⟩ w.toWorld:=by
  intro listed Qp w tm h1 h2 h3;have e:FL l rs (fun i=>listed.getD i false) F l.length=FL l rs (fun _=>true) F l.length:=by
   have gen:∀m,m<=l.length->FL l rs (fun i=>listed.getD i false) F m=FL l rs (fun _=>true) F m:=by
    intro m;induction m with
    |zero=>intro _;rfl
    |succ m ih=>intro hm;rw[FL,FL,ih jB,Qp m jB]
   exact gen _ jl
  rw[e]at h2;exact⟨tm,_,H,w,rfl,rfl,hK,h1,h2,h3.pm⟩
 intro fuel;induction fuel with
 |zero=>
  intro listed Qh Sq TT w tm h1 h2 h3;have Qp:∀i,i<l.length->listed.getD i false=true:=fun i hi=>by have:=(List.countP_eq_zero.1 TT) i (List.mem_range.2 hi);simpa using this
  refine⟨?_,fin listed Qp w tm h1 h2 h3⟩;rw[List.eq_nil_iff_forall_not_mem];intro j hj;obtain⟨Vd,o,ho,_⟩:=mem_ready.1 hj;have TF:j<l.length:=by have:=(Array.getElem?_eq_some_iff.1 ho).1;simpa using this
  have:=Qp j TF;simp[Qh,TF]at this Vd;rw[this]at Vd;cases Vd
 |succ fuel ih=>
  intro listed Qh Sq TT w tm h1 h2 h3;refine⟨fun Ve=>?_,fun i hi=>?_⟩
  ·-- some operation is ready
   exfalso;have hex:∃i,i<l.length/\listed.getD i false=false:=by have Rl:0<(List.range l.length).countP (fun i=>!listed.getD i false):=jB;obtain⟨i,hi,hp⟩:=List.countP_pos_iff.1 Rl;exact⟨i,List.mem_range.1 hi,by simpa using hp⟩
   obtain⟨i,⟨hi,hf⟩,SZ⟩:=exists_least hex;have ho:l[i]?=some l[i]:=List.getElem?_eq_getElem hi;have:i∈Region.ready .any l.toArray listed:=mem_ready.2 ⟨by simp[Qh,hi]at hf ⊢;exact hf,l[i],by simp[hi],fun e he hb=>by
    have h4:=Qd i _ ho e (by simpa using he) hb;cases hv:listed.getD e.on false with
    |true=>rfl
    |false=>have:=SZ e.on ⟨jB,hv⟩;omega⟩
   rw[Ve]at this;cases this
  ·obtain⟨Sr,o,ho,Q1⟩:=mem_ready.1 hi;have SI:l[i]?=some o:=by simpa using ho
   have RI:=(List.getElem?_eq_some_iff.1 SI).1;have Uj:listed.getD i false=false:=by simp[Qh,RI]at Sr ⊢;exact Sr
   have Rs:∀e∈o.after.toList,Region.binds .any e=true->listed.getD e.on false=true:=fun e he hb=>Q1 e (by simpa using he) hb
   have Qu:=sx Sq Qd (i+1) i jB o SI Rs
   -- who writes where o touches
   have Yk:∀k o' s,l[k]?=some o'->o'.dst=some s->(s∈looks l o\/o.dst=some s)->listed.getD k false=decide (k<i):=by
    intro k o' s hk hs SJ;rcases Nat.lt_trichotomy k i with h|h|h
    ·rw[decide_eq_true h];refine Qu k (Qi k i o' o h hk SI ?_);unfold rY;rw[hs];rcases SJ with h5|h5
     ·simp[h5]
     ·simp[h5]
    ·subst h;simpa using Uj
    ·rw[decide_eq_false jB];cases hv:listed.getD k false with
     |false=>rfl
     |true=>
      have RY:i∈(iX l).getD k []:=Qi i k o o' h SI hk (by
       unfold rY;rw[hs];rcases SJ with h5|h5
       ·simp[h5]
       ·simp[h5])
      have:=sx Sq Qd (k+1) k jB o' hk (fun e he hb=>Sq k o' hk hv e he hb) i RY;rw[Uj]at this;cases this
   have Rp:ug l.toArray o (FL l rs (fun _=>true) F i) (FL l rs (fun i=>listed.getD i false) F l.length):=by
    refine FF (by rw[j4,j4]) fun s hs g'=>?_
    rw[j4]at g';rw[qw _ _ _ _ g',qw _ _ _ _ g',BI (fun k o' hk hd=>Yk k o' s hk hd (.inl hs)),show min l.length i=i from jB]
   have Uk:=Vc i o SI _ Rp;have Sc:∀k,(listed.setIfInBounds i true).getD k false=(listed.getD k false || k == i):=fun k=>by
    by_cases hk:k=i
    ·subst hk;simp[Qh,RI]
    ·simp[Array.getElem?_setIfInBounds_ne (Ne.symm hk),hk]
   have Te:bO (FL l rs (fun i=>listed.getD i false) F l.length) o.dst (rs.getD i .any)=FL l rs (fun k=>(listed.setIfInBounds i true).getD k false) F l.length:=by
    refine GK (m':=0) (L':=fun _=>true) (by cases o.dst<;>simp[bO,j4]) fun s hs=>?_
    by_cases hd:o.dst=some s
    ·rw[Ax (L:=fun i=>listed.getD i false) SI Sc (fun k o' hk Vf=>Yk k o' s hk Vf (.inr hd)) hd _ RI,hd];simp[bO,j4,hs]
    ·rw[zf (L:=fun i=>listed.getD i false) SI Sc hd,<-qw _ _ _ _ hs];cases Vf:o.dst with
     |none=>rfl
     |some d=>
      have:d≠s:=fun e=>hd (by rw[Vf,e])
      simp[bO,List.getElem?_set,this]
   have:=Uk w tm (fK Q w0 H) (wpAny P .any l.toArray (fK Q w0 H) fuel (listed.setIfInBounds i true)) h1 h2 (by
    rintro Qv w' F' H' ⟨rfl,rfl⟩ g1 g2 g3;refine ih (listed.setIfInBounds i true) (by simpa using Qh) ?_ ?_ w' Qv g1 (by rw[<-Te];exact g2) (h3.trans g3)
    ·intro j o' hj RZ e he hb;simp only[Sc]at RZ ⊢;rcases Bool.or_eq_true_iff.1 RZ with h6|h6
     ·have h7:listed.getD e.on false=true:=Sq j o' hj h6 e he hb;rw[h7];rfl
     ·obtain rfl:j=i:=by simpa using h6
      rw[SI]at hj;cases hj;rw[Rs e he hb];rfl
    ·have:∀(n:Nat),i<n->(List.range n).countP (fun k=>!(listed.setIfInBounds i true).getD k false)+1=(List.range n).countP (fun k=>!listed.getD k false):=by
      intro n;induction n with
      |zero=>intro h;omega
      |succ n ihn=>
       intro h;rw[List.range_succ,List.countP_append,List.countP_append];by_cases hn:n=i
       ·subst hn;have:(List.range n).countP (fun k=>!(listed.setIfInBounds n true).getD k false)=(List.range n).countP (fun k=>!listed.getD k false):=by
         refine List.countP_congr fun k hk=>?_
         rw[Sc];have:k≠n:=by have:=List.mem_range.1 hk;omega
         simp[this]
        rw[this];simp only[List.countP_singleton,Sc,Uj];simp
       ·rw[<-ihn jB];simp only[List.countP_singleton,Sc];have:(n == i)=false:=by simpa using hn
        rw[this,Bool.or_false];omega
     have:=this l.length RI;omega)
   unfold wpOp;rw[ho];exact this
def JS{id:Nat}{l:List Oper}(hm:P.follows .mixedOrders=true)(hok:re l=true)(h:fM P l.toArray H (fun F'=>Q .normal F' H) l F):cz P (.region id l.toArray true) Q F H:=fun w tm h1 h2=>by
 obtain⟨rs,C'⟩:=D7 l F h;obtain⟨Vc,hK⟩:=G0 l F rs C';have hz:∀i,(Array.replicate l.toArray.size false).getD i false=false:=fun i=>by by_cases hi:i<l.length<;>simp[Array.getElem?_replicate,hi]
 refine wp_region_any hm ?_;have e0:FL l rs (fun i=>(Array.replicate l.toArray.size false).getD i false) F l.length=F:=by
  have gen:∀m,FL l rs (fun i=>(Array.replicate l.toArray.size false).getD i false) F m=F:=by
   intro m;induction m with
   |zero=>rfl
   |succ m ih=>rw[FL,hz,if_neg jE,ih]
  exact gen _
 exact Pm hok Vc hK w l.toArray.size (Array.replicate l.toArray.size false) jE (fun j o _ hj=>by have:=(hz j).symm.trans hj;cases this) (by rw[List.countP_eq_length.2 (fun i _=>by rw[hz];rfl)];simp) (w.to w.drew) tm h1.drew (by rw[e0];exact h2.ext (Ext.drew w H)) (Ext.drew w H)
end
section
variable {P:P6}{ops:Array Oper}{H:Hp}{K:PW->Prop}{F:PW}{dst:Option Tmp}{ty:P1}{pos:String}{after:Array Edge}{rest:List Oper}
@[go_sem] def j41:fM P ops H K [] F=K F:=(rfl)
@[go_sem] def j3B(x:Operand):fM P ops H K (⟨dst,.move x,ty,pos,after,none⟩::rest) F=fM P ops H K rest (bO F dst (bw F x)):=by simp[fM,vq]
@[go_sem] def jzX(x:Operand):fM P ops H K (⟨dst,.assign x,ty,pos,after,none⟩::rest) F=fM P ops H K rest (bO F dst (bw F x)):=by simp[fM,vq]
@[go_sem] def jwK:(∀(x:Operand),fM P ops H K (⟨dst,.nilCheck x,ty,pos,after,none⟩::rest) F=((l4 P (bw F x)).1/\fM P ops H K rest (bO F dst (l4 P (bw F x)).2)))/\(∀(t:P1) (x:Operand),fM P ops H K (⟨dst,.load t x,ty,pos,after,none⟩::rest) F=((kL P H t (bw F x)).1/\fM P ops H K rest (bO F dst (kL P H t (bw F x)).2)))/\(∀(t:P1) (x:Operand) (f:Nat),fM P ops H K (⟨dst,.fieldAddr t x f,ty,pos,after,none⟩::rest) F=((mK P t (bw F x) f).1/\fM P ops H K rest (bO F dst (mK P t (bw F x) f).2)))/\(∀(t:P1) (x:Operand) (f:Nat),fM P ops H K (⟨dst,.field t x f,ty,pos,after,none⟩::rest) F=((nP P t (bw F x) f).1/\fM P ops H K rest (bO F dst (nP P t (bw F x) f).2)))/\(∀(t:P1) (x i:Operand),fM P ops H K (⟨dst,.indexAddr t x i,ty,pos,after,none⟩::rest) F=((mJ P t (bw F x) (bw F i)).1/\fM P ops H K rest (bO F dst (mJ P t (bw F x) (bw F i)).2)))/\(∀(as:Array Operand) (ts:Array P1),fM P ops H K (⟨dst,.call ⟨.builtin .len,as,ts⟩,ty,pos,after,none⟩::rest) F=((jU P H .len ts.toList (as.toList.map (bw F))).1/\fM P ops H K rest (bO F dst (jU P H .len ts.toList (as.toList.map (bw F))).2)))/\(∀(op:BinOp) (t:P1) (x y:Operand) (t':P1),fM P ops H K (⟨dst,.binOp op t x y t',ty,pos,after,none⟩::rest) F=((dX P op t (bw F x) (bw F y)).1/\fM P ops H K rest (bO F dst (dX P op t (bw F x) (bw F y)).2)))/\(∀(f:Operand) (as:Array Operand) (ts:Array P1),fM P ops H K (⟨dst,.call ⟨.value f,as,ts⟩,ty,pos,after,none⟩::rest) F=∃r,(dp P (bw F f) (as.toList.map (bw F)) H fun r' H'=>r'=r/\H'=H)/\fM P ops H K rest (bO F dst r)):=by and_intros<;>(intros;rfl)
end
end Go.Gd