/- Lemmas. No conditions. -/
import Derived.Test.YtfkgcobaheegbaaGreatDoorGdE
import Derived.Deep.RegionWith
import Derived.Laws.Append
set_option linter.all false
namespace Go.Gd
open Go
section
variable {P:Program}{w:NW}{H:Hp}
variable{a:Option AV}{v:Option Value}
theorem nO{i:Option Int}(ha:rk a=some i)(hr:∀x y,a=some x->v=some y->aw w x y)(hs:a.isSome=v.isSome):(i=none/\v=none)\/∃k n,i=some n/\v=some (.int k n):=by
 cases a with
 |none=>
  simp[rk]at ha;cases v with
  |none=>exact .inl ⟨ha.symm,rfl⟩
  |some _=>simp at hs
 |some x=>
  cases v with
  |none=>simp at hs
  |some y=>
   unfold rk at ha;split at ha<;>try cases ha
   ·rename_i h;cases h
   ·rename_i k n h;cases h;have:=dm (hr _ _ rfl rfl);subst this;exact .inr ⟨k,n,rfl,rfl⟩
variable{vlo vhi:Option Value}{lo:Option Int}
theorem vj{isSlice:Bool}{len cap:Nat}{hi:Option Int}(hlo:(lo=none/\vlo=none)\/∃k n,lo=some n/\vlo=some (.int k n))(hhi:(hi=none/\vhi=none)\/∃k n,hi=some n/\vhi=some (.int k n))
  (h0:0<=lo.getD 0) (h1:lo.getD 0<=hi.getD len) (h2:hi.getD len<=cap):(Instr.sliceBounds isSlice len cap vlo vhi none).run P w=.ok ((lo.getD 0).toNat,(hi.getD len).toNat,cap) w:=by
 rcases hlo with⟨rfl,rfl⟩|⟨k,n,rfl,rfl⟩<;>rcases hhi with⟨rfl,rfl⟩|⟨k',m,rfl,rfl⟩<;>simp only[Option.getD_some,Option.getD_none]at*
 ·simp[Instr.sliceBounds]
 ·simp[Instr.sliceBounds,run_sliceBound w _ _ _ _ (show 0<=m from jB) h2]
 ·simp[Instr.sliceBounds,run_sliceBound w _ _ _ _ h0 h1]
 ·simp[Instr.sliceBounds,run_sliceBound w _ _ _ _ (show 0<=m from jB) h2,run_sliceBound w _ _ _ _ h0 (show n<=((m.toNat:Nat):Int) from jB)]
theorem LL{len cap:Nat}{k k2:IntKind}{m q:Int}(hlo:(lo=none/\vlo=none)\/∃k n,lo=some n/\vlo=some (.int k n))
  (h0:0<=lo.getD 0) (h1:lo.getD 0<=q) (h2:q<=m) (h3:m<=cap):(Instr.sliceBounds true len cap vlo (some (.int k2 q)) (some (.int k m))).run P w.toWorld=.ok ((lo.getD 0).toNat,q.toNat,m.toNat) w.toWorld:=by
 rcases hlo with⟨rfl,rfl⟩|⟨k1,n,rfl,rfl⟩<;>simp only[Option.getD_some,Option.getD_none]at*
 ·simp[Instr.sliceBounds,run_sliceBound w.toWorld _ _ _ _ (show 0<=m from jB) h3,run_sliceBound w.toWorld _ _ _ _ (show 0<=q from jB) (show q<=((m.toNat:Nat):Int) from jB)]
 ·simp[Instr.sliceBounds,run_sliceBound w.toWorld _ _ _ _ (show 0<=m from jB) h3,run_sliceBound w.toWorld _ _ _ _ (show 0<=q from jB) (show q<=((m.toNat:Nat):Int) from jB),run_sliceBound w.toWorld _ _ _ _ h0 (show n<=((q.toNat:Nat):Int) from jB)]
variable{vmx:Option Value}
theorem qf{t e:TypeId}{sz:Nat}(hu:P.underlying t=some (.slice e))(hs:dc P e=some sz){A:Option Addr}{n c lo hi mx:Nat}(hb:(Instr.sliceBounds true n c vlo vhi vmx).run P w.toWorld=.ok (lo,hi,mx) w.toWorld) :
  ∃A',(Instr.sliceAt t (.slice A n c) vlo vhi vmx).run P w.toWorld=.ok (.slice A' (hi-lo) (mx-lo)) w.toWorld/\((A=none/\A'=none)\/∃ad,A=some ad/\A'=some (if mx=lo then ad else ad.add (lo*sz))):=by
 cases A with
 |none=>exact⟨none,by simp[Instr.sliceAt,run_underlying hu,Instr.slice,hb,lT hs],.inl ⟨rfl,rfl⟩⟩
 |some ad=>exact⟨some (if mx=lo then ad else ad.add (lo*sz)),by simp only[Instr.sliceAt,run_underlying hu,Instr.slice,hb,lT hs,Sem.run_bind,Result.andThen_ok,Sem.run_pure,Option.map_some];split<;>rfl,.inr ⟨ad,rfl,rfl⟩⟩
theorem FE{i:Int}(ha:rk a=some (some i))(hr:∀x y,a=some x->v=some y->aw w x y)(hs:a.isSome=v.isSome):∃k,v=some (.int k i):=by
 rcases nO ha hr hs with⟨h,_⟩|⟨k,n,h,rfl⟩
 ·cases h
 ·cases h;exact⟨k,rfl⟩
theorem tV(ha:rk a=some none)(hr:∀x y,a=some x->v=some y->aw w x y)(hs:a.isSome=v.isSome):v=none:=by
 rcases nO ha hr hs with⟨_,h⟩|⟨k,n,h,rfl⟩
 ·exact h
 ·cases h
theorem ON(t:TypeId){a:AV}{lo hi mx:Option AV}{va:Value}(ha:aw w a va)(hlo:∀x y,lo=some x->vlo=some y->aw w x y)(slo:lo.isSome=vlo.isSome)
  (hhi:∀x y,hi=some x->vhi=some y->aw w x y) (shi:hi.isSome=vhi.isSome) (hmx:∀x y,mx=some x->vmx=some y->aw w x y) (smx:mx.isSome=vmx.isSome):jV P w (Instr.sliceAt t va vlo vhi vmx) (sC P t a lo hi mx):=by
 intro hq;unfold sC at*;split at hq<;>try exact hq.elim
 ·rename_i s l h e1 e2 e3;obtain rfl:=tV e3 hmx smx;have:=dm ha;subst this;have ht:=xM hq.1;obtain⟨h0,h1,h2⟩:=hq.2;have hb:=vj (P:=P) (w:=w) (isSlice:=false) (nO e1 hlo slo) (nO e2 hhi shi) h0 h1 h2;exact⟨_,by simp[Instr.sliceAt,run_underlying ht,Instr.slice,hb],.raw _⟩
 ·rename_i x sz css d l h e1 e2 e3;obtain rfl:=tV e3 hmx smx;obtain⟨e,hu,hs⟩:=qK hq.1;obtain⟨h0,h1,h2⟩:=hq.2;have key:∀n c:Nat,n=css.length->n<=c->(Instr.sliceBounds true n c vlo vhi none).run P w.toWorld=.ok ((l.getD 0).toNat,(h.getD css.length).toNat,c) w.toWorld:=fun n c hn hc=>by
   subst hn;exact vj (P:=P) (w:=w) (isSlice:=true) (nO e1 hlo slo) (nO e2 hhi shi) h0 h1 jB
  generalize hL:l.getD 0=L at*;generalize hh:h.getD (css.length:Int)=Hh at*;obtain⟨Ln,rfl⟩:=Int.eq_ofNat_of_zero_le h0;obtain⟨Hn,rfl⟩:=Int.eq_ofNat_of_zero_le (show(0:Int)<=Hh from jB);simp only[Int.toNat_natCast]at key ⊢;have hlen:((css.drop Ln).take (Hn-Ln)).length=Hn-Ln:=by simp;omega
  cases ha with
  |gm _ _ A c hx=>
   obtain⟨A',hrun,_⟩:=qf hu hs (A:=A) (key 0 c rfl (Nat.zero_le _));obtain rfl:Hn=0:=by simp at h2;omega
   refine⟨_,hrun,?_⟩;simp only[Nat.zero_sub,List.take_zero];exact .gm _ _ _ _ (fun h=>by cases h)
  |sl _ _ _ ad c vs hn hc hx hsz hb' hH hcell hr=>
   obtain⟨A',hrun,hA⟩:=qf hu hs (A:=some ad) (key _ c rfl hc);refine⟨_,hrun,?_⟩;by_cases hz:Hn-Ln=0
   ·rw[hz,List.take_zero];exact .gm _ _ _ _ (fun h=>by cases h)
   ·rcases hA with⟨h,_⟩|⟨ad',h,rfl⟩
    ·cases h
    cases h;rw[jN];have hg:∀i,i<Hn-Ln->((css.drop Ln).take (Hn-Ln)).getD i []=css.getD (Ln+i) []:=fun i hi=>by simp[List.getElem?_take,hi]
    have:=aw.sl (w:=w) (d:=d) false sz ((css.drop Ln).take (Hn-Ln)) (ad.add (Ln*sz)) (c-Ln) (fun j=>vs (Ln*sz+j)) jB jB (fun h=>by cases h) (fun cs hcs=>hsz _ (List.mem_of_mem_drop (List.mem_of_mem_take hcs))) (by rw[pA];exact hb') (by rw[pA];exact hH)
     (fun i j hi hj=>by
      rw[wh,show Ln*sz+(i*sz+j)=(Ln+i)*sz+j by rw[Nat.add_mul];omega];exact hcell _ j jB hj) (fun i j u hi hu=>by
      rw[hg i jB]at hu;rw[show Ln*sz+(i*sz+j)=(Ln+i)*sz+j by rw[Nat.add_mul];omega];exact hr _ j u jB hu)
    rw[hlen]at this;exact this
 ·rename_i d m sz n h e1 e2 e3;obtain rfl:=tV e3 hmx smx;obtain rfl:=tV e1 hlo slo;obtain⟨e,hu,hs⟩:=qK hq.1;obtain⟨h1,h2⟩:=hq.2;have key:∀c:Nat,n<=c->(Instr.sliceBounds true n c none vhi none).run P w.toWorld=.ok (0,(h.getD n).toNat,c) w.toWorld:=fun c hc=>by
   have:=vj (P:=P) (w:=w) (isSlice:=true) (len:=n) (cap:=c) (lo:=none) (vlo:=none) (.inl ⟨rfl,rfl⟩) (nO e2 hhi shi) jE (by simpa using h1) jB;simpa using this
  cases ha with
  |iO _ _ _ A hn=>
   obtain⟨A',hrun,_⟩:=qf hu hs (A:=A) (key 0 (Nat.zero_le _));have h0:(h.getD 0).toNat=0:=by simp at h2;omega
   refine⟨_,hrun,?_⟩;simp only[Nat.sub_zero,Int.ofNat_zero];rw[h0];exact .iO d m sz A' hn
  |rs _ _ _ _ b t c hn hc hle hs0=>
   obtain⟨A',hrun,hA⟩:=qf hu hs (A:=some ⟨b,0,none⟩) (key c hle);refine⟨_,hrun,?_⟩;rcases hA with⟨h',_⟩|⟨ad',h',rfl⟩
   ·cases h'
   cases h';have:(if c=0 then(⟨b,0,none⟩:Addr)else(⟨b,0,none⟩:Addr).add (0*sz))=⟨b,0,none⟩:=by rw[Nat.zero_mul,Fc];simp
   rw[this];simp only[Nat.sub_zero];exact .rs d m sz _ b t c hn hc jB hs0
 ·rename_i d m sz n l h e1 e2 e3;obtain rfl:=tV e3 hmx smx;obtain⟨e,hu,hs⟩:=qK hq.1;obtain⟨h0,h1,h2⟩:=hq.2;have key:∀c:Nat,n<=c->(Instr.sliceBounds true n c vlo vhi none).run P w.toWorld=.ok (l.toNat,(h.getD n).toNat,c) w.toWorld:=fun c hc=>
   vj (P:=P) (w:=w) (isSlice:=true) (len:=n) (cap:=c) (lo:=some l) (nO e1 hlo slo) (nO e2 hhi shi) h0 h1 jB
  cases ha with
  |iO _ _ _ A hn=>
   obtain⟨A',hrun,_⟩:=qf hu hs (A:=A) (key 0 (Nat.zero_le _));refine⟨_,hrun,?_⟩;have:(h.getD (0:Nat)).toNat-l.toNat=0:=by simp at h1 h2 ⊢;omega
   rw[this];exact .lu d m sz _ _ _
  |rs _ _ _ _ b t c hn hc hle hs0=>
   obtain⟨A',hrun,hA⟩:=qf hu hs (A:=some ⟨b,0,none⟩) (key c hle);refine⟨_,hrun,?_⟩;by_cases hz:(h.getD n).toNat-l.toNat=0
   ·rw[hz];exact .lu d m sz _ _ _
   ·rcases hA with⟨h',_⟩|⟨ad',h',rfl⟩
    ·cases h'
    cases h';rw[jN,lM,Nat.zero_add];exact .rv d m sz _ _ b t _ hn jB
 ·rename_i d m sz o n l h e1 e2 e3;obtain rfl:=tV e3 hmx smx;obtain⟨e,hu,hs⟩:=qK hq.1;obtain⟨h0,h1,h2⟩:=hq.2;have key:∀c:Nat,n<=c->(Instr.sliceBounds true n c vlo vhi none).run P w.toWorld=.ok ((l.getD 0).toNat,(h.getD n).toNat,c) w.toWorld:=fun c hc=>
   vj (P:=P) (w:=w) (isSlice:=true) (len:=n) (cap:=c) (nO e1 hlo slo) (nO e2 hhi shi) h0 h1 jB
  cases ha with
  |lu _ _ _ _ c A=>
   obtain⟨A',hrun,_⟩:=qf hu hs (A:=A) (key c (Nat.zero_le _));refine⟨_,hrun,?_⟩;have:(h.getD (0:Nat)).toNat-(l.getD 0).toNat=0:=by simp at h1 h2 ⊢;omega
   rw[this];exact .lu d m sz _ _ _
  |rv _ _ _ _ _ b t c hn hle=>
   obtain⟨A',hrun,hA⟩:=qf hu hs (A:=some ⟨b,o*sz,none⟩) (key c hle);refine⟨_,hrun,?_⟩;by_cases hz:(h.getD n).toNat-(l.getD 0).toNat=0
   ·rw[hz];exact .lu d m sz _ _ _
   ·rcases hA with⟨h',_⟩|⟨ad',h',rfl⟩
    ·cases h'
    cases h';rw[jN,lM,<-Nat.add_mul];exact .rv d m sz _ _ b t _ hn jB
 ·rename_i d m sz n l h x e1 e2 e3;obtain⟨kx,rfl⟩:=FE e3 hmx smx;obtain⟨kh,rfl⟩:=FE e2 hhi shi;obtain⟨e,hu,hs⟩:=qK hq.1;obtain⟨h0,h1,h2,h3⟩:=hq.2;have key:∀c:Nat,n<=c->(Instr.sliceBounds true n c vlo (some (.int kh h)) (some (.int kx x))).run P w.toWorld=.ok ((l.getD 0).toNat,h.toNat,x.toNat) w.toWorld:=fun c hc=>
   LL (P:=P) (w:=w) (len:=n) (cap:=c) (nO e1 hlo slo) h0 h1 h2 jB
  cases ha with
  |iO _ _ _ A hn=>
   obtain⟨A',hrun,_⟩:=qf hu hs (A:=A) (key 0 (Nat.zero_le _));refine⟨_,hrun,?_⟩;have:h.toNat-(l.getD 0).toNat=0:=by simp at h1 h2 h3 ⊢;omega
   rw[this];exact .lu d m sz _ _ _
  |rs _ _ _ _ b t c hn hc hle hs0=>
   obtain⟨A',hrun,hA⟩:=qf hu hs (A:=some ⟨b,0,none⟩) (key c hle);refine⟨_,hrun,?_⟩;by_cases hz:h.toNat-(l.getD 0).toNat=0
   ·rw[hz];exact .lu d m sz _ _ _
   ·rcases hA with⟨h',_⟩|⟨ad',h',rfl⟩
    ·cases h'
    cases h';rw[jN,lM,Nat.zero_add];exact .rv d m sz _ _ b t _ hn jB
 ·rename_i l h e1 e2 e3;obtain rfl:=tV e3 hmx smx;have:=dm ha;subst this;obtain⟨_,hsz,h0,h1⟩:=hq;obtain⟨sz,hsz⟩:=Option.isSome_iff_exists.1 hsz;obtain⟨e,hu,hs⟩:=qK hsz;have hb:=vj (P:=P) (w:=w) (isSlice:=true) (len:=0) (cap:=0) (nO e1 hlo slo) (nO e2 hhi shi) jB jF jF;simp only[h0,Int.toNat_zero,h1,Int.ofNat_zero]at hb;exact⟨_,by simp[Instr.sliceAt,run_underlying hu,Instr.slice,hb,lT hs],.raw _⟩
theorem Qg(s d:TypeId){a:AV}{v:Value}(h:aw w a v):jV P w (convert s d v) (uo P s d a):=by
 intro hq;unfold uo at*;split at hq<;>try exact hq.elim
 ·rename_i k' n k e;have:=dm h;subst this;have hd:P.underlying d=some (.int k):=by unfold BZ at e;split at e<;>simp_all
  obtain⟨ds,hs⟩:=Option.isSome_iff_exists.1 hq;refine⟨.int k (k.wrap n),?_,.raw _⟩;cases ds<;>simp[convert,run_underlying hs,run_underlying hd,Conv.intToInt]
 ·rename_i s' e;have:=dm h;subst this;have hd:=xM hq.2;obtain⟨ds,hs⟩:=Option.isSome_iff_exists.1 hq.1;refine⟨.string s',?_,.raw _⟩;cases ds<;>simp[convert,run_underlying hs,run_underlying hd]
theorem Gy(mx:Bool)(ts:Array TypeId)(ty:TypeId){l:List AV}{vs:List Value}(h:cf w l vs):jV P w (if mx then Builtin.max_ ts ty vs.toArray else Builtin.min_ ts ty vs.toArray) (xz mx l):=by
 intro hq;unfold xz at*;split at hq<;>try exact hq.elim
 rename_i k a k' b;obtain⟨hl,hr⟩:=h;match vs,hl with
 |[x,y],_=> obtain rfl:k=k':=hq;obtain rfl:=dm (hr 0 _ _ rfl rfl);obtain rfl:=dm (hr 1 _ _ rfl rfl);cases mx<;>exact⟨_,by simp[Builtin.max_,Builtin.min_,Builtin.max2,Builtin.min2];rfl,by simpa using aw.raw _⟩
theorem zI{pl:Nat->Option (Nat×Nat)}:∀{parts:List (Nat×AV)} {vparts:List (Nat×Value)} {cells:List AV} {cur:Array Value} {out:List AV},
  qH pl cells parts=some out->parts.map (·.1)=vparts.map (·.1)->(∀(i:Nat) a v,parts[i]?=some a->vparts[i]?=some v->cf w a.2.cells v.2.cells.toList)->cf w cells cur.toList->
  ∃vs,Instr.fill pl cur vparts=some vs/\cf w out vs.toList
 |[],[],cells,cur,out,h,_,_,hc=>by simp only[qH,Option.some.injEq]at h;subst h;exact⟨cur,rfl,hc⟩
 |[],_::_,_,_,_,_,he,_,_=>by simp at he
 |_::_,[],_,_,_,_,he,_,_=>by simp at he
 |(i,a)::parts,(i',v)::vparts,cells,cur,out,h,he,hr,hc=>by
  simp only[List.map_cons,List.cons.injEq]at he;obtain⟨rfl,he⟩:=he;simp only[qH]at h;split at h
  ·rename_i off k hp;split at h
   ·rename_i hk;have hv:=hr 0 _ _ rfl rfl;simp only at hv;have hlen:v.cells.size=k:=by have:=hv.1;simp at this;omega
    have hcur:cells.length=cur.size:=by simpa using hc.1
    have hset:∀(l:List Value) (o:Nat) (c:Array Value),(l.toArray.zipIdx.foldl (fun cs (x,j)=>cs.setIfInBounds (o+j) x) c)=(c.toList.take o++l++c.toList.drop (o+l.length)).toArray\/c.size<o+l.length:=by
     intro l o c;by_cases hb:c.size<o+l.length
     ·exact .inr hb
     ·refine .inl ?_;have gen:∀(l:List Value) (s:Nat) (c:Array Value),o+s+l.length<=c.size->((l.zipIdx s).foldl (fun(cs:Array Value) (p:Value×Nat)=>cs.setIfInBounds (o+p.2) p.1) c)=(c.toList.take (o+s)++l++c.toList.drop (o+s+l.length)).toArray:=by
       intro l;induction l with
       |nil=>intro s c _;simp
       |cons x l ih=>
        intro s c hb;simp only[List.zipIdx_cons,List.foldl_cons];rw[ih (s+1) _ (by simp at hb ⊢;omega)];apply Array.ext';simp only[Array.toList_setIfInBounds];apply List.ext_getElem?;intro m;simp only[List.length_cons]at hb;rcases Nat.lt_or_ge m (o+s)with h1|h1
        ·rw[List.append_assoc,List.getElem?_append_left jF,List.append_assoc,List.getElem?_append_left jF];simp only[List.getElem?_take,List.getElem?_set];rw[jP,jN,if_pos h1]
        ·rcases Nat.lt_or_ge m (o+s+1)with h2|h2
         ·obtain rfl:m=o+s:=jB;rw[List.append_assoc,List.getElem?_append_left jF,List.append_assoc,List.getElem?_append_right jF];simp only[List.getElem?_take,List.getElem?_set,List.length_take,Array.length_toList];rw[jP];simp only[Nat.add_assoc,if_true];rw[jP,show o+s-min (o+s) c.size=0 from jB];rfl
         ·rw[List.append_assoc,List.append_assoc,List.cons_append,List.getElem?_append_right (l₁:=List.take (o+(s+1)) _) jF,List.getElem?_append_right (l₁:=List.take (o+s) _) jF];simp only[List.length_take,List.length_set,Array.length_toList];rw[show m-min (o+s) c.size=(m-min (o+(s+1)) c.size)+1 from jB,List.getElem?_cons_succ];rcases Nat.lt_or_ge (m-min (o+(s+1)) c.size) l.length with h3|h3
          ·rw[List.getElem?_append_left h3,List.getElem?_append_left h3]
          ·rw[List.getElem?_append_right h3,List.getElem?_append_right h3];simp only[List.getElem?_drop,List.getElem?_set,List.length_cons];rw[jN];congr 1
           omega
      have:=gen l 0 c jB;simp only[Nat.add_zero]at this;rw[<-this,<-Array.foldl_toList];simp
    have hfit:¬(cur.size<off+v.cells.toList.length):=by simp;omega
    have hs:=(hset v.cells.toList off cur).resolve_right hfit;rw[Array.toArray_toList]at hs;obtain⟨vs,h1,h2⟩:=zI (cur:=(cur.toList.take off++v.cells.toList++cur.toList.drop (off+v.cells.toList.length)).toArray) h he (fun i a v ha hv=>hr (i+1) a v (by simpa using ha) (by simpa using hv)) (by
     refine⟨by simp[j8];omega,fun m x y hx hy=>?_⟩;simp only[j8]at hx;rcases Nat.lt_or_ge m off with g1|g1
     ·rw[List.append_assoc,List.getElem?_append_left jF,List.getElem?_take,if_pos g1]at hx hy;exact hc.2 m x y hx hy
     ·rcases Nat.lt_or_ge m (off+a.cells.length)with g2|g2
      ·rw[List.append_assoc,List.getElem?_append_right jF,List.getElem?_append_left jF]at hx hy;simp only[List.length_take,Array.length_toList]at hx hy;rw[show m-min off cells.length=m-off from jB]at hx;rw[show m-min off cur.size=m-off from jB]at hy;exact hv.2 _ x y hx hy
      ·rw[List.getElem?_append_right jF]at hx hy;simp only[List.length_append,List.length_take,Array.length_toList,List.getElem?_drop]at hx hy;rw[show off+a.cells.length+(m-(min off cells.length+a.cells.length))=m from jB]at hx;rw[show off+v.cells.size+(m-(min off cur.size+v.cells.size))=m from jB]at hy;exact hc.2 m x y hx hy)
    refine⟨vs,?_,h2⟩;simp only[Instr.fill,hp];rw[if_neg jF,hs];exact h1
   ·cases h
  ·cases h
theorem MM{t:TypeId}{pl:List (Nat×Nat)}(h:kq P t=some pl):∃fs:Array Field,P.underlying t=some (.struct fs)/\(fs.mapM (m:=Sem) fun f=>do pure (f.offset,<-sizeOf f.type)).run P w.toWorld=.ok pl.toArray w.toWorld:=by
 unfold kq at h;split at h
 ·rename_i fs hu;refine⟨fs,hu,?_⟩;rw[Array.mapM_eq_mapM_toList];have gen:∀(l:List Field) (pl:List (Nat×Nat)),l.mapM (fun f=>(dc P f.type).map fun k=>(f.offset,k))=some pl->(l.mapM (m:=Sem) fun f=>do pure (f.offset,<-sizeOf f.type)).run P w.toWorld=.ok pl w.toWorld:=by
   intro l;induction l with
   |nil=>intro pl h;simp at h;subst h;simp
   |cons f l ih=> intro pl h;rw[List.mapM_cons]at h;simp only[Option.bind_eq_bind,Option.bind_eq_some_iff,Option.map_eq_some_iff,Option.pure_def,Option.some.injEq]at h;obtain⟨p,⟨k,hk,rfl⟩,rest,hrest,rfl⟩:=h;rw[List.mapM_cons];simp only[Sem.run_bind,lT hk,Result.andThen_ok,Sem.run_pure,ih rest hrest]
  simp only[Sem.run_map,gen fs.toList pl h,Result.andThen_ok]
 ·cases h
theorem K5(t:TypeId){parts:List (Nat×AV)}{vparts:Array (Nat×Value)}(h1:parts.map (·.1)=vparts.toList.map (·.1))(h2:∀(i:Nat) a v,parts[i]?=some a->vparts.toList[i]?=some v->aw w a.2 v.2):jV P w (Instr.build t vparts) (sO P t parts):=by
 intro hq;unfold sO at*;split at hq<;>try exact hq.elim
 rename_i zs pl e1 e2;split at hq<;>try exact hq.elim
 rename_i out hf;obtain⟨z,hz,rfl⟩:=yc (w:=w) e1;obtain⟨fs,hu,hp⟩:=MM (w:=w) e2;simp only[da,List.all_eq_true]at hq;have hone:∀(i:Nat) a,parts[i]?=some a->da a.2.cells=true:=fun i a ha=>by simp only[da,List.all_eq_true];intro x hx;exact hq x (List.mem_flatten.2 ⟨_,List.mem_map.2 ⟨a,List.mem_of_getElem? ha,rfl⟩,hx⟩)
 obtain⟨vs,g1,g2⟩:=zI (w:=w) (cur:=z.cells) hf h1 (fun i a v ha hv=>(h2 i a v ha hv).gu (hone i a ha))
  ⟨jE,fun i a v ha hv=>by simp only[List.getElem?_map,Option.map_eq_some_iff]at ha;obtain⟨x,hx,rfl⟩:=ha;rw[hx]at hv;cases hv;exact .raw _⟩
 refine⟨.agg vs,?_,.agg _ _ (by have:=g2.1;simpa using this) fun i a v ha hv=>g2.2 i a v ha (by simpa using hv)⟩;have e:(fun i:Nat=>pl.toArray[i]?)=(fun i:Nat=>pl[i]?):=by funext i;simp
 simp only[Instr.build,Sem.run_bind,hz,Result.andThen_ok,run_underlying hu,hp,e,g1,Sem.run_pure]
end
section
variable {P:Program}{w:NW}{H:Hp}{ρ:Operand->Value}{ev:Operand->AV}
theorem vK(hr:∀x,aw w (ev x) (ρ x))(l:List Operand):cf w (l.map ev) (l.map ρ):=
 ⟨jE,fun i a v ha hv=>by simp only[List.getElem?_map,Option.map_eq_some_iff]at ha hv;obtain⟨x,hx,rfl⟩:=ha;obtain⟨y,hy,rfl⟩:=hv;rw[hx]at hy;cases hy;exact hr x⟩
theorem AE(hr:∀x,aw w (ev x) (ρ x))(o:Option Operand):∀x y,o.map ev=some x->o.map ρ=some y->aw w x y:=by
 intro x y hx hy;cases o with
 |none=>cases hx
 |some z=>cases hx;cases hy;exact hr z
theorem mb{s:Sem Value}{q:PA}(hq:q.1)(h:jV P w s q):∃v,(do pure (Next.value (<-s)):Sem Next).run P w.toWorld=.ok (.value v) w.toWorld/\aw w q.2 v:=by obtain⟨v,h1,h2⟩:=h hq;exact⟨v,by simp[h1],h2⟩
theorem G3{c a b:Operand}{x y z:AV}{dst:Option Tmp}{ty:TypeId}{pos:String}{after:Array Edge}{guard:Option (Nat×Bool)}(hc:aw w x (ρ c))(ha:aw w y (ρ a))(hb:aw w z (ρ b))(hq:(nG x y z).1) :
  ∃v,(execOp ρ ⟨dst,.pick c a b,ty,pos,after,guard⟩).run P w.toWorld=.ok (.value v) w.toWorld/\aw w (nG x y z).2 v:=by
 obtain⟨v,h1,h2⟩:=D5 (P:=P) hc ha hb hq;refine⟨v,?_,h2⟩;simp only[execOp,Sem.run_bind,Sem.run_pure]at h1 ⊢;cases hb:(asBool (ρ c)).run P w with
 |ok x w'=>rw[hb]at h1;simp only[Result.andThen_ok,Result.ok.injEq]at h1 ⊢;exact⟨by rw[h1.1],h1.2⟩
 |halt e w'=>rw[hb]at h1;simp at h1
theorem zk(o:Oper)(hw:aO w H)(hr:∀x,aw w (ev x) (ρ x))(hq:(vq P ev H o.op).1):∃v,(execOp ρ o).run P w.toWorld=.ok (.value v) w.toWorld/\aw w (vq P ev H o.op).2 v:=by
 obtain⟨dst,op,ty,pos,after,guard⟩:=o;cases op
 case move x=>exact⟨_,rfl,hr x⟩
 case assign x=>exact⟨_,rfl,hr x⟩
 case pick c a b=>
  obtain⟨v,h1,h2⟩:=D5 (P:=P) (hr c) (hr a) (hr b) hq;refine⟨v,?_,h2⟩;simp only[execOp,Sem.run_bind,Sem.run_pure]at h1 ⊢;cases hb:(asBool (ρ c)).run P w with
  |ok x w'=>rw[hb]at h1;simp only[Result.andThen_ok,Result.ok.injEq]at h1 ⊢;exact⟨by rw[h1.1],h1.2⟩
  |halt e w'=>rw[hb]at h1;simp at h1
 case nilCheck x=>exact Kk x rfl (hr x) _ rfl hq
 case binOp op t x y t'=>exact mb hq (D2 op t x y (hr x) (hr y))
 case unOp op t x=>exact mb hq (Lu op (hr x))
 case load t a=>exact mb hq (Qb t (hr a) hw)
 case fieldAddr t a f=>exact mb hq (L7 t f (hr a))
 case field t a f=>exact mb hq (J8 t f (hr a))
 case indexAddr t a i=>exact mb hq (Ki t (hr a) (hr i))
 case index t a i=>exact mb hq (M9 t (hr a) (hr i))
 case extract a i=>exact mb hq (Ms (hr a) i)
 case slice t a lo hi mx=>exact mb hq (ON t (hr a) (AE hr lo) (by cases lo<;>rfl) (AE hr hi) (by cases hi<;>rfl) (AE hr mx) (by cases mx<;>rfl))
 case makeFunc fn first captured=>
  have:=Mx (P:=P) fn (vK hr first.toList) (vK hr captured.toList);have e1:(first.toList.map ρ).toArray=first.map ρ:=by rw[<-Array.toList_map,Array.toArray_toList]
  have e2:(captured.toList.map ρ).toArray=captured.map ρ:=by rw[<-Array.toList_map,Array.toArray_toList]
  rw[e1,e2]at this;exact mb hq this
 case makeInterface t x=>exact mb hq (Jh t (hr x))
 case convert s d x=>exact mb hq (Qg s d (hr x))
 case build t parts=> refine mb hq (K5 t jE fun i a v ha hv=>?_);simp only[List.getElem?_map,Option.map_eq_some_iff,Array.toList_map,Array.getElem?_toList]at ha hv;obtain⟨x,hx,rfl⟩:=ha;obtain⟨y,hy,rfl⟩:=hv;rw[hx]at hy;cases hy;exact hr x.2
 case call c=>
  obtain⟨callee,args,argTypes⟩:=c;cases callee
  case builtin b=>
   simp only[vq]at hq ⊢;generalize hts:argTypes.toList=ts at*;obtain rfl:argTypes=ts.toArray:=by rw[<-hts]
   have hrl:=vK hr args.toList;have hargs:args.map ρ=(args.toList.map ρ).toArray:=by rw[<-Array.toList_map,Array.toArray_toList]
   have hrun:∀s:Sem Value,(∀cs,builtin b ts.toArray ty cs (args.toList.map ρ).toArray=(do pure (Next.value (<-s))))->(execOp ρ ⟨dst,.call ⟨.builtin b,args,ts.toArray⟩,ty,pos,after,guard⟩)=(do pure (Next.value (<-s))):=by intro s hs;simp only[execOp,resolve,pure_bind,invoke,hargs];exact hs _
   generalize hus:args.toList.map ρ=us at*;generalize hals:args.toList.map ev=als at*;unfold ng at*;split at hq<;>try exact hq.elim
   ·rename_i t ts x als;cases us with
    |nil=>have:=hrl.1;simp at this
    |cons u us=> rw[hrun _ (fun _=>rfl)];exact mb hq (KL ty t ts us hw (hrl.2 0 _ _ rfl rfl))
   ·rename_i t ts x als;cases us with
    |nil=>have:=hrl.1;simp at this
    |cons u us=> rw[hrun _ (fun _=>rfl)];exact mb hq (L3 ty t ts us (hrl.2 0 _ _ rfl rfl))
   ·rw[hrun _ (fun _=>rfl)];have:=Gy (P:=P) true ts.toArray ty hrl;exact mb hq this
   ·rw[hrun _ (fun _=>rfl)];have:=Gy (P:=P) false ts.toArray ty hrl;exact mb hq this
  all_goals exact hq.elim
 all_goals exact hq.elim
end
universe u
def bz(P:Program)(f:FuncId):Bool:=match P.funcs[f]? with
 | some fn => fn.body.isSome && !(fn.name == "runtime.NumGoroutine")
 |none=>false
def eG(P:Program)(f:FuncId)(args:List AV)(r:AV):Prop:=aj P f args [] fun r' l'=>r'=r/\l'=[]
def eW(P:Program)(f:FuncId)(args:List AV)(H:Hp)(K:AV->Hp->Prop):Prop:=
 ∀(w:NW) (vs:Array Value),aO w H->bc w args vs->Calls P f vs w.toWorld fun e W=>∃v r H' w',W=NW.toWorld w'/\e=.returned v/\K r H'/\aO w' H'/\aw w' r v/\Ext w H w' H'
theorem eW.mono{P:Program}{f:FuncId}{args:List AV}{H:Hp}{K K':AV->Hp->Prop}(h:eW P f args H K)(hk:∀r H,K r H->K' r H):eW P f args H K':=
 fun w vs h1 h2=>(h w vs h1 h2).mono fun _ _ ⟨v,r,H',w',e0,e,k,g⟩=>⟨v,r,H',w',e0,e,hk _ _ k,g⟩
def BW:AV->Option (FuncId×List AV×List AV)
 |.raw (.func (.func f) first captured)=>some (f,first.toList.map .raw,captured.toList.map .raw)
 |.fQ f cs=>some (f,[],cs)
 |.bd f fs=>some (f,fs,[])
 |_=>none
-- what follows is hidden from simp: an argument that a later one's type hangs on is held fixed
inductive gb{α:Sort u}(a:α):Type
 |mk
def rR(H:Hp)(A:Nat->Prop)(_:gb A):Prop:=∃i,H.get i=none/\A i
def vE(P:Program)(H:Hp)(t:TypeId)(a x:AV)(K:AV->Hp->Prop):Prop:=match a,dc P t with
 |.pt i m k j,some n=>match H.get i with
  |some r=>(da x.cells=true/\x.cells.length=n/\CI r m k j n)/\K .any (H.put i (ze r k j x.cells))
  |none=>False
 |_,_=>False
def nP(P:Program)(H:Hp)(t:TypeId)(K:AV->Hp->Prop):Prop:=match eT P t with
 |some zs=>rR H (fun i=>K (.pt i 0 0 0) (H.put i (.var t (zs.map .raw)))) .mk
 |none=>False
def rm(H:Hp)(t:TypeId)(x:AV)(K:AV->Hp->Prop):Prop:=da x.cells=true/\rR H (fun i=>K (.pt i 0 0 0) (H.put i (.var t x.cells))) .mk
def vO(sz:Nat):Nat->List (Nat×AV)->Prop
 |_,[]=>True
 |k,(i,a)::rest=>(i=k/\da a.cells=true/\a.cells.length=sz)/\vO sz (k+1) rest
theorem Ey{sz:Nat}:∀{k:Nat} {l:List (Nat×AV)},vO sz k l->l.map (·.1)=List.range' k l.length/\∀p∈l,da p.2.cells=true/\p.2.cells.length=sz
 |_,[],_=>⟨rfl,fun p hp=>by simp at hp⟩
 |k,(i,a)::rest,h=>by
  obtain⟨⟨rfl,h1,h2⟩,h3⟩:=h;obtain⟨g1,g2⟩:=Ey h3;refine⟨by simp[g1,List.range'_succ],fun p hp=>?_⟩;rcases List.mem_cons.1 hp with rfl|hp
  ·exact⟨h1,h2⟩
  ·exact g2 p hp
def mj(parts:List (Nat×AV)):List (List AV):=parts.map (·.2.cells)
def qC(e:TypeId)(sz:Nat)(css:List (List AV))(H:Hp)(K:AV->Hp->Prop):Prop:=
 (aW dY css.flatten=true/\K (.sl true sz css []) H)\/(0<sz/\∃i,H.get i=none/\K (.rs i css.length sz css.length) (H.put i (.aL e sz css)))
def nq(P:Program)(H:Hp)(t:TypeId)(n:Nat)(parts:List (Nat×AV))(K:AV->Hp->Prop):Prop:=match iH P t with
 |some e=>match dc P e with
  |some sz=>(parts.length=n/\vO sz 0 parts/\n*sz<=16777216/\(n*sz=0\/(eT P e).isSome=true))/\
   qC e sz (mj parts) H K
  |none=>False
 |none=>False
def p9(P:Program)(ne:Bool)(t:TypeId)(x y:AV)(H:Hp)(K:AV->Hp->Prop):Prop:=match x,y with
 |.sl _ _ css _,.raw (.slice none 0 0)=>iu P t=true/\∀b:Bool,(b=true->css=[])->K (.raw (.bool (ne ^^ b))) H
 |.rs _ _ _ n,.raw (.slice none 0 0)=>iu P t=true/\∀b:Bool,(b=true->n=0)->K (.raw (.bool (ne ^^ b))) H
 |x,y=>(fD P (if ne then .neq else .eql) t x y).1/\K (fD P (if ne then .neq else .eql) t x y).2 H
def tj(H:Hp):AV->Option (Prop×List (List AV))
 |.sl _ _ css _=>some (True,css)
 |.rs i m sz n=>match H.get i with
  |some (.aL _ sz' css)=>some (sz'=sz/\m=css.length/\n<=m,css.take n)
  |_=>none
 |.rv i m sz o n=>match H.get i with
  |some (.aL _ sz' css)=>some (sz'=sz/\m=css.length/\o+n<=m,(css.drop o).take n)
  |_=>none
 |.raw (.slice none 0 0)=>some (True,[])
 |_=>none
def ju(P:Program)(t:TypeId):Nat:=((P.info? t).map (·.bytes)).getD 0
def room(by_ n:Nat):Prop:=n*by_<=140737488355328/\n<=9223372036854775807
def iD(css:List (List AV))(n:Nat)(ys:List (List AV)):List (List AV):=css.take n++ys++css.drop (n+ys.length)
def te(i:Nat)(e:TypeId)(m sz n:Nat)(css ys:List (List AV))(H:Hp)(K:AV->Hp->Prop):Prop:=if n=m then K (.rs i (m+ys.length) sz (n+ys.length)) (H.put i (.aL e sz (css++ys)))else K (.rs i (max m (n+ys.length)) sz (n+ys.length)) (H.put i (.aL e sz (iD css n ys)))
theorem Pk(css ys:List (List AV)):iD css css.length ys=css++ys:=by simp[iD]
variable{css:List (List AV)}
theorem Gv{n:Nat}(ys:List (List AV))(h:n<=css.length):(iD css n ys).length=max css.length (n+ys.length):=by simp[iD];omega
theorem My{i:Nat}{e:TypeId}{sz n:Nat}{ys:List (List AV)}{H:Hp}{K:AV->Hp->Prop}(h:te i e css.length sz n css ys H K):K (.rs i (max css.length (n+ys.length)) sz (n+ys.length)) (H.put i (.aL e sz (iD css n ys))):=by
 unfold te at h;split at h
 ·rename_i e;subst e;rw[Pk,Nat.max_eq_right jB];exact h
 ·exact h
def Bs(by_:Nat)(e:TypeId)(sz:Nat)(ys:List (List AV))(a:AV)(H:Hp)(K:AV->Hp->Prop):Prop:=match a with
 |.rs i m sz' n=>match H.get i with
  |some (.aL e' sz'' css)=>(e'=e/\sz'=sz/\sz''=sz/\m=css.length/\n<=m/\room by_ (n+ys.length))/\te i e m sz n css ys H K
  |_=>False
 |.raw (.slice none 0 0)=>room by_ ys.length/\rR H (fun i=>K (.rs i ys.length sz ys.length) (H.put i (.aL e sz ys))) .mk
 |.sl true sz' css _=>(sz'=sz/\room by_ (css.length+ys.length)/\(css.length=0\/0<ys.length))/\rR H (fun i=>K (.rs i (css.length+ys.length) sz (css.length+ys.length)) (H.put i (.aL e sz (css++ys)))) .mk
 |_=>False
def wS(P:Program)(t:TypeId)(a x:AV)(H:Hp)(K:AV->Hp->Prop):Prop:=match iH P t with
 |some e=>match dc P e,eT P e,tj H x with
  |some sz,some zs,some (c,ys)=>(zs.length=sz/\0<sz/\c/\lA sz ys)/\Bs (ju P e) e sz ys a H K
  |_,_,_=>False
 |none=>False
def pT(P:Program)(t t':TypeId)(a x:AV)(H:Hp)(K:AV->Hp->Prop):Prop:=
 ∀(w:NW) va vx ty,aO w H->aw w a va->aw w x vx->∃(w':NW) (H':Hp) (r:AV) (v:Value),(Builtin.append_ #[t,t'] ty #[va,vx]).run P w.toWorld=.ok v w'.toWorld/\K r H'/\aO w' H'/\aw w' r v/\Ext w H w' H'
def sy(P:Program)(b:Builtin)(ts:List TypeId)(args:List AV)(H:Hp)(K:AV->Hp->Prop):Prop:=
 ∀(w:NW) vs ty cs,aO w H->cf w args vs->∃(w':NW) (H':Hp) (r:AV) (v:Value),(builtin b ts.toArray ty cs vs.toArray).run P w.toWorld=.ok (.value v) w'.toWorld/\K r H'/\aO w' H'/\aw w' r v/\Ext w H w' H'
def js(P:Program)(o:Op)(ty:TypeId)(ev:Operand->AV)(H:Hp)(K:AV->Hp->Prop):Prop:=
 ∀(w:NW) ρ dst pos after guard,aO w H->(∀x∈o.operands.toList,aw w (ev x) (ρ x))->∃(w':NW) (H':Hp) (r:AV),K r H'/\aO w' H'/\Ext w H w' H'/\
  ((∃v,(execOp ρ ⟨dst,o,ty,pos,after,guard⟩).run P w.toWorld=.ok (.value v) w'.toWorld/\aw w' r v)\/((execOp ρ ⟨dst,o,ty,pos,after,guard⟩).run P w.toWorld=.ok .skip w'.toWorld/\r=.any))
def JT(P:Program)(f:FuncId)(args:List AV)(H:Hp)(K:AV->Hp->Prop):Prop:=
 ∀(w:NW) vs,aO w H->bc w args vs->∃(v:Value) (w':NW) (r:AV) (H':Hp),(callFunc f vs).run P w.toWorld=.ok (.value v) w'.toWorld/\K r H'/\aO w' H'/\aw w' r v/\Ext w H w' H'
def fI(P:Program)(f:AV)(args:List AV)(H:Hp)(K:AV->Hp->Prop):Prop:=match BW f with
 |some (f,first,captured)=>(bz P f=true/\eW P f (first++args++captured) H K)\/JT P f (first++args++captured) H K
 |none=>False
def dh:Op->Bool
 |.box .. |.alloc _|.store .. |.buildSlice .. |.makeMap .. |.makeSlice .. |.mapUpdate .. |.insert .. |.lookup .. |.range .. |.next .. |.entry .. |.typeAssert ..=>false
 |.binOp .eql .. |.binOp .neq ..=>false
 |.call { callee:=.builtin b,.. }=>match b with
  |.len|.cap|.max|.min=>true
  |_=>false
 |.call _=>false
 |_=>true
def vc(P:Program)(ev:Operand->AV)(H:Hp)(ty:TypeId)(K:AV->Hp->Prop):Op->Prop
 |.box t x=>rm H t (ev x) K
 |.alloc t=>nP P H t K
 |.store t a x=>vE P H t (ev a) (ev x) K
 |.buildSlice t n parts=>nq P H t n (parts.toList.map fun p=>(p.1,ev p.2)) K
 |.binOp .eql t x y _=>p9 P false t (ev x) (ev y) H K
 |.binOp .neq t x y _=>p9 P true t (ev x) (ev y) H K
 |.call { callee:=.value f,args,.. }=>fI P (ev f) (args.toList.map ev) H K
 |.call { callee:=.builtin .append,args,argTypes }=>match argTypes.toList,args.toList with
  |[t,t'],[a,x]=>pT P t t' (ev a) (ev x) H K
  |_,_=>False
 |.call { callee:=.builtin b,args,argTypes }=>if dh (.call ⟨.builtin b,args,argTypes⟩)then(vq P ev H (.call ⟨.builtin b,args,argTypes⟩)).1/\K (vq P ev H (.call ⟨.builtin b,args,argTypes⟩)).2 H else sy P b argTypes.toList (args.toList.map ev) H K
 |o=>if dh o then(vq P ev H o).1/\K (vq P ev H o).2 H else js P o ty ev H K
section
variable {P:Program}{ops:Array Oper}{F:List AV}{H:Hp}
variable{K:AV->Hp->Prop}
theorem KP{o:Oper}(hq:(vq P (cc F) H o.op).1)(hk:K (vq P (cc F) H o.op).2 H):zK P o F H K:=fun w tm h1 h2=>by obtain⟨v,hr,hv⟩:=zk o h1 (fun x=>h2.eval [] x) hq;exact⟨w,H,_,hk,h1,Ext.refl w H,.inl ⟨v,hr,hv⟩⟩
theorem FR{sz:Nat}:∀(parts:List (Nat×AV)) (k:Nat) (pre zs:List AV),parts.map (·.1)=List.range' k parts.length->(∀p∈parts,p.2.cells.length=sz)->pre.length=k*sz->zs.length=parts.length*sz->
  qH (fun i=>some (i*sz,sz)) (pre++zs) parts=some (pre++(parts.map (·.2.cells)).flatten)
 |[],k,pre,zs,_,_,_,hz=>by
  have:zs=[]:=by simpa using hz
  simp[qH,this]
 |(i,a)::parts,k,pre,zs,hp,hs,hk,hz=>by
  simp only[List.map_cons,List.length_cons,List.range'_succ,List.cons.injEq]at hp;obtain⟨rfl,hp⟩:=hp;have ha:a.cells.length=sz:=hs (i,a) jE;have hz':zs.length=parts.length*sz+sz:=by rw[hz,List.length_cons,Nat.add_mul,Nat.one_mul]
  simp only[qH];rw[if_pos ⟨ha,by simp;omega⟩];have e:j8 (pre++zs) (i*sz) a.cells=(pre++a.cells)++zs.drop sz:=by
   unfold j8;rw[<-hk,List.take_left',List.drop_append,ha]
   ·simp
   ·rfl
  rw[e,FR parts (i+1) (pre++a.cells) (zs.drop sz) hp (fun p hp=>hs p (by simp[hp])) (by simp[hk,ha,Nat.add_mul]) jF];simp[List.append_assoc]
variable{w:NW}
theorem MH{l:List AV}{vs:List Value}(h:cf w l vs){k:Nat}{u:AV}(hu:l[k]?=some u):aw w u (vs.toArray.getD k undef):=by
 have hk:k<vs.length:=by rw[<-h.1];exact(List.getElem?_eq_some_iff.1 hu).1
 refine h.2 k u _ hu ?_;simp[hk]
variable{t:TypeId}
theorem QE{n:Nat}{parts:List (Nat×AV)}{vparts:Array (Nat×Value)}(hw:aO w H)(h1:parts.map (·.1)=vparts.toList.map (·.1))(h2:∀(i:Nat) a v,parts[i]?=some a->vparts.toList[i]?=some v->aw w a.2 v.2)
  (hv:nq P H t n parts K):∃(w':NW) (H':Hp) (r:AV) (v:Value),(Instr.buildSlice t n vparts).run P w.toWorld=.ok v w'.toWorld/\K r H'/\aO w' H'/\aw w' r v/\Ext w H w' H':=by
 unfold nq at hv;split at hv;rotate_left
 ·exact hv.elim
 rename_i e he;split at hv;rotate_left
 ·exact hv.elim
 rename_i sz hse;obtain⟨⟨hlen,hok,hn,hz⟩,hk⟩:=hv;have hu:P.underlying t=some (.slice e):=by unfold iH at he;split at he<;>simp_all
 obtain⟨hp,hs⟩:=Ey hok;rw[hlen,<-List.range_eq_range']at hp;have hzr:∃z:Array Value,(n*sz=0/\z=#[])\/(n*sz≠0/\∃v,(zeroValue e).run P w.toWorld=.ok v w.toWorld/\v.cells=z):=by
  by_cases h0:n*sz=0
  ·exact⟨#[],.inl ⟨h0,rfl⟩⟩
  ·have hz':=hz.resolve_left h0;obtain⟨zs,hzs⟩:=Option.isSome_iff_exists.1 hz';obtain⟨z,hz1,_⟩:=yc (w:=w.toWorld) hzs;exact⟨z.cells,.inr ⟨h0,z,hz1,rfl⟩⟩
 obtain⟨z,hz⟩:=hzr;generalize hcur:(Array.range (n*sz)).map (z[· % z.size]!)=cur;have hcs:cur.size=n*sz:=by subst hcur;simp
 have hf:=FR (sz:=sz) parts 0 [] (cur.toList.map .raw) (by rw[hp,hlen,List.range_eq_range']) (fun p hp=>(hs p hp).2) jE (by simp[hcs,hlen]);simp only[List.nil_append]at hf;obtain⟨vs,g1,g2⟩:=zI (w:=w) (cur:=cur) hf h1 (fun i a v ha hv=>(h2 i a v ha hv).gu (hs _ (List.mem_of_getElem? ha)).1)
  ⟨jE,fun i a v ha hv=>by simp only[List.getElem?_map,Option.map_eq_some_iff]at ha;obtain⟨x,hx,rfl⟩:=ha;rw[hx]at hv;cases hv;exact .raw _⟩
 have hrun:(Instr.buildSlice t n vparts).run P w.toWorld=.ok (.slice (some ⟨w.heap.size,0,none⟩) n n) (w.alloc (.cells vs e)):=by
  have hbig:¬(n*sz>2 ^ 24):=jB;rcases hz with⟨h0,rfl⟩|⟨h0,v,hv,rfl⟩
  ·simp only[Instr.buildSlice,Sem.run_bind,run_underlying hu,Result.andThen_ok,lT hse,if_neg hbig,if_pos h0,Sem.run_pure,hcur,g1,newRow,run_newObj];rfl
  ·simp only[Instr.buildSlice,Sem.run_bind,run_underlying hu,Result.andThen_ok,lT hse,if_neg hbig,if_neg h0,hv,Sem.run_pure,hcur,g1,newRow,run_newObj];rfl
 have hln:(mj parts).length=n:=by simp[mj,hlen]
 have hls:∀cs∈mj parts,cs.length=sz:=fun cs hcs=>by obtain⟨p,hp,rfl⟩:=List.mem_map.1 hcs;exact(hs p hp).2
 have hfl:(mj parts).flatten.length=n*sz:=by rw[kK hls,hln]
 have hvs:vs.size=n*sz:=by have:=g2.1;simp only[Array.length_toList]at this;rw[<-this];exact hfl
 rcases hk with⟨hno,hk⟩|⟨h0,i,hi,hk⟩
 ·have ex:=Ext.fg hw (.cells vs e);refine⟨_,H,_,_,hrun,hk,hw.fg _,?_,ex⟩;by_cases h0:n=0
  ·have:mj parts=[]:=List.length_eq_zero_iff.1 jB;rw[this,h0];exact .gm true sz _ 0 (fun _=>rfl)
  ·have:=aw.sl (w:=w.to (w.alloc (.cells vs e))) (d:=[]) true sz (mj parts) ⟨w.heap.size,0,none⟩ n (fun j=>vs.getD j undef) jB jB (fun _=>⟨hln.symm,vs,e,heap_alloc_new w.toWorld _⟩) hls jE (fun h=>by have:=hw.fin _ h;simp at this) (fun i j hi hj=>by
    rw[lM,tL w.heap.size _ vs e (0,0) (heap_alloc_new w.toWorld _)];have:=yR hi hj;rw[hln]at this;simp[show i*sz+j<vs.size from jB]) (fun i j u hi hu=>by
    have hj:j<sz:=by have:=(List.getElem?_eq_some_iff.1 hu).1;rwa [vf hls hi]at this
    have hx:=MH g2 (k:=i*sz+j) (u:=u) (by rw[<-hu];exact qp hls hi hj);rw[Array.toArray_toList]at hx;refine(hx.kS (mz hno (i:=i*sz+j) (by rw[<-hu];exact qp hls hi hj))).aY ex.toKeep.bare (o4 u))
   rw[hln]at this;exact this
 ·obtain⟨q1,q2⟩:=vg (row:=.aL e sz (mj parts)) hw (hw.none hi _) (fun r' hr=>by rw[hi]at hr;cases hr) ⟨h0,hls⟩ vs ⟨rfl,by show(mj parts).flatten.length<=_;omega⟩ (fun k a v ha hv=>g2.2 k a v ha (by simpa using hv));refine⟨_,_,_,_,hrun,hk,q1,?_,q2⟩;have:=aw.rs (w:=((w.to (w.alloc ((Row.aL e sz (mj parts)).obj vs))).fV w.heap.size).name i (Row.aL e sz (mj parts)).fP (.at w.heap.size vs.size (Row.aL e sz (mj parts)).bA)) i (mj parts).length sz (mj parts).length w.heap.size vs.size n (NW.ca _ _ _ _) hvs.symm jB h0;rw[hln]at this ⊢;exact this
theorem ET(ne:Bool)(t:TypeId){a b:AV}{va vb:Value}(x y:Operand)(ha:aw w a va)(hb:aw w b vb)(hv:p9 P ne t a b H K) :
  ∃r v,(do eqGuard (if ne then .neq else .eql) t x y va vb;binOp (if ne then .neq else .eql) t va vb:Sem Value).run P w.toWorld=.ok v w.toWorld/\K r H/\aw w r v:=by
 have key:∀{n:Nat},iu P t=true->(∀b:Bool,(b=true->n=0)->K (.raw (.bool (ne ^^ b))) H)->(∃A c,va=.slice A n c/\(A=none->n=0))->vb=.slice none 0 0->
   ∃r v,(do eqGuard (if ne then .neq else .eql) t x y va vb;binOp (if ne then .neq else .eql) t va vb:Sem Value).run P w.toWorld=.ok v w.toWorld/\K r H/\aw w r v:=fun{n} h1 h2 h3 h4=>by
  obtain⟨e,hu⟩:=ql h1;obtain⟨A,c,rfl,hA⟩:=h3;subst h4;have he:(Op.equal t (.slice A n c) (.slice none 0 0)).run P w.toWorld=.ok A.isNone w.toWorld:=by refine qY (fun d=>?_);cases A<;>simp[Op.equalIn,run_underlying hu]
  obtain⟨v,h1,h3⟩:=qW (P:=P) (w:=w) (ne:=ne) (t:=t) (x:=x) (y:=y) (fun op=>eqGuard_at_slice _ _ _ _ _ _ _ _) rfl rfl he;exact⟨_,v,h1,h2 A.isNone (fun h=>hA (by simpa using h)),h3⟩
 unfold p9 at hv;split at hv
 ·rename_i z sz css _;refine key (n:=css.length) hv.1 (fun b hb=>hv.2 b fun h=>List.length_eq_zero_iff.1 (hb h)) ?_ (dm hb);cases ha with
  |gm _ _ A c _=>exact⟨A,c,rfl,fun _=>rfl⟩
  |sl _ _ _ ad c _ _ _ _ _ _ _ _ _=>exact⟨some ad,c,rfl,fun h=>by cases h⟩
 ·rename_i i m sz n;refine key (n:=n) hv.1 hv.2 ?_ (dm hb);cases ha with
  |iO _ _ _ A _=>exact⟨A,0,rfl,fun _=>rfl⟩
  |rs _ _ _ _ b t c _ _ _ _=>exact⟨some ⟨b,0,none⟩,c,rfl,fun h=>by cases h⟩
 ·obtain⟨v,h1,h2⟩:=D2 (P:=P) (if ne then .neq else .eql) t x y ha hb hv.1;exact⟨_,v,h1,hv.2,h2⟩
-- appends
theorem cf.append{a b:List AV}{x y:List Value}(h:cf w a x)(k:cf w b y):cf w (a++b) (x++y):=by
 refine⟨by simp[h.1,k.1],fun i u v hu hv=>?_⟩;rcases Nat.lt_or_ge i a.length with h1|h1
 ·rw[List.getElem?_append_left h1]at hu;rw[List.getElem?_append_left (by rw[<-h.1];exact h1)]at hv;exact h.2 i u v hu hv
 ·rw[List.getElem?_append_right h1]at hu;rw[List.getElem?_append_right (by rw[<-h.1];exact h1),<-h.1]at hv;exact k.2 _ u v hu hv
def Ct(w:NW)(sz:Nat)(v:Value)(ys:List (List AV)):Prop:=∃A c news,v=.slice A ys.length c/\cf w ys.flatten news/\(0<ys.length->∃ad,A=some ad/\∀(j:Nat) v,news[j]?=some v->w.cell? (ad.add j)=some v)
variable{sz:Nat}
theorem vz(A:Option Addr)(c:Nat):Ct w sz (.slice A 0 c) []:=⟨A,c,[],rfl,⟨rfl,fun i a v h=>by simp at h⟩,fun h=>by simp at h⟩
variable{ys:List (List AV)}
theorem An{c:Nat}{ad:Addr}(hl:∀y∈ys,y.length=sz)(h:∀i j,i<ys.length->j<sz->∃v,w.cell? (ad.add (i*sz+j))=some v/\∀u,(ys.getD i [])[j]?=some u->aw w u v):Ct w sz (.slice (some ad) ys.length c) ys:=by
 have hfl:=kK hl;refine⟨some ad,c,(List.range (ys.length*sz)).map fun k=>(w.cell? (ad.add k)).getD undef,rfl,⟨by simp[hfl],fun k a v ha hv=>?_⟩,fun _=>⟨ad,rfl,fun k v hv=>?_⟩⟩
 ·have hk:k<ys.length*sz:=by have:=(List.getElem?_eq_some_iff.1 ha).1;omega
  obtain⟨i,j,hi,hj,rfl⟩:=uL hk;rw[qp hl hi hj]at ha;obtain⟨v',h1,h2⟩:=h i j hi hj;simp only[List.getElem?_map,List.getElem?_range hk,Option.map_some,Option.some.injEq,h1,Option.getD_some]at hv;subst hv;exact h2 a ha
 ·have hk:k<ys.length*sz:=by have:=(List.getElem?_eq_some_iff.1 hv).1;simpa using this
  obtain⟨i,j,hi,hj,rfl⟩:=uL hk;obtain⟨v',h1,h2⟩:=h i j hi hj;simp only[List.getElem?_map,List.getElem?_range hk,Option.map_some,Option.some.injEq,h1,Option.getD_some]at hv;subst hv;exact h1
variable{css:List (List AV)}
theorem sY(hw:aO w H){i:Nat}{e:TypeId}{b t s:Nat}(hi:H.get i=some (.aL e sz css))(hn:w.nm i css.length=some (.at b t s)){k j:Nat}(hk:k<css.length)(hj:j<sz) :
  s=sz/\(∀cs∈css,cs.length=sz)/\css.length*sz<=t/\∃v,w.cell? ⟨b,k*sz+j,none⟩=some v/\∀u,(css.getD k [])[j]?=some u->aw w u v:=by
 obtain⟨hok,z,hz,hrow⟩:=hw.rows i _ hi;have:z=.at b t s:=by have hz:w.nm i css.length=some z:=hz;rw[hn]at hz;cases hz;rfl
 subst this;obtain⟨hs_,cur,hh,⟨hs,hl⟩,hr⟩:=hrow;have hs_:sz=s:=hs_.symm;subst hs_;have hfl:(Row.aL e sz css).cells.length=css.length*sz:=kK hok.2;have h3:=yR hk hj;have h4:k*sz+j<cur.size:=jB;refine⟨rfl,hok.2,jB,cur[k*sz+j],?_,fun u hu=>?_⟩
 ·rw[tL b _ cur _ (0,0) hh];simp[h4]
 ·refine hr (k*sz+j) u _ ?_ (by simp[h4]);show css.flatten[k*sz+j]?=some u;rw[qp hok.2 hk hj];exact hu
theorem FF(hw:aO w H){x:AV}{vx:Value}(hx:aw w x vx){c:Prop}(h:tj H x=some (c,ys))(hc:c)(hg:lA sz ys):Ct w sz vx ys:=by
 unfold tj at h;split at h
 ·rename_i xx sz' css _;cases h;cases hx with
  |gm=>exact vz _ _
  |sl _ _ _ ad c vs hn hc' hx hsz hb hH hcell hr=>
   have hz:sz'=sz:=by rw[<-hsz (ys[0]) (List.getElem_mem hn),(hg _ (List.getElem_mem hn)).1]
   subst hz;exact An hsz fun i j hi hj=>⟨_,hcell i j hi hj,fun u hu=>(hr i j u hi hu).l7⟩
 ·rename_i i m sz' n;split at h
  ·rename_i e sz2 css hi;cases h;obtain⟨rfl,rfl,hn⟩:=hc;cases hx with
   |iO _ _ _ A hnm=>rw[List.take_zero];exact vz _ _
   |rs _ _ _ _ b t c hnm hc' hle hs0=>
    have hlen:(css.take n).length=n:=by simp;omega
    by_cases h0:n=0
    ·subst h0;rw[List.take_zero];exact vz _ _
    have hz:sz2=sz:=by obtain⟨_,hall,_⟩:=sY hw hi hnm (k:=0) (j:=0) jB hs0;have h1:(css.take n)[0]' jB∈css.take n:=List.getElem_mem _;rw[<-hall _ (List.mem_of_mem_take h1),(hg _ h1).1]
    subst hz;have:=An (w:=w) (sz:=sz2) (c:=c) (ys:=css.take n) (ad:=⟨b,0,none⟩) (fun y hy=>(hg y hy).1) fun i' j hi' hj=>by obtain⟨_,_,_,v,h1,h2⟩:=sY hw hi hnm (k:=i') (j:=j) jB hj;refine⟨v,by rw[lM,Nat.zero_add];exact h1,fun u hu=>h2 u ?_⟩;rw[<-hu];simp[List.getElem?_take,show i'<n from jB]
    rw[hlen]at this;exact this
  ·cases h
 ·rename_i i m sz' o n;split at h
  ·rename_i e sz2 css hi;cases h;obtain⟨rfl,rfl,hn⟩:=hc;have hlen:((css.drop o).take n).length=n:=by simp;omega
   cases hx with
   |lu _ _ _ _ A=>rw[List.take_zero];exact vz _ _
   |rv _ _ _ _ _ b t c hnm hle=>
    by_cases h0:n=0
    ·subst h0;rw[List.take_zero];exact vz _ _
    have h1:((css.drop o).take n)[0]' jB∈(css.drop o).take n:=List.getElem_mem _;obtain⟨hok,_⟩:=hw.rows i _ hi;have hz:sz2=sz:=by rw[<-hok.2 _ (List.mem_of_mem_drop (List.mem_of_mem_take h1)),(hg _ h1).1]
    subst hz;have:=An (w:=w) (sz:=sz2) (c:=c) (ys:=(css.drop o).take n) (ad:=⟨b,o*sz2,none⟩) (fun y hy=>(hg y hy).1) fun i' j hi' hj=>by obtain⟨_,_,_,v,h1,h2⟩:=sY hw hi hnm (k:=o+i') (j:=j) jB hj;refine⟨v,by rw[lM,<-Nat.add_assoc,<-Nat.add_mul];exact h1,fun u hu=>h2 u ?_⟩;rw[<-hu];simp[List.getElem?_take,show i'<n from jB]
    rw[hlen]at this;exact this
  ·cases h
 ·cases h;have:=dm hx;subst this;exact vz _ _
 ·cases h
theorem Ak{e:TypeId}(he:iH P t=some e):P.underlying t=some (.slice e):=by unfold iH at he;split at he<;>simp_all
theorem Ca{e:TypeId}{zs:List Value}(hsz:dc P e=some sz)(hz:eT P e=some zs)(hl:zs.length=sz):∃i z,P.info? e=some i/\i.size=sz/\i.zero=some z/\z.cells.size=sz/\ju P e=i.bytes:=by
 unfold dc at hsz;cases hi:P.info? e with
 |none=>rw[hi]at hsz;cases hsz
 |some i=> rw[hi]at hsz;unfold eT at hz;rw[hi]at hz;simp only[Option.bind_some,Option.map_eq_some_iff]at hz;obtain⟨z,hz1,hz2⟩:=hz;refine⟨i,z,rfl,by simpa using hsz,hz1,?_,by simp[ju,hi]⟩;rw[<-hl,<-hz2];simp
theorem un(hw:aO w H){i:Nat}{e:TypeId}{cap:Nat}{cw:List Value}{rest:Array Value}(h0:0<sz)(hlen:∀cs∈css,cs.length=sz)(hrel:cf w css.flatten cw)(hcap:css.length<=cap)(hrest:rest.size=(cap-css.length)*sz)
  (hfree:w.nm i css.length=none) (hlater:∀r,H.get i=some r->r.fP<=css.length) :
  ∃w':NW,w'.toWorld=w.drew.alloc (.cells (cw.toArray++rest) e)/\aO w' (H.put i (.aL e sz css))/\Ext w H w' (H.put i (.aL e sz css))/\aw w' (.rs i css.length sz css.length) (.slice (some ⟨w.heap.size,0,none⟩) css.length cap):=by
 have hfl:=kK hlen;have hvl:cw.length=css.length*sz:=by rw[<-hrel.1,hfl]
 have hsz:(cw.toArray++rest).size=cap*sz:=by simp only[Array.size_append,List.size_toArray,hvl,hrest];rw[<-Nat.add_mul];congr 1;omega
 have hle:=Nat.mul_le_mul_right sz hcap;obtain⟨g1,g2⟩:=vg (row:=.aL e sz css) hw.drew hfree hlater ⟨h0,hlen⟩ (cw.toArray++rest) ⟨rfl,by show css.flatten.length<=_;omega⟩ (fun k a v ha hv=>by
  have hi:k<cw.length:=by rw[<-hrel.1];exact(List.getElem?_eq_some_iff.1 ha).1
  rw[Array.getElem?_append_left (by simpa using hi)]at hv;exact(hrel.2 k a v ha (by simpa using hv)).ext (Ext.drew w H))
 refine⟨_,rfl,g1,(Ext.drew w H).trans g2,?_⟩;exact aw.rs i css.length sz css.length w.heap.size (cw.toArray++rest).size cap (NW.ca _ _ _ _) hsz.symm hcap h0
theorem DG{a x:AV}(h:wS P t a x H K):pT P t t a x H K:=by
 intro w va vx ty hw hra hrx;unfold wS at h;split at h;rotate_left
 ·exact h.elim
 rename_i e he;split at h;rotate_left
 ·exact h.elim
 rename_i sz zs c ys hse hze hsrc;obtain⟨⟨hzl,h0,hc,hg⟩,h⟩:=h;have hu:=Ak he;obtain⟨i,z,hi,hisz,hiz,hzs,hby⟩:=Ca hse hze hzl;obtain⟨A,cx,news,rfl,hnews,haddr⟩:=FF hw hrx hsrc hc hg;have hfl:ys.flatten.length=ys.length*sz:=kK fun y hy=>(hg y hy).1
 have hnl:news.length=ys.length*sz:=by rw[<-hnews.1,hfl]
 have hzc:∀m,(Builtin.zeroCells z.cells m).size=m*sz:=fun m=>by simp[Builtin.zeroCells,hzs]
 have hgc:∀need old,need<=grownCap w.toWorld need old e:=fun need old=>by unfold grownCap Question.cut;simp
 have hones:da ys.flatten=true:=by simp only[da,List.all_eq_true];intro u hu';obtain⟨y,hy,huy⟩:=List.mem_flatten.1 hu';have:=(hg y hy).2;simp only[da,List.all_eq_true]at this;exact this u huy
 have hf0:∀A:Option Addr,ys.length=0->(Builtin.firstCells i.size 0 (.slice A 0 cx)).run P w.toWorld=.ok #[] w.toWorld:=fun A _=>by cases A<;>simp[Builtin.firstCells,loadCells,loadCellsFrom]
 rw[hby]at h;unfold Bs at h;split at h
 ·-- a row of one's own
  rename_i d m sz' n;split at h;rotate_left
  ·exact h.elim
  rename_i e' sz2 css hd;obtain⟨⟨rfl,rfl,rfl,rfl,hnm',hroom,h63⟩,hk⟩:=h;have hk:=My hk;have hok:=(hw.rows d _ hd).1;have hlen':∀cs∈iD css n ys,cs.length=sz2:=fun cs h=>by
   unfold iD at h;rcases List.mem_append.1 h with h|h
   ·rcases List.mem_append.1 h with h|h
    ·exact hok.2 _ (List.mem_of_mem_take h)
    ·exact(hg cs h).1
   ·exact hok.2 _ (List.mem_of_mem_drop h)
  have hcfl:=kK hok.2;have hl2:=Gv ys hnm';cases hra with
  |iO _ _ _ A hnm=>
   -- nowhere yet
   obtain⟨_,z',hz',hrow⟩:=hw.rows d _ hd;have:z'=.nil:=by have hz':w.nm d css.length=some z':=hz';rw[hnm]at hz';cases hz';rfl
   subst this;obtain⟨e2,sz3,hrow⟩:=hrow;cases hrow;simp only[iD,List.take_nil,List.drop_nil,List.append_nil,List.nil_append,List.length_nil,Nat.zero_add,Nat.zero_max]at hk hl2;by_cases hy:ys.length=0
   ·have:ys=[]:=List.length_eq_zero_iff.1 hy;subst this;refine⟨w,_,_,.slice A 0 0,?_,hk,?_,.iO _ _ _ _ hnm,?_⟩
    ·cases A<;>simp[Builtin.append_,run_underlying hu,sizeOf,typeInfo,hi,Builtin.lenOf,hf0,storeCells]
    ·refine{ hw with rows:=fun j r hj=>?_,dO:=fun j q z hz=>?_ }
     ·rw[Hp.ba]at hj;split at hj
      ·rename_i e;subst e;exact hw.rows j r (by rw[hd];exact hj)
      ·exact hw.rows j r hj
     ·rw[Hp.ba];split
      ·rename_i e;subst e;obtain⟨r,g1,g2⟩:=hw.dO j q z hz;rw[hd]at g1;cases g1;exact⟨_,rfl,g2⟩
      ·exact hw.dO j q z hz
    ·exact{ Ext.refl w H with base:=rfl }
   ·obtain⟨ad,rfl,hcell⟩:=haddr jB;obtain⟨w',e1,g1,g2,g3⟩:=un (i:=d) (e:=e') (cap:=grownCap w.toWorld ys.length 0 e') (css:=ys) (rest:=Builtin.zeroCells z.cells (grownCap w.toWorld ys.length 0 e'-ys.length)) hw h0 (fun y hy=>(hg y hy).1) hnews (hgc _ _) (hzc _) (hw.later hd (by show([]:List (List AV)).length<_;simp;omega)) (fun r hr=>by rw[hd]at hr;cases hr;exact Nat.zero_le _);refine⟨w',_,_,_,?_,hk,by simpa using g1,by simpa using g3,by simpa using g2⟩;rw[e1];cases A with
    |none=> have:=run_append_nil w.toWorld t ty e' i z hu hi hiz ad ys.length cx news (by rw[hisz];exact hnl) hcell jB (by simp at h63;omega) (by simp at hroom;omega);exact this
    |some b=>
     have:=run_append_grow (P:=P) w.toWorld t ty e' i z hu hi hiz b 0 0 [] jE (fun j v h=>by simp at h) ad ys.length cx news (by rw[hisz];exact hnl) hcell jB (by simp at h63;simp;omega) (by rw[Nat.zero_add,nextslicecap_zero jB];simp at hroom;omega)
     simpa using this
  |rs _ _ _ _ b t' cap hnm hct hle hs0=>
   obtain⟨_,z',hz',hrow⟩:=hw.rows d _ hd;have:z'=.at b t' sz2:=by have hz':w.nm d css.length=some z':=hz';rw[hnm]at hz';cases hz';rfl
   subst this;obtain⟨_,cur,hh,⟨hcs,hcl⟩,hcr⟩:=hrow;have hh:w.heap[b]?=some (.cells cur e' (0,0)):=hh;have hcl:css.flatten.length<=t':=hcl;have hcap:css.length<=cap:=by rw[hcfl,<-hct]at hcl;exact Nat.le_of_mul_le_mul_right hcl h0
   have htk:(css.take n).flatten.length=n*sz2:=by rw[kK fun c hc=>hok.2 c (List.mem_of_mem_take hc),List.length_take,Nat.min_eq_left hnm']
   have htke:(css.take n).flatten=css.flatten.take (n*sz2):=by
    have:css.flatten=(css.take n).flatten++(css.drop n).flatten:=by rw[<-List.flatten_append,List.take_append_drop]
    rw[this,<-htk,List.take_left'];rfl
   by_cases hfit:n+ys.length<=cap
   ·-- in place
    have hfit':n*sz2+ys.flatten.length<=t':=by rw[hfl,<-Nat.add_mul,<-hct];exact Nat.mul_le_mul_right _ hfit
    obtain⟨w',hrun,g1,g2,g3⟩:=wm (P:=P) (off:=n*sz2) (r':=.aL e' sz2 (iD css n ys)) hw hd hnm hnews hones hfit' rfl rfl rfl rfl (by show css.length<=(iD css n ys).length;rw[hl2];omega) ⟨h0,hlen'⟩ (by show(iD css n ys).flatten.length<=t';rw[kK hlen',hl2,<-hct];exact Nat.mul_le_mul_right _ (Nat.max_le.2 ⟨hcap,hfit⟩)) (fun p u hp=>by
     have hp:(iD css n ys).flatten[p]?=some u:=hp;unfold iD at hp;rw[List.flatten_append,List.flatten_append]at hp;show if _ then _ else css.flatten[p]?=some u
     rcases Nat.lt_or_ge p (n*sz2)with h|h
     ·rw[jN];rw[List.getElem?_append_left (by simp only[List.length_append];omega),List.getElem?_append_left jB,htke,List.getElem?_take,if_pos h]at hp;exact hp
     ·rcases Nat.lt_or_ge p (n*sz2+ys.flatten.length)with h'|h'
      ·rw[if_pos ⟨h,h'⟩];rw[List.getElem?_append_left (by simp only[List.length_append];omega),List.getElem?_append_right jB,htk]at hp;exact hp
      ·rw[jN];rw[List.getElem?_append_right (by simp only[List.length_append];omega)]at hp;have e2:css.flatten=(css.take (n+ys.length)).flatten++(css.drop (n+ys.length)).flatten:=by rw[<-List.flatten_append,List.take_append_drop]
       have hlt:=(List.getElem?_eq_some_iff.1 hp).1;have hnk:n+ys.length<=css.length:=by
        rcases Nat.lt_or_ge css.length (n+ys.length)with h6|h6
        ·rw[List.drop_eq_nil_of_le jB]at hlt;simp at hlt
        ·exact h6
       have e3:(css.take (n+ys.length)).flatten.length=n*sz2+ys.flatten.length:=by rw[kK fun c hc=>hok.2 c (List.mem_of_mem_take hc),List.length_take,Nat.min_eq_left hnk,hfl,Nat.add_mul]
       rw[e2,List.getElem?_append_right jB,e3];simp only[List.length_append,htk]at hp;exact hp)
    refine⟨w',_,_,.slice (some ⟨b,0,none⟩) (n+ys.length) cap,?_,hk,g1,?_,g2⟩
    ·have hf:(Builtin.firstCells i.size ys.length (.slice A ys.length cx)).run P w.toWorld=.ok news.toArray w.toWorld:=by
      by_cases h0:ys.length=0
      ·have:news=[]:=by have:=hnl;rw[h0,Nat.zero_mul]at this;simpa using this
       subst this;rw[h0];cases A<;>simp[Builtin.firstCells,loadCells,loadCellsFrom]
      ·obtain⟨ad,rfl,hcell⟩:=haddr jB;exact run_firstCells_some (P:=P) w.toWorld i.size ys.length ad ys.length cx news (by rw[hisz];exact hnl) hcell
     have hadd:(⟨b,0,none⟩:Addr).add (n*sz2)=⟨b,n*sz2,none⟩:=by rw[lM];simp
     rw[hisz]at hf;simp[Builtin.append_,run_underlying hu,sizeOf,typeInfo,hi,Builtin.lenOf,hfit,hf,hisz,hadd,hrun]
    ·have g3:w'.nm d (max css.length (n+ys.length))=some (.at b t' sz2):=by rw[<-hl2];exact g3
     exact .rs d _ sz2 _ b t' cap g3 hct hfit hs0
   ·-- a new row
    have hpos:0<ys.length:=jB;obtain⟨ad,rfl,hcell⟩:=haddr hpos;have hov:iD css n ys=css.take n++ys:=by unfold iD;rw[List.drop_eq_nil_of_le jB,List.append_nil]
    have hmx:max css.length (n+ys.length)=n+ys.length:=Nat.max_eq_right jB;rw[hov]at hk hlen' hl2;rw[hmx]at hk hl2;have hold:cf w (css.take n).flatten (cur.toList.take (n*sz2)):=by
     refine⟨by simp only[List.length_take,Array.length_toList];have:=Nat.mul_le_mul_right sz2 hle;omega,fun k a v ha' hv=>?_⟩;rw[List.getElem?_take]at hv;split at hv
     ·rename_i hkn;rw[htke,List.getElem?_take,if_pos hkn]at ha';exact hcr k a v ha' (by simpa using hv)
     ·cases hv
    have hall:=hold.append hnews;rw[<-List.flatten_append]at hall;obtain⟨w',e1,g1,g2,g3⟩:=un (i:=d) (e:=e') (cap:=grownCap w.toWorld (n+ys.length) cap e') (css:=css.take n++ys) (rest:=Builtin.zeroCells z.cells (grownCap w.toWorld (n+ys.length) cap e'-(n+ys.length))) hw h0 hlen' hall (by rw[hl2];exact hgc _ _) (by rw[hl2];exact hzc _) (hw.later hd (by show css.length<_;rw[hl2];omega)) (fun r hr=>by rw[hd]at hr;cases hr;show css.length<=_;rw[hl2];omega);rw[hl2]at g3;refine⟨w',_,_,_,?_,hk,g1,g3,g2⟩;rw[e1];have:=run_append_grow (P:=P) w.toWorld t ty e' i z hu hi hiz ⟨b,0,none⟩ n cap (cur.toList.take (n*sz2)) (by rw[<-hold.1,htk,hisz]) (fun k v hv=>by
     rw[List.getElem?_take]at hv;split at hv
     ·rw[lM,tL b _ cur e' (0,0) hh,Nat.zero_add];simpa using hv
     ·cases hv) ad ys.length cx news (by rw[hisz];exact hnl) hcell jB jB (growslice_fits jB jB)
    rw[this];congr 3
    apply Array.ext';simp
 ·-- nothing
  obtain⟨⟨hroom,h63⟩,d,hd,hk⟩:=h;have:=dm hra;subst this;by_cases hy:ys.length=0
  ·have:ys=[]:=List.length_eq_zero_iff.1 hy;subst this;obtain⟨g1,g2⟩:=xB hw hd e h0;refine⟨_,_,_,.slice none 0 0,?_,hk,g1,.iO _ _ _ _ (NW.ca _ _ _ _),g2⟩;have:(Builtin.append_ #[t,t] ty #[.slice none 0 0,.slice A 0 cx]).run P w.toWorld=.ok (.slice none 0 0) w.toWorld:=by
    simp[Builtin.append_,run_underlying hu,sizeOf,typeInfo,hi,Builtin.lenOf,hf0,storeCells]
   exact this
  ·obtain⟨ad,rfl,hcell⟩:=haddr jB;obtain⟨w',e1,g1,g2,g3⟩:=un (i:=d) (e:=e) (cap:=grownCap w.toWorld ys.length 0 e) (css:=ys) (rest:=Builtin.zeroCells z.cells (grownCap w.toWorld ys.length 0 e-ys.length)) hw h0 (fun y hy=>(hg y hy).1) hnews (hgc _ _) (hzc _) (hw.none hd _) (fun r hr=>by rw[hd]at hr;cases hr);refine⟨w',_,_,_,?_,hk,g1,g3,g2⟩;rw[e1];exact run_append_nil w.toWorld t ty e i z hu hi hiz ad ys.length cx news (by rw[hisz];exact hnl) hcell jB jB jB
 ·-- a literal
  rename_i sz' css _;obtain⟨⟨rfl,⟨hroom,h63⟩,hor⟩,d,hd,hk⟩:=h;have hl2:(css++ys).length=css.length+ys.length:=List.length_append;cases hra with
  |gm _ _ A' c' hx=>
   have hc0:=hx rfl;subst hc0;by_cases hy:ys.length=0
   ·have:ys=[]:=List.length_eq_zero_iff.1 hy;subst this;obtain⟨g1,g2⟩:=xB hw hd e h0;refine⟨_,_,_,.slice A' 0 0,?_,hk,g1,.iO _ _ _ _ (NW.ca _ _ _ _),g2⟩;have:(Builtin.append_ #[t,t] ty #[.slice A' 0 0,.slice A 0 cx]).run P w.toWorld=.ok (.slice A' 0 0) w.toWorld:=by
     cases A'<;>simp[Builtin.append_,run_underlying hu,sizeOf,typeInfo,hi,Builtin.lenOf,hf0,storeCells]
    exact this
   ·obtain⟨ad,rfl,hcell⟩:=haddr jB;obtain⟨w',e1,g1,g2,g3⟩:=un (i:=d) (e:=e) (cap:=grownCap w.toWorld ys.length 0 e) (css:=ys) (rest:=Builtin.zeroCells z.cells (grownCap w.toWorld ys.length 0 e-ys.length)) hw h0 (fun y hy=>(hg y hy).1) hnews (hgc _ _) (hzc _) (hw.none hd _) (fun r hr=>by rw[hd]at hr;cases hr);refine⟨w',_,_,_,?_,hk,by simpa using g1,by simpa using g3,by simpa using g2⟩;rw[e1];cases A' with
    |none=>exact run_append_nil w.toWorld t ty e i z hu hi hiz ad ys.length cx news (by rw[hisz];exact hnl) hcell jB (by simp at h63;omega) (by simp at hroom;omega)
    |some b=>
     have:=run_append_grow (P:=P) w.toWorld t ty e i z hu hi hiz b 0 0 [] jE (fun j v h=>by simp at h) ad ys.length cx news (by rw[hisz];exact hnl) hcell jB (by simp at h63;simp;omega) (by rw[Nat.zero_add,nextslicecap_zero jB];simp at hroom;omega)
     simpa using this
  |sl _ _ _ b c' vs hn hc' hx hsz hb hH hcell' hr=>
   have hlen':∀cs∈css++ys,cs.length=sz':=fun cs h=>by
    rcases List.mem_append.1 h with h|h
    ·exact hsz _ h
    ·exact(hg cs h).1
   obtain⟨hcn,cur,el,hpl⟩:=hx rfl;subst hcn;have hcfl:=kK hsz;have hold:cf w css.flatten ((List.range (css.length*sz')).map vs):=by
    refine⟨by simp[hcfl],fun k a v ha' hv=>?_⟩;have hk:k<css.length*sz':=by have:=(List.getElem?_eq_some_iff.1 ha').1;omega
    obtain⟨i',j,hi',hj,rfl⟩:=uL hk;rw[qp hsz hi' hj]at ha';simp only[List.getElem?_map,List.getElem?_range hk,Option.map_some,Option.some.injEq]at hv;subst hv;exact(hr i' j a hi' ha').l7
   by_cases hy:ys.length=0
   ·
    omega
   ·obtain⟨ad,rfl,hcell⟩:=haddr jB;have hall:=hold.append hnews;rw[<-List.flatten_append]at hall;obtain⟨w',e1,g1,g2,g3⟩:=un (i:=d) (e:=e) (cap:=grownCap w.toWorld (css.length+ys.length) css.length e) (css:=css++ys) (rest:=Builtin.zeroCells z.cells (grownCap w.toWorld (css.length+ys.length) css.length e-(css.length+ys.length))) hw h0 hlen' hall (by rw[hl2];exact hgc _ _) (by rw[hl2];exact hzc _) (hw.none hd _) (fun r hr=>by rw[hd]at hr;cases hr);rw[hl2]at g3;refine⟨w',_,_,_,?_,hk,g1,g3,g2⟩;rw[e1];have:=run_append_grow (P:=P) w.toWorld t ty e i z hu hi hiz b css.length css.length ((List.range (css.length*sz')).map vs) (by rw[<-hold.1,hcfl,hisz]) (fun k v hv=>by
     have hk:k<css.length*sz':=by have:=(List.getElem?_eq_some_iff.1 hv).1;simpa using this
     obtain⟨i',j,hi',hj,rfl⟩:=uL hk;simp only[List.getElem?_map,List.getElem?_range hk,Option.map_some,Option.some.injEq]at hv;subst hv;exact hcell' i' j hi' hj) ad ys.length cx news (by rw[hisz];exact hnl) hcell jB jB (growslice_fits jB jB)
    rw[this];congr 3
    apply Array.ext';simp
 ·exact h.elim
end
end Go.Gd
