/- Lemmas. No conditions. -/
import Derived.Test.YtfkgcobaheegbaaGreatDoorGdE
import Derived.Deep.RegionWith
import Derived.Laws.Append
set_option linter.all false
namespace Go.Gd
open Go
section
variable {P:Program}{w:NW}{H:Hp}
variable{a:Option AV}{v:Option Value}
theorem nB{i:Option Int}(ha:qD a=some i)(hr:∀x y,a=some x->v=some y->av w x y)(hs:a.isSome=v.isSome):(i=none/\v=none)\/∃k n,i=some n/\v=some (.int k n):=by
 cases a with
 |none=>
  simp[qD]at ha;cases v with
  |none=>exact .inl ⟨ha.symm,rfl⟩
  |some _=>simp at hs
 |some x=>
  cases v with
  |none=>simp at hs
  |some y=>
   unfold qD at ha;split at ha<;>try cases ha
   ·rename_i h;cases h
   ·rename_i k n h
    cases h;have:=de (hr _ _ rfl rfl);subst this;exact .inr ⟨k,n,rfl,rfl⟩
variable{vlo vhi:Option Value}{lo:Option Int}
theorem u6{isSlice:Bool}{len cap:Nat}{hi:Option Int}(hlo:(lo=none/\vlo=none)\/∃k n,lo=some n/\vlo=some (.int k n))(hhi:(hi=none/\vhi=none)\/∃k n,hi=some n/\vhi=some (.int k n))
  (h0:0<=lo.getD 0) (h1:lo.getD 0<=hi.getD len) (h2:hi.getD len<=cap):(Instr.sliceBounds isSlice len cap vlo vhi none).run P w=.ok ((lo.getD 0).toNat,(hi.getD len).toNat,cap) w:=by
 rcases hlo with⟨rfl,rfl⟩|⟨k,n,rfl,rfl⟩<;>rcases hhi with⟨rfl,rfl⟩|⟨k',m,rfl,rfl⟩<;>simp only[Option.getD_some,Option.getD_none]at*
 ·simp[Instr.sliceBounds]
 ·simp[Instr.sliceBounds,run_sliceBound w _ _ _ _ (show 0<=m from jB) h2]
 ·simp[Instr.sliceBounds,run_sliceBound w _ _ _ _ h0 h1]
 ·simp[Instr.sliceBounds,run_sliceBound w _ _ _ _ (show 0<=m from jB) h2,run_sliceBound w _ _ _ _ h0 (show n<=((m.toNat:Nat):Int) from jB)]
theorem NX{len cap:Nat}{k k2:IntKind}{m q:Int}(hlo:(lo=none/\vlo=none)\/∃k n,lo=some n/\vlo=some (.int k n))
  (h0:0<=lo.getD 0) (h1:lo.getD 0<=q) (h2:q<=m) (h3:m<=cap):(Instr.sliceBounds true len cap vlo (some (.int k2 q)) (some (.int k m))).run P w.toWorld=.ok ((lo.getD 0).toNat,q.toNat,m.toNat) w.toWorld:=by
 rcases hlo with⟨rfl,rfl⟩|⟨k1,n,rfl,rfl⟩<;>simp only[Option.getD_some,Option.getD_none]at*
 ·simp[Instr.sliceBounds,run_sliceBound w.toWorld _ _ _ _ (show 0<=m from jB) h3,run_sliceBound w.toWorld _ _ _ _ (show 0<=q from jB) (show q<=((m.toNat:Nat):Int) from jB)]
 ·simp[Instr.sliceBounds,run_sliceBound w.toWorld _ _ _ _ (show 0<=m from jB) h3,run_sliceBound w.toWorld _ _ _ _ (show 0<=q from jB) (show q<=((m.toNat:Nat):Int) from jB),run_sliceBound w.toWorld _ _ _ _ h0 (show n<=((q.toNat:Nat):Int) from jB)]
variable{vmx:Option Value}
theorem qf{t e:TypeId}{sz:Nat}(hu:P.underlying t=some (.slice e))(hs:da P e=some sz){A:Option Addr}{n c lo hi mx:Nat}(hb:(Instr.sliceBounds true n c vlo vhi vmx).run P w.toWorld=.ok (lo,hi,mx) w.toWorld) :
  ∃A',(Instr.sliceAt t (.slice A n c) vlo vhi vmx).run P w.toWorld=.ok (.slice A' (hi-lo) (mx-lo)) w.toWorld/\((A=none/\A'=none)\/∃ad,A=some ad/\A'=some (if mx=lo then ad else ad.add (lo*sz))):=by
 cases A with
 |none=>exact⟨none,by simp[Instr.sliceAt,run_underlying hu,Instr.slice,hb,lQ hs],.inl ⟨rfl,rfl⟩⟩
 |some ad=>exact⟨some (if mx=lo then ad else ad.add (lo*sz)),by simp only[Instr.sliceAt,run_underlying hu,Instr.slice,hb,lQ hs,Sem.run_bind,Result.andThen_ok,Sem.run_pure,Option.map_some];split<;>rfl,.inr ⟨ad,rfl,rfl⟩⟩
theorem Ff{i:Int}(ha:qD a=some (some i))(hr:∀x y,a=some x->v=some y->av w x y)(hs:a.isSome=v.isSome):∃k,v=some (.int k i):=by
 rcases nB ha hr hs with⟨h,_⟩|⟨k,n,h,rfl⟩
 ·cases h
 ·cases h;exact⟨k,rfl⟩
theorem sR(ha:qD a=some none)(hr:∀x y,a=some x->v=some y->av w x y)(hs:a.isSome=v.isSome):v=none:=by
 rcases nB ha hr hs with⟨_,h⟩|⟨k,n,h,rfl⟩
 ·exact h
 ·cases h
theorem P2(t:TypeId){a:AV}{lo hi mx:Option AV}{va:Value}(ha:av w a va)(hlo:∀x y,lo=some x->vlo=some y->av w x y)(slo:lo.isSome=vlo.isSome)
  (hhi:∀x y,hi=some x->vhi=some y->av w x y) (shi:hi.isSome=vhi.isSome) (hmx:∀x y,mx=some x->vmx=some y->av w x y) (smx:mx.isSome=vmx.isSome):jm P w (Instr.sliceAt t va vlo vhi vmx) (rQ P t a lo hi mx):=by
 intro hq;unfold rQ at*;split at hq<;>try exact hq.elim
 ·rename_i s l h e1 e2 e3
  obtain rfl:=sR e3 hmx smx;have:=de ha;subst this;have ht:=yS hq.1;obtain⟨h0,h1,h2⟩:=hq.2;have hb:=u6 (P:=P) (w:=w) (isSlice:=false) (nB e1 hlo slo) (nB e2 hhi shi) h0 h1 h2;exact⟨_,by simp[Instr.sliceAt,run_underlying ht,Instr.slice,hb],.raw _⟩
 ·rename_i x sz css d l h e1 e2 e3
  obtain rfl:=sR e3 hmx smx;obtain⟨e,hu,hs⟩:=qE hq.1;obtain⟨h0,h1,h2⟩:=hq.2;have key:∀n c:Nat,n=css.length->n<=c->(Instr.sliceBounds true n c vlo vhi none).run P w.toWorld=.ok ((l.getD 0).toNat,(h.getD css.length).toNat,c) w.toWorld:=fun n c hn hc=>by
   subst hn;exact u6 (P:=P) (w:=w) (isSlice:=true) (nB e1 hlo slo) (nB e2 hhi shi) h0 h1 jB
  generalize hL:l.getD 0=L at*;generalize hh:h.getD (css.length:Int)=Hh at*;obtain⟨Ln,rfl⟩:=Int.eq_ofNat_of_zero_le h0;obtain⟨Hn,rfl⟩:=Int.eq_ofNat_of_zero_le (show(0:Int)<=Hh from jB);simp only[Int.toNat_natCast]at key ⊢;have hlen:((css.drop Ln).take (Hn-Ln)).length=Hn-Ln:=by simp;omega
  cases ha with
  |fZ _ _ A c hx=>
   obtain⟨A',hrun,_⟩:=qf hu hs (A:=A) (key 0 c rfl (Nat.zero_le _));obtain rfl:Hn=0:=by simp at h2;omega
   refine⟨_,hrun,?_⟩;simp only[Nat.zero_sub,List.take_zero];exact .fZ _ _ _ _ (fun h=>by cases h)
  |sl _ _ _ ad c vs hn hc hx hsz hb' hH hcell hr=>
   obtain⟨A',hrun,hA⟩:=qf hu hs (A:=some ad) (key _ c rfl hc);refine⟨_,hrun,?_⟩;by_cases hz:Hn-Ln=0
   ·rw[hz,List.take_zero];exact .fZ _ _ _ _ (fun h=>by cases h)
   ·rcases hA with⟨h,_⟩|⟨ad',h,rfl⟩
    ·cases h
    cases h;rw[jN];have hg:∀i,i<Hn-Ln->((css.drop Ln).take (Hn-Ln)).getD i []=css.getD (Ln+i) []:=fun i hi=>by simp[List.getElem?_take,hi]
    have:=av.sl (w:=w) (d:=d) false sz ((css.drop Ln).take (Hn-Ln)) (ad.add (Ln*sz)) (c-Ln) (fun j=>vs (Ln*sz+j)) jB jB (fun h=>by cases h) (fun cs hcs=>hsz _ (List.mem_of_mem_drop (List.mem_of_mem_take hcs))) (by rw[pF];exact hb') (by rw[pF];exact hH)
     (fun i j hi hj=>by
      rw[vG,show Ln*sz+(i*sz+j)=(Ln+i)*sz+j by rw[Nat.add_mul];omega];exact hcell _ j jB hj) (fun i j u hi hu=>by
      rw[hg i jB]at hu;rw[show Ln*sz+(i*sz+j)=(Ln+i)*sz+j by rw[Nat.add_mul];omega];exact hr _ j u jB hu)
    rw[hlen]at this;exact this
 ·rename_i d m sz n h e1 e2 e3
  obtain rfl:=sR e3 hmx smx;obtain rfl:=sR e1 hlo slo;obtain⟨e,hu,hs⟩:=qE hq.1;obtain⟨h1,h2⟩:=hq.2;have key:∀c:Nat,n<=c->(Instr.sliceBounds true n c none vhi none).run P w.toWorld=.ok (0,(h.getD n).toNat,c) w.toWorld:=fun c hc=>by
   have:=u6 (P:=P) (w:=w) (isSlice:=true) (len:=n) (cap:=c) (lo:=none) (vlo:=none) (.inl ⟨rfl,rfl⟩) (nB e2 hhi shi) jE (by simpa using h1) jB;simpa using this
  cases ha with
  |iq _ _ _ A hn=>
   obtain⟨A',hrun,_⟩:=qf hu hs (A:=A) (key 0 (Nat.zero_le _));have h0:(h.getD 0).toNat=0:=by simp at h2;omega
   refine⟨_,hrun,?_⟩;simp only[Nat.sub_zero,Int.ofNat_zero];rw[h0];exact .iq d m sz A' hn
  |rs _ _ _ _ b t c hn hc hle hs0=>
   obtain⟨A',hrun,hA⟩:=qf hu hs (A:=some ⟨b,0,none⟩) (key c hle);refine⟨_,hrun,?_⟩;rcases hA with⟨h',_⟩|⟨ad',h',rfl⟩
   ·cases h'
   cases h';have:(if c=0 then(⟨b,0,none⟩:Addr)else(⟨b,0,none⟩:Addr).add (0*sz))=⟨b,0,none⟩:=by rw[Nat.zero_mul,DR];simp
   rw[this];simp only[Nat.sub_zero];exact .rs d m sz _ b t c hn hc jB hs0
 ·rename_i d m sz n l h e1 e2 e3
  obtain rfl:=sR e3 hmx smx;obtain⟨e,hu,hs⟩:=qE hq.1;obtain⟨h0,h1,h2⟩:=hq.2;have key:∀c:Nat,n<=c->(Instr.sliceBounds true n c vlo vhi none).run P w.toWorld=.ok (l.toNat,(h.getD n).toNat,c) w.toWorld:=fun c hc=>
   u6 (P:=P) (w:=w) (isSlice:=true) (len:=n) (cap:=c) (lo:=some l) (nB e1 hlo slo) (nB e2 hhi shi) h0 h1 jB
  cases ha with
  |iq _ _ _ A hn=>
   obtain⟨A',hrun,_⟩:=qf hu hs (A:=A) (key 0 (Nat.zero_le _));refine⟨_,hrun,?_⟩;have:(h.getD (0:Nat)).toNat-l.toNat=0:=by simp at h1 h2 ⊢;omega
   rw[this];exact .lp d m sz _ _ _
  |rs _ _ _ _ b t c hn hc hle hs0=>
   obtain⟨A',hrun,hA⟩:=qf hu hs (A:=some ⟨b,0,none⟩) (key c hle);refine⟨_,hrun,?_⟩;by_cases hz:(h.getD n).toNat-l.toNat=0
   ·rw[hz];exact .lp d m sz _ _ _
   ·rcases hA with⟨h',_⟩|⟨ad',h',rfl⟩
    ·cases h'
    cases h';rw[jN,k9,Nat.zero_add];exact .rv d m sz _ _ b t _ hn jB
 ·rename_i d m sz o n l h e1 e2 e3
  obtain rfl:=sR e3 hmx smx;obtain⟨e,hu,hs⟩:=qE hq.1;obtain⟨h0,h1,h2⟩:=hq.2;have key:∀c:Nat,n<=c->(Instr.sliceBounds true n c vlo vhi none).run P w.toWorld=.ok ((l.getD 0).toNat,(h.getD n).toNat,c) w.toWorld:=fun c hc=>
   u6 (P:=P) (w:=w) (isSlice:=true) (len:=n) (cap:=c) (nB e1 hlo slo) (nB e2 hhi shi) h0 h1 jB
  cases ha with
  |lp _ _ _ _ c A=>
   obtain⟨A',hrun,_⟩:=qf hu hs (A:=A) (key c (Nat.zero_le _));refine⟨_,hrun,?_⟩;have:(h.getD (0:Nat)).toNat-(l.getD 0).toNat=0:=by simp at h1 h2 ⊢;omega
   rw[this];exact .lp d m sz _ _ _
  |rv _ _ _ _ _ b t c hn hle=>
   obtain⟨A',hrun,hA⟩:=qf hu hs (A:=some ⟨b,o*sz,none⟩) (key c hle);refine⟨_,hrun,?_⟩;by_cases hz:(h.getD n).toNat-(l.getD 0).toNat=0
   ·rw[hz];exact .lp d m sz _ _ _
   ·rcases hA with⟨h',_⟩|⟨ad',h',rfl⟩
    ·cases h'
    cases h';rw[jN,k9,<-Nat.add_mul];exact .rv d m sz _ _ b t _ hn jB
 ·rename_i d m sz n l h x e1 e2 e3
  obtain⟨kx,rfl⟩:=Ff e3 hmx smx;obtain⟨kh,rfl⟩:=Ff e2 hhi shi;obtain⟨e,hu,hs⟩:=qE hq.1;obtain⟨h0,h1,h2,h3⟩:=hq.2;have key:∀c:Nat,n<=c->(Instr.sliceBounds true n c vlo (some (.int kh h)) (some (.int kx x))).run P w.toWorld=.ok ((l.getD 0).toNat,h.toNat,x.toNat) w.toWorld:=fun c hc=>
   NX (P:=P) (w:=w) (len:=n) (cap:=c) (nB e1 hlo slo) h0 h1 h2 jB
  cases ha with
  |iq _ _ _ A hn=>
   obtain⟨A',hrun,_⟩:=qf hu hs (A:=A) (key 0 (Nat.zero_le _));refine⟨_,hrun,?_⟩;have:h.toNat-(l.getD 0).toNat=0:=by simp at h1 h2 h3 ⊢;omega
   rw[this];exact .lp d m sz _ _ _
  |rs _ _ _ _ b t c hn hc hle hs0=>
   obtain⟨A',hrun,hA⟩:=qf hu hs (A:=some ⟨b,0,none⟩) (key c hle);refine⟨_,hrun,?_⟩;by_cases hz:h.toNat-(l.getD 0).toNat=0
   ·rw[hz];exact .lp d m sz _ _ _
   ·rcases hA with⟨h',_⟩|⟨ad',h',rfl⟩
    ·cases h'
    cases h';rw[jN,k9,Nat.zero_add];exact .rv d m sz _ _ b t _ hn jB
 ·rename_i l h e1 e2 e3
  obtain rfl:=sR e3 hmx smx;have:=de ha;subst this;obtain⟨_,hsz,h0,h1⟩:=hq;obtain⟨sz,hsz⟩:=Option.isSome_iff_exists.1 hsz;obtain⟨e,hu,hs⟩:=qE hsz;have hb:=u6 (P:=P) (w:=w) (isSlice:=true) (len:=0) (cap:=0) (nB e1 hlo slo) (nB e2 hhi shi) jB jF jF;simp only[h0,Int.toNat_zero,h1,Int.ofNat_zero]at hb;exact⟨_,by simp[Instr.sliceAt,run_underlying hu,Instr.slice,hb,lQ hs],.raw _⟩
theorem J3(s d:TypeId){a:AV}{v:Value}(h:av w a v):jm P w (convert s d v) (uU P s d a):=by
 intro hq;unfold uU at*;split at hq<;>try exact hq.elim
 ·rename_i k' n k e
  have:=de h;subst this;have hd:P.underlying d=some (.int k):=by unfold zl at e;split at e<;>simp_all
  obtain⟨ds,hs⟩:=Option.isSome_iff_exists.1 hq;refine⟨.int k (k.wrap n),?_,.raw _⟩;cases ds<;>simp[convert,run_underlying hs,run_underlying hd,Conv.intToInt]
 ·rename_i s' e
  have:=de h;subst this;have hd:=yS hq.2;obtain⟨ds,hs⟩:=Option.isSome_iff_exists.1 hq.1;refine⟨.string s',?_,.raw _⟩;cases ds<;>simp[convert,run_underlying hs,run_underlying hd]
theorem Ds(mx:Bool)(ts:Array TypeId)(ty:TypeId){l:List AV}{vs:List Value}(h:cc w l vs):jm P w (if mx then Builtin.max_ ts ty vs.toArray else Builtin.min_ ts ty vs.toArray) (wg mx l):=by
 intro hq;unfold wg at*;split at hq<;>try exact hq.elim
 rename_i k a k' b;obtain⟨hl,hr⟩:=h;match vs,hl with
 |[x,y],_=>
  obtain rfl:k=k':=hq;obtain rfl:=de (hr 0 _ _ rfl rfl);obtain rfl:=de (hr 1 _ _ rfl rfl);cases mx<;>exact⟨_,by simp[Builtin.max_,Builtin.min_,Builtin.max2,Builtin.min2];rfl,by simpa using av.raw _⟩
theorem AM{pl:Nat->Option (Nat×Nat)}:∀{parts:List (Nat×AV)} {vparts:List (Nat×Value)} {cells:List AV} {cur:Array Value} {out:List AV},
  qy pl cells parts=some out->parts.map (·.1)=vparts.map (·.1)->(∀(i:Nat) a v,parts[i]?=some a->vparts[i]?=some v->cc w a.2.cells v.2.cells.toList)->cc w cells cur.toList->
  ∃vs,Instr.fill pl cur vparts=some vs/\cc w out vs.toList
 |[],[],cells,cur,out,h,_,_,hc=>by
  simp only[qy,Option.some.injEq]at h;subst h;exact⟨cur,rfl,hc⟩
 |[],_::_,_,_,_,_,he,_,_=>by simp at he
 |_::_,[],_,_,_,_,he,_,_=>by simp at he
 |(i,a)::parts,(i',v)::vparts,cells,cur,out,h,he,hr,hc=>by
  simp only[List.map_cons,List.cons.injEq]at he;obtain⟨rfl,he⟩:=he;simp only[qy]at h;split at h
  ·rename_i off k hp
   split at h
   ·rename_i hk
    have hv:=hr 0 _ _ rfl rfl;simp only at hv;have hlen:v.cells.size=k:=by have:=hv.1;simp at this;omega
    have hcur:cells.length=cur.size:=by simpa using hc.1
    have hset:∀(l:List Value) (o:Nat) (c:Array Value),(l.toArray.zipIdx.foldl (fun cs (x,j)=>cs.setIfInBounds (o+j) x) c)=(c.toList.take o++l++c.toList.drop (o+l.length)).toArray\/c.size<o+l.length:=by
     intro l o c;by_cases hb:c.size<o+l.length
     ·exact .inr hb
     ·refine .inl ?_
      have gen:∀(l:List Value) (s:Nat) (c:Array Value),o+s+l.length<=c.size->((l.zipIdx s).foldl (fun(cs:Array Value) (p:Value×Nat)=>cs.setIfInBounds (o+p.2) p.1) c)=(c.toList.take (o+s)++l++c.toList.drop (o+s+l.length)).toArray:=by
       intro l;induction l with
       |nil=>intro s c _;simp
       |cons x l ih=>
        intro s c hb;simp only[List.zipIdx_cons,List.foldl_cons];rw[ih (s+1) _ (by simp at hb ⊢;omega)];apply Array.ext';simp only[Array.toList_setIfInBounds];apply List.ext_getElem?;intro m;simp only[List.length_cons]at hb;rcases Nat.lt_or_ge m (o+s)with h1|h1
        ·rw[List.append_assoc,List.getElem?_append_left jF,List.append_assoc,List.getElem?_append_left jF]
         simp only[List.getElem?_take,List.getElem?_set];rw[jP,jN,if_pos h1]
        ·rcases Nat.lt_or_ge m (o+s+1)with h2|h2
         ·obtain rfl:m=o+s:=jB
          rw[List.append_assoc,List.getElem?_append_left jF,List.append_assoc,List.getElem?_append_right jF];simp only[List.getElem?_take,List.getElem?_set,List.length_take,Array.length_toList];rw[jP];simp only[Nat.add_assoc,if_true];rw[jP,show o+s-min (o+s) c.size=0 from jB];rfl
         ·rw[List.append_assoc,List.append_assoc,List.cons_append,List.getElem?_append_right (l₁:=List.take (o+(s+1)) _) jF,List.getElem?_append_right (l₁:=List.take (o+s) _) jF]
          simp only[List.length_take,List.length_set,Array.length_toList];rw[show m-min (o+s) c.size=(m-min (o+(s+1)) c.size)+1 from jB,List.getElem?_cons_succ];rcases Nat.lt_or_ge (m-min (o+(s+1)) c.size) l.length with h3|h3
          ·rw[List.getElem?_append_left h3,List.getElem?_append_left h3]
          ·rw[List.getElem?_append_right h3,List.getElem?_append_right h3]
           simp only[List.getElem?_drop,List.getElem?_set,List.length_cons];rw[jN];congr 1
           omega
      have:=gen l 0 c jB;simp only[Nat.add_zero]at this;rw[<-this,<-Array.foldl_toList];simp
    have hfit:¬(cur.size<off+v.cells.toList.length):=by simp;omega
    have hs:=(hset v.cells.toList off cur).resolve_right hfit;rw[Array.toArray_toList]at hs;obtain⟨vs,h1,h2⟩:=AM (cur:=(cur.toList.take off++v.cells.toList++cur.toList.drop (off+v.cells.toList.length)).toArray) h he (fun i a v ha hv=>hr (i+1) a v (by simpa using ha) (by simpa using hv)) (by
     refine⟨by simp[jQ];omega,fun m x y hx hy=>?_⟩;simp only[jQ]at hx;rcases Nat.lt_or_ge m off with g1|g1
     ·rw[List.append_assoc,List.getElem?_append_left jF,List.getElem?_take,if_pos g1]at hx hy
      exact hc.2 m x y hx hy
     ·rcases Nat.lt_or_ge m (off+a.cells.length)with g2|g2
      ·rw[List.append_assoc,List.getElem?_append_right jF,List.getElem?_append_left jF]at hx hy
       simp only[List.length_take,Array.length_toList]at hx hy;rw[show m-min off cells.length=m-off from jB]at hx;rw[show m-min off cur.size=m-off from jB]at hy;exact hv.2 _ x y hx hy
      ·rw[List.getElem?_append_right jF]at hx hy
       simp only[List.length_append,List.length_take,Array.length_toList,List.getElem?_drop]at hx hy;rw[show off+a.cells.length+(m-(min off cells.length+a.cells.length))=m from jB]at hx;rw[show off+v.cells.size+(m-(min off cur.size+v.cells.size))=m from jB]at hy;exact hc.2 m x y hx hy)
    refine⟨vs,?_,h2⟩;simp only[Instr.fill,hp];rw[if_neg jF,hs];exact h1
   ·cases h
  ·cases h
theorem Iy{t:TypeId}{pl:List (Nat×Nat)}(h:jV P t=some pl):∃fs:Array Field,P.underlying t=some (.struct fs)/\(fs.mapM (m:=Sem) fun f=>do pure (f.offset,<-sizeOf f.type)).run P w.toWorld=.ok pl.toArray w.toWorld:=by
 unfold jV at h;split at h
 ·rename_i fs hu
  refine⟨fs,hu,?_⟩;rw[Array.mapM_eq_mapM_toList];have gen:∀(l:List Field) (pl:List (Nat×Nat)),l.mapM (fun f=>(da P f.type).map fun k=>(f.offset,k))=some pl->(l.mapM (m:=Sem) fun f=>do pure (f.offset,<-sizeOf f.type)).run P w.toWorld=.ok pl w.toWorld:=by
   intro l;induction l with
   |nil=>intro pl h;simp at h;subst h;simp
   |cons f l ih=>
    intro pl h;rw[List.mapM_cons]at h;simp only[Option.bind_eq_bind,Option.bind_eq_some_iff,Option.map_eq_some_iff,Option.pure_def,Option.some.injEq]at h;obtain⟨p,⟨k,hk,rfl⟩,rest,hrest,rfl⟩:=h;rw[List.mapM_cons];simp only[Sem.run_bind,lQ hk,Result.andThen_ok,Sem.run_pure,ih rest hrest]
  simp only[Sem.run_map,gen fs.toList pl h,Result.andThen_ok]
 ·cases h
theorem Nd(t:TypeId){parts:List (Nat×AV)}{vparts:Array (Nat×Value)}(h1:parts.map (·.1)=vparts.toList.map (·.1))(h2:∀(i:Nat) a v,parts[i]?=some a->vparts.toList[i]?=some v->av w a.2 v.2):jm P w (Instr.build t vparts) (tU P t parts):=by
 intro hq;unfold tU at*;split at hq<;>try exact hq.elim
 rename_i zs pl e1 e2;split at hq<;>try exact hq.elim
 rename_i out hf;obtain⟨z,hz,rfl⟩:=xh (w:=w) e1;obtain⟨fs,hu,hp⟩:=Iy (w:=w) e2;simp only[cR,List.all_eq_true]at hq;have hone:∀(i:Nat) a,parts[i]?=some a->cR a.2.cells=true:=fun i a ha=>by
  simp only[cR,List.all_eq_true];intro x hx;exact hq x (List.mem_flatten.2 ⟨_,List.mem_map.2 ⟨a,List.mem_of_getElem? ha,rfl⟩,hx⟩)
 obtain⟨vs,g1,g2⟩:=AM (w:=w) (cur:=z.cells) hf h1 (fun i a v ha hv=>(h2 i a v ha hv).gp (hone i a ha))
  ⟨jE,fun i a v ha hv=>by
   simp only[List.getElem?_map,Option.map_eq_some_iff]at ha;obtain⟨x,hx,rfl⟩:=ha;rw[hx]at hv;cases hv;exact .raw _⟩
 refine⟨.agg vs,?_,.agg _ _ (by have:=g2.1;simpa using this) fun i a v ha hv=>g2.2 i a v ha (by simpa using hv)⟩;have e:(fun i:Nat=>pl.toArray[i]?)=(fun i:Nat=>pl[i]?):=by funext i;simp
 simp only[Instr.build,Sem.run_bind,hz,Result.andThen_ok,run_underlying hu,hp,e,g1,Sem.run_pure]
end
section
variable {P:Program}{w:NW}{H:Hp}{ρ:Operand->Value}{ev:Operand->AV}
theorem vK(hr:∀x,av w (ev x) (ρ x))(l:List Operand):cc w (l.map ev) (l.map ρ):=
 ⟨jE,fun i a v ha hv=>by
  simp only[List.getElem?_map,Option.map_eq_some_iff]at ha hv;obtain⟨x,hx,rfl⟩:=ha;obtain⟨y,hy,rfl⟩:=hv;rw[hx]at hy;cases hy;exact hr x⟩
theorem Aw(hr:∀x,av w (ev x) (ρ x))(o:Option Operand):∀x y,o.map ev=some x->o.map ρ=some y->av w x y:=by
 intro x y hx hy;cases o with
 |none=>cases hx
 |some z=>cases hx;cases hy;exact hr z
theorem lV{s:Sem Value}{q:PA}(hq:q.1)(h:jm P w s q):∃v,(do pure (Next.value (<-s)):Sem Next).run P w.toWorld=.ok (.value v) w.toWorld/\av w q.2 v:=by
 obtain⟨v,h1,h2⟩:=h hq;exact⟨v,by simp[h1],h2⟩
theorem GB{c a b:Operand}{x y z:AV}{dst:Option Tmp}{ty:TypeId}{pos:String}{after:Array Edge}{guard:Option (Nat×Bool)}(hc:av w x (ρ c))(ha:av w y (ρ a))(hb:av w z (ρ b))(hq:(nq x y z).1) :
  ∃v,(execOp ρ ⟨dst,.pick c a b,ty,pos,after,guard⟩).run P w.toWorld=.ok (.value v) w.toWorld/\av w (nq x y z).2 v:=by
 obtain⟨v,h1,h2⟩:=Cm (P:=P) hc ha hb hq;refine⟨v,?_,h2⟩;simp only[execOp,Sem.run_bind,Sem.run_pure]at h1 ⊢;cases hb:(asBool (ρ c)).run P w with
 |ok x w'=>rw[hb]at h1;simp only[Result.andThen_ok,Result.ok.injEq]at h1 ⊢;exact⟨by rw[h1.1],h1.2⟩
 |halt e w'=>rw[hb]at h1;simp at h1
theorem xp(o:Oper)(hw:aP w H)(hr:∀x,av w (ev x) (ρ x))(hq:(vq P ev H o.op).1):∃v,(execOp ρ o).run P w.toWorld=.ok (.value v) w.toWorld/\av w (vq P ev H o.op).2 v:=by
 obtain⟨dst,op,ty,pos,after,guard⟩:=o;cases op
 case move x=>exact⟨_,rfl,hr x⟩
 case assign x=>exact⟨_,rfl,hr x⟩
 case pick c a b=>
  obtain⟨v,h1,h2⟩:=Cm (P:=P) (hr c) (hr a) (hr b) hq;refine⟨v,?_,h2⟩;simp only[execOp,Sem.run_bind,Sem.run_pure]at h1 ⊢;cases hb:(asBool (ρ c)).run P w with
  |ok x w'=>rw[hb]at h1;simp only[Result.andThen_ok,Result.ok.injEq]at h1 ⊢;exact⟨by rw[h1.1],h1.2⟩
  |halt e w'=>rw[hb]at h1;simp at h1
 case nilCheck x=>exact N4 x rfl (hr x) _ rfl hq
 case binOp op t x y t'=>exact lV hq (Hm op t x y (hr x) (hr y))
 case unOp op t x=>exact lV hq (LD op (hr x))
 case load t a=>exact lV hq (IW t (hr a) hw)
 case fieldAddr t a f=>exact lV hq (L8 t f (hr a))
 case field t a f=>exact lV hq (IY t f (hr a))
 case indexAddr t a i=>exact lV hq (NH t (hr a) (hr i))
 case index t a i=>exact lV hq (Mr t (hr a) (hr i))
 case extract a i=>exact lV hq (K9 (hr a) i)
 case slice t a lo hi mx=>exact lV hq (P2 t (hr a) (Aw hr lo) (by cases lo<;>rfl) (Aw hr hi) (by cases hi<;>rfl) (Aw hr mx) (by cases mx<;>rfl))
 case makeFunc fn first captured=>
  have:=LV (P:=P) fn (vK hr first.toList) (vK hr captured.toList);have e1:(first.toList.map ρ).toArray=first.map ρ:=by rw[<-Array.toList_map,Array.toArray_toList]
  have e2:(captured.toList.map ρ).toArray=captured.map ρ:=by rw[<-Array.toList_map,Array.toArray_toList]
  rw[e1,e2]at this;exact lV hq this
 case makeInterface t x=>exact lV hq (Jb t (hr x))
 case convert s d x=>exact lV hq (J3 s d (hr x))
 case build t parts=>
  refine lV hq (Nd t jE fun i a v ha hv=>?_);simp only[List.getElem?_map,Option.map_eq_some_iff,Array.toList_map,Array.getElem?_toList]at ha hv;obtain⟨x,hx,rfl⟩:=ha;obtain⟨y,hy,rfl⟩:=hv;rw[hx]at hy;cases hy;exact hr x.2
 case call c=>
  obtain⟨callee,args,argTypes⟩:=c;cases callee
  case builtin b=>
   simp only[vq]at hq ⊢;generalize hts:argTypes.toList=ts at*;obtain rfl:argTypes=ts.toArray:=by rw[<-hts]
   have hrl:=vK hr args.toList;have hargs:args.map ρ=(args.toList.map ρ).toArray:=by rw[<-Array.toList_map,Array.toArray_toList]
   have hrun:∀s:Sem Value,(∀cs,builtin b ts.toArray ty cs (args.toList.map ρ).toArray=(do pure (Next.value (<-s))))->(execOp ρ ⟨dst,.call ⟨.builtin b,args,ts.toArray⟩,ty,pos,after,guard⟩)=(do pure (Next.value (<-s))):=by
    intro s hs;simp only[execOp,resolve,pure_bind,invoke,hargs];exact hs _
   generalize hus:args.toList.map ρ=us at*;generalize hals:args.toList.map ev=als at*;unfold mJ at*;split at hq<;>try exact hq.elim
   ·rename_i t ts x als
    cases us with
    |nil=>have:=hrl.1;simp at this
    |cons u us=>
     rw[hrun _ (fun _=>rfl)];exact lV hq (Nq ty t ts us hw (hrl.2 0 _ _ rfl rfl))
   ·rename_i t ts x als
    cases us with
    |nil=>have:=hrl.1;simp at this
    |cons u us=>
     rw[hrun _ (fun _=>rfl)];exact lV hq (HS ty t ts us (hrl.2 0 _ _ rfl rfl))
   ·rw[hrun _ (fun _=>rfl)]
    have:=Ds (P:=P) true ts.toArray ty hrl;exact lV hq this
   ·rw[hrun _ (fun _=>rfl)]
    have:=Ds (P:=P) false ts.toArray ty hrl;exact lV hq this
  all_goals exact hq.elim
 all_goals exact hq.elim
end
universe u
def bz(P:Program)(f:FuncId):Bool:=match P.funcs[f]? with
 | some fn => fn.body.isSome && !(fn.name == "runtime.NumGoroutine")
 |none=>false
def dV(P:Program)(f:FuncId)(args:List AV)(r:AV):Prop:=aj P f args [] fun r' l'=>r'=r/\l'=[]
def eP(P:Program)(f:FuncId)(args:List AV)(H:Hp)(K:AV->Hp->Prop):Prop:=
 ∀(w:NW) (vs:Array Value),aP w H->bp w args vs->Calls P f vs w.toWorld fun e W=>∃v r H' w',W=NW.toWorld w'/\e=.returned v/\K r H'/\aP w' H'/\av w' r v/\Ext w H w' H'
theorem eP.mono{P:Program}{f:FuncId}{args:List AV}{H:Hp}{K K':AV->Hp->Prop}(h:eP P f args H K)(hk:∀r H,K r H->K' r H):eP P f args H K':=
 fun w vs h1 h2=>(h w vs h1 h2).mono fun _ _ ⟨v,r,H',w',e0,e,k,g⟩=>⟨v,r,H',w',e0,e,hk _ _ k,g⟩
def BL:AV->Option (FuncId×List AV×List AV)
 |.raw (.func (.func f) first captured)=>some (f,first.toList.map .raw,captured.toList.map .raw)
 |.fK f cs=>some (f,[],cs)
 |.bd f fs=>some (f,fs,[])
 |_=>none
-- what follows is hidden from simp: an argument that a later one's type hangs on is held fixed
inductive gv{α:Sort u}(a:α):Type
 |mk
def uK(H:Hp)(A:Nat->Prop)(_:gv A):Prop:=∃i,H.get i=none/\A i
def tX(P:Program)(H:Hp)(t:TypeId)(a x:AV)(K:AV->Hp->Prop):Prop:=match a,da P t with
 |.pt i m k j,some n=>match H.get i with
  |some r=>(cR x.cells=true/\x.cells.length=n/\A8 r m k j n)/\K .any (H.put i (yr r k j x.cells))
  |none=>False
 |_,_=>False
def nz(P:Program)(H:Hp)(t:TypeId)(K:AV->Hp->Prop):Prop:=match ee P t with
 |some zs=>uK H (fun i=>K (.pt i 0 0 0) (H.put i (.var t (zs.map .raw)))) .mk
 |none=>False
def qA(H:Hp)(t:TypeId)(x:AV)(K:AV->Hp->Prop):Prop:=cR x.cells=true/\uK H (fun i=>K (.pt i 0 0 0) (H.put i (.var t x.cells))) .mk
def v6(sz:Nat):Nat->List (Nat×AV)->Prop
 |_,[]=>True
 |k,(i,a)::rest=>(i=k/\cR a.cells=true/\a.cells.length=sz)/\v6 sz (k+1) rest
theorem FG{sz:Nat}:∀{k:Nat} {l:List (Nat×AV)},v6 sz k l->l.map (·.1)=List.range' k l.length/\∀p∈l,cR p.2.cells=true/\p.2.cells.length=sz
 |_,[],_=>⟨rfl,fun p hp=>by simp at hp⟩
 |k,(i,a)::rest,h=>by
  obtain⟨⟨rfl,h1,h2⟩,h3⟩:=h;obtain⟨g1,g2⟩:=FG h3;refine⟨by simp[g1,List.range'_succ],fun p hp=>?_⟩;rcases List.mem_cons.1 hp with rfl|hp
  ·exact⟨h1,h2⟩
  ·exact g2 p hp
def lL(parts:List (Nat×AV)):List (List AV):=parts.map (·.2.cells)
def q9(e:TypeId)(sz:Nat)(css:List (List AV))(H:Hp)(K:AV->Hp->Prop):Prop:=
 (aY dQ css.flatten=true/\K (.sl true sz css []) H)\/(0<sz/\∃i,H.get i=none/\K (.rs i css.length sz css.length) (H.put i (.aO e sz css)))
def nj(P:Program)(H:Hp)(t:TypeId)(n:Nat)(parts:List (Nat×AV))(K:AV->Hp->Prop):Prop:=match iw P t with
 |some e=>match da P e with
  |some sz=>(parts.length=n/\v6 sz 0 parts/\n*sz<=16777216/\(n*sz=0\/(ee P e).isSome=true))/\
   q9 e sz (lL parts) H K
  |none=>False
 |none=>False
def p6(P:Program)(ne:Bool)(t:TypeId)(x y:AV)(H:Hp)(K:AV->Hp->Prop):Prop:=match x,y with
 |.sl _ _ css _,.raw (.slice none 0 0)=>gK P t=true/\∀b:Bool,(b=true->css=[])->K (.raw (.bool (ne ^^ b))) H
 |.rs _ _ _ n,.raw (.slice none 0 0)=>gK P t=true/\∀b:Bool,(b=true->n=0)->K (.raw (.bool (ne ^^ b))) H
 |x,y=>(fl P (if ne then .neq else .eql) t x y).1/\K (fl P (if ne then .neq else .eql) t x y).2 H
def tB(H:Hp):AV->Option (Prop×List (List AV))
 |.sl _ _ css _=>some (True,css)
 |.rs i m sz n=>match H.get i with
  |some (.aO _ sz' css)=>some (sz'=sz/\m=css.length/\n<=m,css.take n)
  |_=>none
 |.rv i m sz o n=>match H.get i with
  |some (.aO _ sz' css)=>some (sz'=sz/\m=css.length/\o+n<=m,(css.drop o).take n)
  |_=>none
 |.raw (.slice none 0 0)=>some (True,[])
 |_=>none
def iR(P:Program)(t:TypeId):Nat:=((P.info? t).map (·.bytes)).getD 0
def room(by_ n:Nat):Prop:=n*by_<=140737488355328/\n<=9223372036854775807
def ij(css:List (List AV))(n:Nat)(ys:List (List AV)):List (List AV):=css.take n++ys++css.drop (n+ys.length)
def td(i:Nat)(e:TypeId)(m sz n:Nat)(css ys:List (List AV))(H:Hp)(K:AV->Hp->Prop):Prop:=if n=m then K (.rs i (m+ys.length) sz (n+ys.length)) (H.put i (.aO e sz (css++ys)))else K (.rs i (max m (n+ys.length)) sz (n+ys.length)) (H.put i (.aO e sz (ij css n ys)))
theorem JS(css ys:List (List AV)):ij css css.length ys=css++ys:=by simp[ij]
variable{css:List (List AV)}
theorem DD{n:Nat}(ys:List (List AV))(h:n<=css.length):(ij css n ys).length=max css.length (n+ys.length):=by simp[ij];omega
theorem LP{i:Nat}{e:TypeId}{sz n:Nat}{ys:List (List AV)}{H:Hp}{K:AV->Hp->Prop}(h:td i e css.length sz n css ys H K):K (.rs i (max css.length (n+ys.length)) sz (n+ys.length)) (H.put i (.aO e sz (ij css n ys))):=by
 unfold td at h;split at h
 ·rename_i e;subst e;rw[JS,Nat.max_eq_right jB];exact h
 ·exact h
def Ca(by_:Nat)(e:TypeId)(sz:Nat)(ys:List (List AV))(a:AV)(H:Hp)(K:AV->Hp->Prop):Prop:=match a with
 |.rs i m sz' n=>match H.get i with
  |some (.aO e' sz'' css)=>(e'=e/\sz'=sz/\sz''=sz/\m=css.length/\n<=m/\room by_ (n+ys.length))/\td i e m sz n css ys H K
  |_=>False
 |.raw (.slice none 0 0)=>room by_ ys.length/\uK H (fun i=>K (.rs i ys.length sz ys.length) (H.put i (.aO e sz ys))) .mk
 |.sl true sz' css _=>(sz'=sz/\room by_ (css.length+ys.length)/\(css.length=0\/0<ys.length))/\uK H (fun i=>K (.rs i (css.length+ys.length) sz (css.length+ys.length)) (H.put i (.aO e sz (css++ys)))) .mk
 |_=>False
def vy(P:Program)(t:TypeId)(a x:AV)(H:Hp)(K:AV->Hp->Prop):Prop:=match iw P t with
 |some e=>match da P e,ee P e,tB H x with
  |some sz,some zs,some (c,ys)=>(zs.length=sz/\0<sz/\c/\lz sz ys)/\Ca (iR P e) e sz ys a H K
  |_,_,_=>False
 |none=>False
def o8(P:Program)(t t':TypeId)(a x:AV)(H:Hp)(K:AV->Hp->Prop):Prop:=
 ∀(w:NW) va vx ty,aP w H->av w a va->av w x vx->∃(w':NW) (H':Hp) (r:AV) (v:Value),(Builtin.append_ #[t,t'] ty #[va,vx]).run P w.toWorld=.ok v w'.toWorld/\K r H'/\aP w' H'/\av w' r v/\Ext w H w' H'
def sa(P:Program)(b:Builtin)(ts:List TypeId)(args:List AV)(H:Hp)(K:AV->Hp->Prop):Prop:=
 ∀(w:NW) vs ty cs,aP w H->cc w args vs->∃(w':NW) (H':Hp) (r:AV) (v:Value),(builtin b ts.toArray ty cs vs.toArray).run P w.toWorld=.ok (.value v) w'.toWorld/\K r H'/\aP w' H'/\av w' r v/\Ext w H w' H'
def iZ(P:Program)(o:Op)(ty:TypeId)(ev:Operand->AV)(H:Hp)(K:AV->Hp->Prop):Prop:=
 ∀(w:NW) ρ dst pos after guard,aP w H->(∀x∈o.operands.toList,av w (ev x) (ρ x))->∃(w':NW) (H':Hp) (r:AV),K r H'/\aP w' H'/\Ext w H w' H'/\
  ((∃v,(execOp ρ ⟨dst,o,ty,pos,after,guard⟩).run P w.toWorld=.ok (.value v) w'.toWorld/\av w' r v)\/((execOp ρ ⟨dst,o,ty,pos,after,guard⟩).run P w.toWorld=.ok .skip w'.toWorld/\r=.any))
def Jh(P:Program)(f:FuncId)(args:List AV)(H:Hp)(K:AV->Hp->Prop):Prop:=
 ∀(w:NW) vs,aP w H->bp w args vs->∃(v:Value) (w':NW) (r:AV) (H':Hp),(callFunc f vs).run P w.toWorld=.ok (.value v) w'.toWorld/\K r H'/\aP w' H'/\av w' r v/\Ext w H w' H'
def fF(P:Program)(f:AV)(args:List AV)(H:Hp)(K:AV->Hp->Prop):Prop:=match BL f with
 |some (f,first,captured)=>(bz P f=true/\eP P f (first++args++captured) H K)\/Jh P f (first++args++captured) H K
 |none=>False
def db:Op->Bool
 |.box .. |.alloc _|.store .. |.buildSlice .. |.makeMap .. |.makeSlice .. |.mapUpdate .. |.insert .. |.lookup .. |.range .. |.next .. |.entry .. |.typeAssert ..=>false
 |.binOp .eql .. |.binOp .neq ..=>false
 |.call { callee:=.builtin b,.. }=>match b with
  |.len|.cap|.max|.min=>true
  |_=>false
 |.call _=>false
 |_=>true
def vc(P:Program)(ev:Operand->AV)(H:Hp)(ty:TypeId)(K:AV->Hp->Prop):Op->Prop
 |.box t x=>qA H t (ev x) K
 |.alloc t=>nz P H t K
 |.store t a x=>tX P H t (ev a) (ev x) K
 |.buildSlice t n parts=>nj P H t n (parts.toList.map fun p=>(p.1,ev p.2)) K
 |.binOp .eql t x y _=>p6 P false t (ev x) (ev y) H K
 |.binOp .neq t x y _=>p6 P true t (ev x) (ev y) H K
 |.call { callee:=.value f,args,.. }=>fF P (ev f) (args.toList.map ev) H K
 |.call { callee:=.builtin .append,args,argTypes }=>match argTypes.toList,args.toList with
  |[t,t'],[a,x]=>o8 P t t' (ev a) (ev x) H K
  |_,_=>False
 |.call { callee:=.builtin b,args,argTypes }=>if db (.call ⟨.builtin b,args,argTypes⟩)then(vq P ev H (.call ⟨.builtin b,args,argTypes⟩)).1/\K (vq P ev H (.call ⟨.builtin b,args,argTypes⟩)).2 H else sa P b argTypes.toList (args.toList.map ev) H K
 |o=>if db o then(vq P ev H o).1/\K (vq P ev H o).2 H else iZ P o ty ev H K
section
variable {P:Program}{ops:Array Oper}{F:List AV}{H:Hp}
variable{K:AV->Hp->Prop}
theorem J0{o:Oper}(hq:(vq P (cf F) H o.op).1)(hk:K (vq P (cf F) H o.op).2 H):Bi P o F H K:=fun w tm h1 h2=>by
 obtain⟨v,hr,hv⟩:=xp o h1 (fun x=>h2.eval [] x) hq;exact⟨w,H,_,hk,h1,Ext.refl w H,.inl ⟨v,hr,hv⟩⟩
theorem EZ{sz:Nat}:∀(parts:List (Nat×AV)) (k:Nat) (pre zs:List AV),parts.map (·.1)=List.range' k parts.length->(∀p∈parts,p.2.cells.length=sz)->pre.length=k*sz->zs.length=parts.length*sz->
  qy (fun i=>some (i*sz,sz)) (pre++zs) parts=some (pre++(parts.map (·.2.cells)).flatten)
 |[],k,pre,zs,_,_,_,hz=>by
  have:zs=[]:=by simpa using hz
  simp[qy,this]
 |(i,a)::parts,k,pre,zs,hp,hs,hk,hz=>by
  simp only[List.map_cons,List.length_cons,List.range'_succ,List.cons.injEq]at hp;obtain⟨rfl,hp⟩:=hp;have ha:a.cells.length=sz:=hs (i,a) jE;have hz':zs.length=parts.length*sz+sz:=by rw[hz,List.length_cons,Nat.add_mul,Nat.one_mul]
  simp only[qy];rw[if_pos ⟨ha,by simp;omega⟩];have e:jQ (pre++zs) (i*sz) a.cells=(pre++a.cells)++zs.drop sz:=by
   unfold jQ;rw[<-hk,List.take_left',List.drop_append,ha]
   ·simp
   ·rfl
  rw[e,EZ parts (i+1) (pre++a.cells) (zs.drop sz) hp (fun p hp=>hs p (by simp[hp])) (by simp[hk,ha,Nat.add_mul]) jF];simp[List.append_assoc]
variable{w:NW}
theorem I9{l:List AV}{vs:List Value}(h:cc w l vs){k:Nat}{u:AV}(hu:l[k]?=some u):av w u (vs.toArray.getD k undef):=by
 have hk:k<vs.length:=by rw[<-h.1];exact(List.getElem?_eq_some_iff.1 hu).1
 refine h.2 k u _ hu ?_;simp[hk]
variable{t:TypeId}
theorem LZ{n:Nat}{parts:List (Nat×AV)}{vparts:Array (Nat×Value)}(hw:aP w H)(h1:parts.map (·.1)=vparts.toList.map (·.1))(h2:∀(i:Nat) a v,parts[i]?=some a->vparts.toList[i]?=some v->av w a.2 v.2)
  (hv:nj P H t n parts K):∃(w':NW) (H':Hp) (r:AV) (v:Value),(Instr.buildSlice t n vparts).run P w.toWorld=.ok v w'.toWorld/\K r H'/\aP w' H'/\av w' r v/\Ext w H w' H':=by
 unfold nj at hv;split at hv;rotate_left
 ·exact hv.elim
 rename_i e he;split at hv;rotate_left
 ·exact hv.elim
 rename_i sz hse;obtain⟨⟨hlen,hok,hn,hz⟩,hk⟩:=hv;have hu:P.underlying t=some (.slice e):=by unfold iw at he;split at he<;>simp_all
 obtain⟨hp,hs⟩:=FG hok;rw[hlen,<-List.range_eq_range']at hp;have hzr:∃z:Array Value,(n*sz=0/\z=#[])\/(n*sz≠0/\∃v,(zeroValue e).run P w.toWorld=.ok v w.toWorld/\v.cells=z):=by
  by_cases h0:n*sz=0
  ·exact⟨#[],.inl ⟨h0,rfl⟩⟩
  ·have hz':=hz.resolve_left h0
   obtain⟨zs,hzs⟩:=Option.isSome_iff_exists.1 hz';obtain⟨z,hz1,_⟩:=xh (w:=w.toWorld) hzs;exact⟨z.cells,.inr ⟨h0,z,hz1,rfl⟩⟩
 obtain⟨z,hz⟩:=hzr;generalize hcur:(Array.range (n*sz)).map (z[· % z.size]!)=cur;have hcs:cur.size=n*sz:=by subst hcur;simp
 have hf:=EZ (sz:=sz) parts 0 [] (cur.toList.map .raw) (by rw[hp,hlen,List.range_eq_range']) (fun p hp=>(hs p hp).2) jE (by simp[hcs,hlen]);simp only[List.nil_append]at hf;obtain⟨vs,g1,g2⟩:=AM (w:=w) (cur:=cur) hf h1 (fun i a v ha hv=>(h2 i a v ha hv).gp (hs _ (List.mem_of_getElem? ha)).1)
  ⟨jE,fun i a v ha hv=>by
   simp only[List.getElem?_map,Option.map_eq_some_iff]at ha;obtain⟨x,hx,rfl⟩:=ha;rw[hx]at hv;cases hv;exact .raw _⟩
 have hrun:(Instr.buildSlice t n vparts).run P w.toWorld=.ok (.slice (some ⟨w.heap.size,0,none⟩) n n) (w.alloc (.cells vs e)):=by
  have hbig:¬(n*sz>2 ^ 24):=jB
  rcases hz with⟨h0,rfl⟩|⟨h0,v,hv,rfl⟩
  ·simp only[Instr.buildSlice,Sem.run_bind,run_underlying hu,Result.andThen_ok,lQ hse,if_neg hbig,if_pos h0,Sem.run_pure,hcur,g1,newRow,run_newObj]
   rfl
  ·simp only[Instr.buildSlice,Sem.run_bind,run_underlying hu,Result.andThen_ok,lQ hse,if_neg hbig,if_neg h0,hv,Sem.run_pure,hcur,g1,newRow,run_newObj]
   rfl
 have hln:(lL parts).length=n:=by simp[lL,hlen]
 have hls:∀cs∈lL parts,cs.length=sz:=fun cs hcs=>by
  obtain⟨p,hp,rfl⟩:=List.mem_map.1 hcs;exact(hs p hp).2
 have hfl:(lL parts).flatten.length=n*sz:=by rw[kf hls,hln]
 have hvs:vs.size=n*sz:=by have:=g2.1;simp only[Array.length_toList]at this;rw[<-this];exact hfl
 rcases hk with⟨hno,hk⟩|⟨h0,i,hi,hk⟩
 ·have ex:=Ext.eK hw (.cells vs e)
  refine⟨_,H,_,_,hrun,hk,hw.eK _,?_,ex⟩;by_cases h0:n=0
  ·have:lL parts=[]:=List.length_eq_zero_iff.1 jB
   rw[this,h0];exact .fZ true sz _ 0 (fun _=>rfl)
  ·have:=av.sl (w:=w.to (w.alloc (.cells vs e))) (d:=[]) true sz (lL parts) ⟨w.heap.size,0,none⟩ n (fun j=>vs.getD j undef) jB jB (fun _=>⟨hln.symm,vs,e,heap_alloc_new w.toWorld _⟩) hls jE (fun h=>by have:=hw.fin _ h;simp at this) (fun i j hi hj=>by
    rw[k9,tI w.heap.size _ vs e (0,0) (heap_alloc_new w.toWorld _)];have:=yO hi hj;rw[hln]at this;simp[show i*sz+j<vs.size from jB]) (fun i j u hi hu=>by
    have hj:j<sz:=by have:=(List.getElem?_eq_some_iff.1 hu).1;rwa [uQ hls hi]at this
    have hx:=I9 g2 (k:=i*sz+j) (u:=u) (by rw[<-hu];exact pU hls hi hj);rw[Array.toArray_toList]at hx;refine(hx.kq (mq hno (i:=i*sz+j) (by rw[<-hu];exact pU hls hi hj))).aX ex.toKeep.bare (oN u))
   rw[hln]at this;exact this
 ·obtain⟨q1,q2⟩:=uV (row:=.aO e sz (lL parts)) hw (hw.none hi _) (fun r' hr=>by rw[hi]at hr;cases hr) ⟨h0,hls⟩ vs ⟨rfl,by show(lL parts).flatten.length<=_;omega⟩ (fun k a v ha hv=>g2.2 k a v ha (by simpa using hv))
  refine⟨_,_,_,_,hrun,hk,q1,?_,q2⟩;have:=av.rs (w:=((w.to (w.alloc ((Row.aO e sz (lL parts)).obj vs))).fM w.heap.size).name i (Row.aO e sz (lL parts)).fE (.at w.heap.size vs.size (Row.aO e sz (lL parts)).bA)) i (lL parts).length sz (lL parts).length w.heap.size vs.size n (NW.bY _ _ _ _) hvs.symm jB h0;rw[hln]at this ⊢;exact this
theorem Cs(ne:Bool)(t:TypeId){a b:AV}{va vb:Value}(x y:Operand)(ha:av w a va)(hb:av w b vb)(hv:p6 P ne t a b H K) :
  ∃r v,(do eqGuard (if ne then .neq else .eql) t x y va vb;binOp (if ne then .neq else .eql) t va vb:Sem Value).run P w.toWorld=.ok v w.toWorld/\K r H/\av w r v:=by
 have key:∀{n:Nat},gK P t=true->(∀b:Bool,(b=true->n=0)->K (.raw (.bool (ne ^^ b))) H)->(∃A c,va=.slice A n c/\(A=none->n=0))->vb=.slice none 0 0->
   ∃r v,(do eqGuard (if ne then .neq else .eql) t x y va vb;binOp (if ne then .neq else .eql) t va vb:Sem Value).run P w.toWorld=.ok v w.toWorld/\K r H/\av w r v:=fun{n} h1 h2 h3 h4=>by
  obtain⟨e,hu⟩:=qg h1;obtain⟨A,c,rfl,hA⟩:=h3;subst h4;have he:(Op.equal t (.slice A n c) (.slice none 0 0)).run P w.toWorld=.ok A.isNone w.toWorld:=by
   refine qG (fun d=>?_);cases A<;>simp[Op.equalIn,run_underlying hu]
  obtain⟨v,h1,h3⟩:=qR (P:=P) (w:=w) (ne:=ne) (t:=t) (x:=x) (y:=y) (fun op=>eqGuard_at_slice _ _ _ _ _ _ _ _) rfl rfl he;exact⟨_,v,h1,h2 A.isNone (fun h=>hA (by simpa using h)),h3⟩
 unfold p6 at hv;split at hv
 ·rename_i z sz css _
  refine key (n:=css.length) hv.1 (fun b hb=>hv.2 b fun h=>List.length_eq_zero_iff.1 (hb h)) ?_ (de hb);cases ha with
  |fZ _ _ A c _=>exact⟨A,c,rfl,fun _=>rfl⟩
  |sl _ _ _ ad c _ _ _ _ _ _ _ _ _=>exact⟨some ad,c,rfl,fun h=>by cases h⟩
 ·rename_i i m sz n
  refine key (n:=n) hv.1 hv.2 ?_ (de hb);cases ha with
  |iq _ _ _ A _=>exact⟨A,0,rfl,fun _=>rfl⟩
  |rs _ _ _ _ b t c _ _ _ _=>exact⟨some ⟨b,0,none⟩,c,rfl,fun h=>by cases h⟩
 ·obtain⟨v,h1,h2⟩:=Hm (P:=P) (if ne then .neq else .eql) t x y ha hb hv.1
  exact⟨_,v,h1,hv.2,h2⟩
-- appends
theorem cc.append{a b:List AV}{x y:List Value}(h:cc w a x)(k:cc w b y):cc w (a++b) (x++y):=by
 refine⟨by simp[h.1,k.1],fun i u v hu hv=>?_⟩;rcases Nat.lt_or_ge i a.length with h1|h1
 ·rw[List.getElem?_append_left h1]at hu
  rw[List.getElem?_append_left (by rw[<-h.1];exact h1)]at hv;exact h.2 i u v hu hv
 ·rw[List.getElem?_append_right h1]at hu
  rw[List.getElem?_append_right (by rw[<-h.1];exact h1),<-h.1]at hv;exact k.2 _ u v hu hv
def AQ(w:NW)(sz:Nat)(v:Value)(ys:List (List AV)):Prop:=∃A c news,v=.slice A ys.length c/\cc w ys.flatten news/\(0<ys.length->∃ad,A=some ad/\∀(j:Nat) v,news[j]?=some v->w.cell? (ad.add j)=some v)
variable{sz:Nat}
theorem ur(A:Option Addr)(c:Nat):AQ w sz (.slice A 0 c) []:=⟨A,c,[],rfl,⟨rfl,fun i a v h=>by simp at h⟩,fun h=>by simp at h⟩
variable{ys:List (List AV)}
theorem Bc{c:Nat}{ad:Addr}(hl:∀y∈ys,y.length=sz)(h:∀i j,i<ys.length->j<sz->∃v,w.cell? (ad.add (i*sz+j))=some v/\∀u,(ys.getD i [])[j]?=some u->av w u v):AQ w sz (.slice (some ad) ys.length c) ys:=by
 have hfl:=kf hl;refine⟨some ad,c,(List.range (ys.length*sz)).map fun k=>(w.cell? (ad.add k)).getD undef,rfl,⟨by simp[hfl],fun k a v ha hv=>?_⟩,fun _=>⟨ad,rfl,fun k v hv=>?_⟩⟩
 ·have hk:k<ys.length*sz:=by have:=(List.getElem?_eq_some_iff.1 ha).1;omega
  obtain⟨i,j,hi,hj,rfl⟩:=uT hk;rw[pU hl hi hj]at ha;obtain⟨v',h1,h2⟩:=h i j hi hj;simp only[List.getElem?_map,List.getElem?_range hk,Option.map_some,Option.some.injEq,h1,Option.getD_some]at hv;subst hv;exact h2 a ha
 ·have hk:k<ys.length*sz:=by have:=(List.getElem?_eq_some_iff.1 hv).1;simpa using this
  obtain⟨i,j,hi,hj,rfl⟩:=uT hk;obtain⟨v',h1,h2⟩:=h i j hi hj;simp only[List.getElem?_map,List.getElem?_range hk,Option.map_some,Option.some.injEq,h1,Option.getD_some]at hv;subst hv;exact h1
variable{css:List (List AV)}
theorem tz(hw:aP w H){i:Nat}{e:TypeId}{b t s:Nat}(hi:H.get i=some (.aO e sz css))(hn:w.nm i css.length=some (.at b t s)){k j:Nat}(hk:k<css.length)(hj:j<sz) :
  s=sz/\(∀cs∈css,cs.length=sz)/\css.length*sz<=t/\∃v,w.cell? ⟨b,k*sz+j,none⟩=some v/\∀u,(css.getD k [])[j]?=some u->av w u v:=by
 obtain⟨hok,z,hz,hrow⟩:=hw.rows i _ hi;have:z=.at b t s:=by have hz:w.nm i css.length=some z:=hz;rw[hn]at hz;cases hz;rfl
 subst this;obtain⟨hs_,cur,hh,⟨hs,hl⟩,hr⟩:=hrow;have hs_:sz=s:=hs_.symm;subst hs_;have hfl:(Row.aO e sz css).cells.length=css.length*sz:=kf hok.2;have h3:=yO hk hj;have h4:k*sz+j<cur.size:=jB
 refine⟨rfl,hok.2,jB,cur[k*sz+j],?_,fun u hu=>?_⟩
 ·rw[tI b _ cur _ (0,0) hh];simp[h4]
 ·refine hr (k*sz+j) u _ ?_ (by simp[h4])
  show css.flatten[k*sz+j]?=some u;rw[pU hok.2 hk hj];exact hu
theorem DU(hw:aP w H){x:AV}{vx:Value}(hx:av w x vx){c:Prop}(h:tB H x=some (c,ys))(hc:c)(hg:lz sz ys):AQ w sz vx ys:=by
 unfold tB at h;split at h
 ·rename_i xx sz' css _
  cases h;cases hx with
  |fZ=>exact ur _ _
  |sl _ _ _ ad c vs hn hc' hx hsz hb hH hcell hr=>
   have hz:sz'=sz:=by rw[<-hsz (ys[0]) (List.getElem_mem hn),(hg _ (List.getElem_mem hn)).1]
   subst hz;exact Bc hsz fun i j hi hj=>⟨_,hcell i j hi hj,fun u hu=>(hr i j u hi hu).l6⟩
 ·rename_i i m sz' n
  split at h
  ·rename_i e sz2 css hi
   cases h;obtain⟨rfl,rfl,hn⟩:=hc;cases hx with
   |iq _ _ _ A hnm=>rw[List.take_zero];exact ur _ _
   |rs _ _ _ _ b t c hnm hc' hle hs0=>
    have hlen:(css.take n).length=n:=by simp;omega
    by_cases h0:n=0
    ·subst h0;rw[List.take_zero];exact ur _ _
    have hz:sz2=sz:=by
     obtain⟨_,hall,_⟩:=tz hw hi hnm (k:=0) (j:=0) jB hs0;have h1:(css.take n)[0]' jB∈css.take n:=List.getElem_mem _;rw[<-hall _ (List.mem_of_mem_take h1),(hg _ h1).1]
    subst hz;have:=Bc (w:=w) (sz:=sz2) (c:=c) (ys:=css.take n) (ad:=⟨b,0,none⟩) (fun y hy=>(hg y hy).1) fun i' j hi' hj=>by
     obtain⟨_,_,_,v,h1,h2⟩:=tz hw hi hnm (k:=i') (j:=j) jB hj;refine⟨v,by rw[k9,Nat.zero_add];exact h1,fun u hu=>h2 u ?_⟩;rw[<-hu];simp[List.getElem?_take,show i'<n from jB]
    rw[hlen]at this;exact this
  ·cases h
 ·rename_i i m sz' o n
  split at h
  ·rename_i e sz2 css hi
   cases h;obtain⟨rfl,rfl,hn⟩:=hc;have hlen:((css.drop o).take n).length=n:=by simp;omega
   cases hx with
   |lp _ _ _ _ A=>rw[List.take_zero];exact ur _ _
   |rv _ _ _ _ _ b t c hnm hle=>
    by_cases h0:n=0
    ·subst h0;rw[List.take_zero];exact ur _ _
    have h1:((css.drop o).take n)[0]' jB∈(css.drop o).take n:=List.getElem_mem _;obtain⟨hok,_⟩:=hw.rows i _ hi;have hz:sz2=sz:=by rw[<-hok.2 _ (List.mem_of_mem_drop (List.mem_of_mem_take h1)),(hg _ h1).1]
    subst hz;have:=Bc (w:=w) (sz:=sz2) (c:=c) (ys:=(css.drop o).take n) (ad:=⟨b,o*sz2,none⟩) (fun y hy=>(hg y hy).1) fun i' j hi' hj=>by
     obtain⟨_,_,_,v,h1,h2⟩:=tz hw hi hnm (k:=o+i') (j:=j) jB hj;refine⟨v,by rw[k9,<-Nat.add_assoc,<-Nat.add_mul];exact h1,fun u hu=>h2 u ?_⟩;rw[<-hu];simp[List.getElem?_take,show i'<n from jB]
    rw[hlen]at this;exact this
  ·cases h
 ·cases h
  have:=de hx;subst this;exact ur _ _
 ·cases h
theorem BK{e:TypeId}(he:iw P t=some e):P.underlying t=some (.slice e):=by unfold iw at he;split at he<;>simp_all
theorem A2{e:TypeId}{zs:List Value}(hsz:da P e=some sz)(hz:ee P e=some zs)(hl:zs.length=sz):∃i z,P.info? e=some i/\i.size=sz/\i.zero=some z/\z.cells.size=sz/\iR P e=i.bytes:=by
 unfold da at hsz;cases hi:P.info? e with
 |none=>rw[hi]at hsz;cases hsz
 |some i=>
  rw[hi]at hsz;unfold ee at hz;rw[hi]at hz;simp only[Option.bind_some,Option.map_eq_some_iff]at hz;obtain⟨z,hz1,hz2⟩:=hz;refine⟨i,z,rfl,by simpa using hsz,hz1,?_,by simp[iR,hi]⟩;rw[<-hl,<-hz2];simp
theorem tN(hw:aP w H){i:Nat}{e:TypeId}{cap:Nat}{cv:List Value}{rest:Array Value}(h0:0<sz)(hlen:∀cs∈css,cs.length=sz)(hrel:cc w css.flatten cv)(hcap:css.length<=cap)(hrest:rest.size=(cap-css.length)*sz)
  (hfree:w.nm i css.length=none) (hlater:∀r,H.get i=some r->r.fE<=css.length) :
  ∃w':NW,w'.toWorld=w.drew.alloc (.cells (cv.toArray++rest) e)/\aP w' (H.put i (.aO e sz css))/\Ext w H w' (H.put i (.aO e sz css))/\av w' (.rs i css.length sz css.length) (.slice (some ⟨w.heap.size,0,none⟩) css.length cap):=by
 have hfl:=kf hlen;have hvl:cv.length=css.length*sz:=by rw[<-hrel.1,hfl]
 have hsz:(cv.toArray++rest).size=cap*sz:=by
  simp only[Array.size_append,List.size_toArray,hvl,hrest];rw[<-Nat.add_mul];congr 1;omega
 have hle:=Nat.mul_le_mul_right sz hcap;obtain⟨g1,g2⟩:=uV (row:=.aO e sz css) hw.drew hfree hlater ⟨h0,hlen⟩ (cv.toArray++rest) ⟨rfl,by show css.flatten.length<=_;omega⟩ (fun k a v ha hv=>by
  have hi:k<cv.length:=by rw[<-hrel.1];exact(List.getElem?_eq_some_iff.1 ha).1
  rw[Array.getElem?_append_left (by simpa using hi)]at hv;exact(hrel.2 k a v ha (by simpa using hv)).ext (Ext.drew w H))
 refine⟨_,rfl,g1,(Ext.drew w H).trans g2,?_⟩;exact av.rs i css.length sz css.length w.heap.size (cv.toArray++rest).size cap (NW.bY _ _ _ _) hsz.symm hcap h0
theorem Fy{a x:AV}(h:vy P t a x H K):o8 P t t a x H K:=by
 intro w va vx ty hw hra hrx;unfold vy at h;split at h;rotate_left
 ·exact h.elim
 rename_i e he;split at h;rotate_left
 ·exact h.elim
 rename_i sz zs c ys hse hze hsrc;obtain⟨⟨hzl,h0,hc,hg⟩,h⟩:=h;have hu:=BK he;obtain⟨i,z,hi,hisz,hiz,hzs,hby⟩:=A2 hse hze hzl;obtain⟨A,cx,news,rfl,hnews,haddr⟩:=DU hw hrx hsrc hc hg;have hfl:ys.flatten.length=ys.length*sz:=kf fun y hy=>(hg y hy).1
 have hnl:news.length=ys.length*sz:=by rw[<-hnews.1,hfl]
 have hzc:∀m,(Builtin.zeroCells z.cells m).size=m*sz:=fun m=>by simp[Builtin.zeroCells,hzs]
 have hgc:∀need old,need<=grownCap w.toWorld need old e:=fun need old=>by
  unfold grownCap Question.cut;simp
 have hones:cR ys.flatten=true:=by
  simp only[cR,List.all_eq_true];intro u hu';obtain⟨y,hy,huy⟩:=List.mem_flatten.1 hu';have:=(hg y hy).2;simp only[cR,List.all_eq_true]at this;exact this u huy
 have hf0:∀A:Option Addr,ys.length=0->(Builtin.firstCells i.size 0 (.slice A 0 cx)).run P w.toWorld=.ok #[] w.toWorld:=fun A _=>by
  cases A<;>simp[Builtin.firstCells,loadCells,loadCellsFrom]
 rw[hby]at h;unfold Ca at h;split at h
 ·-- a row of one's own
  rename_i d m sz' n;split at h;rotate_left
  ·exact h.elim
  rename_i e' sz2 css hd;obtain⟨⟨rfl,rfl,rfl,rfl,hnm',hroom,h63⟩,hk⟩:=h;have hk:=LP hk;have hok:=(hw.rows d _ hd).1;have hlen':∀cs∈ij css n ys,cs.length=sz2:=fun cs h=>by
   unfold ij at h;rcases List.mem_append.1 h with h|h
   ·rcases List.mem_append.1 h with h|h
    ·exact hok.2 _ (List.mem_of_mem_take h)
    ·exact(hg cs h).1
   ·exact hok.2 _ (List.mem_of_mem_drop h)
  have hcfl:=kf hok.2;have hl2:=DD ys hnm';cases hra with
  |iq _ _ _ A hnm=>
   -- nowhere yet
   obtain⟨_,z',hz',hrow⟩:=hw.rows d _ hd;have:z'=.nil:=by have hz':w.nm d css.length=some z':=hz';rw[hnm]at hz';cases hz';rfl
   subst this;obtain⟨e2,sz3,hrow⟩:=hrow;cases hrow;simp only[ij,List.take_nil,List.drop_nil,List.append_nil,List.nil_append,List.length_nil,Nat.zero_add,Nat.zero_max]at hk hl2;by_cases hy:ys.length=0
   ·have:ys=[]:=List.length_eq_zero_iff.1 hy
    subst this;refine⟨w,_,_,.slice A 0 0,?_,hk,?_,.iq _ _ _ _ hnm,?_⟩
    ·cases A<;>simp[Builtin.append_,run_underlying hu,sizeOf,typeInfo,hi,Builtin.lenOf,hf0,storeCells]
    ·refine{ hw with rows:=fun j r hj=>?_,dF:=fun j q z hz=>?_ }
     ·rw[Hp.bf]at hj
      split at hj
      ·rename_i e;subst e;exact hw.rows j r (by rw[hd];exact hj)
      ·exact hw.rows j r hj
     ·rw[Hp.bf]
      split
      ·rename_i e;subst e;obtain⟨r,g1,g2⟩:=hw.dF j q z hz;rw[hd]at g1;cases g1;exact⟨_,rfl,g2⟩
      ·exact hw.dF j q z hz
    ·exact{ Ext.refl w H with base:=rfl }
   ·obtain⟨ad,rfl,hcell⟩:=haddr jB
    obtain⟨w',e1,g1,g2,g3⟩:=tN (i:=d) (e:=e') (cap:=grownCap w.toWorld ys.length 0 e') (css:=ys) (rest:=Builtin.zeroCells z.cells (grownCap w.toWorld ys.length 0 e'-ys.length)) hw h0 (fun y hy=>(hg y hy).1) hnews (hgc _ _) (hzc _) (hw.later hd (by show([]:List (List AV)).length<_;simp;omega)) (fun r hr=>by rw[hd]at hr;cases hr;exact Nat.zero_le _);refine⟨w',_,_,_,?_,hk,by simpa using g1,by simpa using g3,by simpa using g2⟩;rw[e1];cases A with
    |none=>
     have:=run_append_nil w.toWorld t ty e' i z hu hi hiz ad ys.length cx news (by rw[hisz];exact hnl) hcell jB (by simp at h63;omega) (by simp at hroom;omega);exact this
    |some b=>
     have:=run_append_grow (P:=P) w.toWorld t ty e' i z hu hi hiz b 0 0 [] jE (fun j v h=>by simp at h) ad ys.length cx news (by rw[hisz];exact hnl) hcell jB (by simp at h63;simp;omega) (by
      rw[Nat.zero_add,nextslicecap_zero jB];simp at hroom;omega)
     simpa using this
  |rs _ _ _ _ b t' cap hnm hct hle hs0=>
   obtain⟨_,z',hz',hrow⟩:=hw.rows d _ hd;have:z'=.at b t' sz2:=by have hz':w.nm d css.length=some z':=hz';rw[hnm]at hz';cases hz';rfl
   subst this;obtain⟨_,cur,hh,⟨hcs,hcl⟩,hcr⟩:=hrow;have hh:w.heap[b]?=some (.cells cur e' (0,0)):=hh;have hcl:css.flatten.length<=t':=hcl;have hcap:css.length<=cap:=by
    rw[hcfl,<-hct]at hcl;exact Nat.le_of_mul_le_mul_right hcl h0
   have htk:(css.take n).flatten.length=n*sz2:=by rw[kf fun c hc=>hok.2 c (List.mem_of_mem_take hc),List.length_take,Nat.min_eq_left hnm']
   have htke:(css.take n).flatten=css.flatten.take (n*sz2):=by
    have:css.flatten=(css.take n).flatten++(css.drop n).flatten:=by rw[<-List.flatten_append,List.take_append_drop]
    rw[this,<-htk,List.take_left'];rfl
   by_cases hfit:n+ys.length<=cap
   ·-- in place
    have hfit':n*sz2+ys.flatten.length<=t':=by
     rw[hfl,<-Nat.add_mul,<-hct];exact Nat.mul_le_mul_right _ hfit
    obtain⟨w',hrun,g1,g2,g3⟩:=vz (P:=P) (off:=n*sz2) (r':=.aO e' sz2 (ij css n ys)) hw hd hnm hnews hones hfit' rfl rfl rfl rfl (by show css.length<=(ij css n ys).length;rw[hl2];omega) ⟨h0,hlen'⟩ (by show(ij css n ys).flatten.length<=t';rw[kf hlen',hl2,<-hct];exact Nat.mul_le_mul_right _ (Nat.max_le.2 ⟨hcap,hfit⟩)) (fun p u hp=>by
     have hp:(ij css n ys).flatten[p]?=some u:=hp;unfold ij at hp;rw[List.flatten_append,List.flatten_append]at hp;show if _ then _ else css.flatten[p]?=some u
     rcases Nat.lt_or_ge p (n*sz2)with h|h
     ·rw[jN]
      rw[List.getElem?_append_left (by simp only[List.length_append];omega),List.getElem?_append_left jB,htke,List.getElem?_take,if_pos h]at hp;exact hp
     ·rcases Nat.lt_or_ge p (n*sz2+ys.flatten.length)with h'|h'
      ·rw[if_pos ⟨h,h'⟩]
       rw[List.getElem?_append_left (by simp only[List.length_append];omega),List.getElem?_append_right jB,htk]at hp;exact hp
      ·rw[jN]
       rw[List.getElem?_append_right (by simp only[List.length_append];omega)]at hp;have e2:css.flatten=(css.take (n+ys.length)).flatten++(css.drop (n+ys.length)).flatten:=by rw[<-List.flatten_append,List.take_append_drop]
       have hlt:=(List.getElem?_eq_some_iff.1 hp).1;have hnk:n+ys.length<=css.length:=by
        rcases Nat.lt_or_ge css.length (n+ys.length)with h6|h6
        ·rw[List.drop_eq_nil_of_le jB]at hlt;simp at hlt
        ·exact h6
       have e3:(css.take (n+ys.length)).flatten.length=n*sz2+ys.flatten.length:=by rw[kf fun c hc=>hok.2 c (List.mem_of_mem_take hc),List.length_take,Nat.min_eq_left hnk,hfl,Nat.add_mul]
       rw[e2,List.getElem?_append_right jB,e3];simp only[List.length_append,htk]at hp;exact hp)
    refine⟨w',_,_,.slice (some ⟨b,0,none⟩) (n+ys.length) cap,?_,hk,g1,?_,g2⟩
    ·have hf:(Builtin.firstCells i.size ys.length (.slice A ys.length cx)).run P w.toWorld=.ok news.toArray w.toWorld:=by
      by_cases h0:ys.length=0
      ·have:news=[]:=by have:=hnl;rw[h0,Nat.zero_mul]at this;simpa using this
       subst this;rw[h0];cases A<;>simp[Builtin.firstCells,loadCells,loadCellsFrom]
      ·obtain⟨ad,rfl,hcell⟩:=haddr jB
       exact run_firstCells_some (P:=P) w.toWorld i.size ys.length ad ys.length cx news (by rw[hisz];exact hnl) hcell
     have hadd:(⟨b,0,none⟩:Addr).add (n*sz2)=⟨b,n*sz2,none⟩:=by rw[k9];simp
     rw[hisz]at hf;simp[Builtin.append_,run_underlying hu,sizeOf,typeInfo,hi,Builtin.lenOf,hfit,hf,hisz,hadd,hrun]
    ·have g3:w'.nm d (max css.length (n+ys.length))=some (.at b t' sz2):=by rw[<-hl2];exact g3
     exact .rs d _ sz2 _ b t' cap g3 hct hfit hs0
   ·-- a new row
    have hpos:0<ys.length:=jB
    obtain⟨ad,rfl,hcell⟩:=haddr hpos;have hov:ij css n ys=css.take n++ys:=by unfold ij;rw[List.drop_eq_nil_of_le jB,List.append_nil]
    have hmx:max css.length (n+ys.length)=n+ys.length:=Nat.max_eq_right jB;rw[hov]at hk hlen' hl2;rw[hmx]at hk hl2;have hold:cc w (css.take n).flatten (cur.toList.take (n*sz2)):=by
     refine⟨by simp only[List.length_take,Array.length_toList];have:=Nat.mul_le_mul_right sz2 hle;omega,fun k a v ha' hv=>?_⟩;rw[List.getElem?_take]at hv;split at hv
     ·rename_i hkn
      rw[htke,List.getElem?_take,if_pos hkn]at ha';exact hcr k a v ha' (by simpa using hv)
     ·cases hv
    have hall:=hold.append hnews;rw[<-List.flatten_append]at hall;obtain⟨w',e1,g1,g2,g3⟩:=tN (i:=d) (e:=e') (cap:=grownCap w.toWorld (n+ys.length) cap e') (css:=css.take n++ys) (rest:=Builtin.zeroCells z.cells (grownCap w.toWorld (n+ys.length) cap e'-(n+ys.length))) hw h0 hlen' hall (by rw[hl2];exact hgc _ _) (by rw[hl2];exact hzc _) (hw.later hd (by show css.length<_;rw[hl2];omega)) (fun r hr=>by rw[hd]at hr;cases hr;show css.length<=_;rw[hl2];omega);rw[hl2]at g3;refine⟨w',_,_,_,?_,hk,g1,g3,g2⟩;rw[e1];have:=run_append_grow (P:=P) w.toWorld t ty e' i z hu hi hiz ⟨b,0,none⟩ n cap (cur.toList.take (n*sz2)) (by rw[<-hold.1,htk,hisz]) (fun k v hv=>by
     rw[List.getElem?_take]at hv;split at hv
     ·rw[k9,tI b _ cur e' (0,0) hh,Nat.zero_add];simpa using hv
     ·cases hv) ad ys.length cx news (by rw[hisz];exact hnl) hcell jB jB (growslice_fits jB jB)
    rw[this];congr 3
    apply Array.ext';simp
 ·-- nothing
  obtain⟨⟨hroom,h63⟩,d,hd,hk⟩:=h;have:=de hra;subst this;by_cases hy:ys.length=0
  ·have:ys=[]:=List.length_eq_zero_iff.1 hy
   subst this;obtain⟨g1,g2⟩:=wV hw hd e h0;refine⟨_,_,_,.slice none 0 0,?_,hk,g1,.iq _ _ _ _ (NW.bY _ _ _ _),g2⟩;have:(Builtin.append_ #[t,t] ty #[.slice none 0 0,.slice A 0 cx]).run P w.toWorld=.ok (.slice none 0 0) w.toWorld:=by
    simp[Builtin.append_,run_underlying hu,sizeOf,typeInfo,hi,Builtin.lenOf,hf0,storeCells]
   exact this
  ·obtain⟨ad,rfl,hcell⟩:=haddr jB
   obtain⟨w',e1,g1,g2,g3⟩:=tN (i:=d) (e:=e) (cap:=grownCap w.toWorld ys.length 0 e) (css:=ys) (rest:=Builtin.zeroCells z.cells (grownCap w.toWorld ys.length 0 e-ys.length)) hw h0 (fun y hy=>(hg y hy).1) hnews (hgc _ _) (hzc _) (hw.none hd _) (fun r hr=>by rw[hd]at hr;cases hr);refine⟨w',_,_,_,?_,hk,g1,g3,g2⟩;rw[e1];exact run_append_nil w.toWorld t ty e i z hu hi hiz ad ys.length cx news (by rw[hisz];exact hnl) hcell jB jB jB
 ·-- a literal
  rename_i sz' css _;obtain⟨⟨rfl,⟨hroom,h63⟩,hor⟩,d,hd,hk⟩:=h;have hl2:(css++ys).length=css.length+ys.length:=List.length_append;cases hra with
  |fZ _ _ A' c' hx=>
   have hc0:=hx rfl;subst hc0;by_cases hy:ys.length=0
   ·have:ys=[]:=List.length_eq_zero_iff.1 hy
    subst this;obtain⟨g1,g2⟩:=wV hw hd e h0;refine⟨_,_,_,.slice A' 0 0,?_,hk,g1,.iq _ _ _ _ (NW.bY _ _ _ _),g2⟩;have:(Builtin.append_ #[t,t] ty #[.slice A' 0 0,.slice A 0 cx]).run P w.toWorld=.ok (.slice A' 0 0) w.toWorld:=by
     cases A'<;>simp[Builtin.append_,run_underlying hu,sizeOf,typeInfo,hi,Builtin.lenOf,hf0,storeCells]
    exact this
   ·obtain⟨ad,rfl,hcell⟩:=haddr jB
    obtain⟨w',e1,g1,g2,g3⟩:=tN (i:=d) (e:=e) (cap:=grownCap w.toWorld ys.length 0 e) (css:=ys) (rest:=Builtin.zeroCells z.cells (grownCap w.toWorld ys.length 0 e-ys.length)) hw h0 (fun y hy=>(hg y hy).1) hnews (hgc _ _) (hzc _) (hw.none hd _) (fun r hr=>by rw[hd]at hr;cases hr);refine⟨w',_,_,_,?_,hk,by simpa using g1,by simpa using g3,by simpa using g2⟩;rw[e1];cases A' with
    |none=>exact run_append_nil w.toWorld t ty e i z hu hi hiz ad ys.length cx news (by rw[hisz];exact hnl) hcell jB (by simp at h63;omega) (by simp at hroom;omega)
    |some b=>
     have:=run_append_grow (P:=P) w.toWorld t ty e i z hu hi hiz b 0 0 [] jE (fun j v h=>by simp at h) ad ys.length cx news (by rw[hisz];exact hnl) hcell jB (by simp at h63;simp;omega) (by
      rw[Nat.zero_add,nextslicecap_zero jB];simp at hroom;omega)
     simpa using this
  |sl _ _ _ b c' vs hn hc' hx hsz hb hH hcell' hr=>
   have hlen':∀cs∈css++ys,cs.length=sz':=fun cs h=>by
    rcases List.mem_append.1 h with h|h
    ·exact hsz _ h
    ·exact(hg cs h).1
   obtain⟨hcn,cur,el,hpl⟩:=hx rfl;subst hcn;have hcfl:=kf hsz;have hold:cc w css.flatten ((List.range (css.length*sz')).map vs):=by
    refine⟨by simp[hcfl],fun k a v ha' hv=>?_⟩;have hk:k<css.length*sz':=by have:=(List.getElem?_eq_some_iff.1 ha').1;omega
    obtain⟨i',j,hi',hj,rfl⟩:=uT hk;rw[pU hsz hi' hj]at ha';simp only[List.getElem?_map,List.getElem?_range hk,Option.map_some,Option.some.injEq]at hv;subst hv;exact(hr i' j a hi' ha').l6
   by_cases hy:ys.length=0
   ·
    omega
   ·obtain⟨ad,rfl,hcell⟩:=haddr jB
    have hall:=hold.append hnews;rw[<-List.flatten_append]at hall;obtain⟨w',e1,g1,g2,g3⟩:=tN (i:=d) (e:=e) (cap:=grownCap w.toWorld (css.length+ys.length) css.length e) (css:=css++ys) (rest:=Builtin.zeroCells z.cells (grownCap w.toWorld (css.length+ys.length) css.length e-(css.length+ys.length))) hw h0 hlen' hall (by rw[hl2];exact hgc _ _) (by rw[hl2];exact hzc _) (hw.none hd _) (fun r hr=>by rw[hd]at hr;cases hr);rw[hl2]at g3;refine⟨w',_,_,_,?_,hk,g1,g3,g2⟩;rw[e1];have:=run_append_grow (P:=P) w.toWorld t ty e i z hu hi hiz b css.length css.length ((List.range (css.length*sz')).map vs) (by rw[<-hold.1,hcfl,hisz]) (fun k v hv=>by
     have hk:k<css.length*sz':=by have:=(List.getElem?_eq_some_iff.1 hv).1;simpa using this
     obtain⟨i',j,hi',hj,rfl⟩:=uT hk;simp only[List.getElem?_map,List.getElem?_range hk,Option.map_some,Option.some.injEq]at hv;subst hv;exact hcell' i' j hi' hj) ad ys.length cx news (by rw[hisz];exact hnl) hcell jB jB (growslice_fits jB jB)
    rw[this];congr 3
    apply Array.ext';simp
 ·exact h.elim
end
end Go.Gd
