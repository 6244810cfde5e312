/- Lemmas. No conditions. -/
import Derived.Test.YtjpcgmjaipfgdaaGreatDoorGdE
import Derived.Deep.RegionWith
import Derived.Laws.Append
set_option linter.all false
namespace Go.Gd
open Go
section
variable {P:TO}{w:NW}{H:Hp}
variable{a:Option AV}{v:Option Value}
def lT{i:Option Int}(ha:qU a=some i)(hr:∀x y,a=some x->v=some y->ax w x y)(hs:a.isSome=v.isSome):(i=none/\v=none)\/∃k n,i=some n/\v=some (.int k n):=by
 cases a with
 |none=>
  simp[qU]at ha;cases v with
  |none=>exact .inl ⟨ha.symm,rfl⟩
  |some _=>simp at hs
 |some x=>
  cases v with
  |none=>simp at hs
  |some y=>
   unfold qU at ha;split at ha<;>try cases ha
   ·rename_i h;cases h
   ·rename_i k n h;cases h;have:=dc (hr _ _ rfl rfl);subst this;exact .inr ⟨k,n,rfl,rfl⟩
variable{vlo vhi:Option Value}{lo:Option Int}
def sa{isSlice:Bool}{len cap:Nat}{hi:Option Int}(Tu:(lo=none/\vlo=none)\/∃k n,lo=some n/\vlo=some (.int k n))(WI:(hi=none/\vhi=none)\/∃k n,hi=some n/\vhi=some (.int k n))
  (h0:0<=lo.getD 0) (h1:lo.getD 0<=hi.getD len) (h2:hi.getD len<=cap):(Instr.sliceBounds isSlice len cap vlo vhi none).run P w=.ok ((lo.getD 0).toNat,(hi.getD len).toNat,cap) w:=by
 rcases Tu with⟨rfl,rfl⟩|⟨k,n,rfl,rfl⟩<;>rcases WI with⟨rfl,rfl⟩|⟨k',m,rfl,rfl⟩<;>simp only[Option.getD_some,Option.getD_none]at*
 ·simp[Instr.sliceBounds]
 ·simp[Instr.sliceBounds,run_sliceBound w _ _ _ _ (show 0<=m from jB) h2]
 ·simp[Instr.sliceBounds,run_sliceBound w _ _ _ _ h0 h1]
 ·simp[Instr.sliceBounds,run_sliceBound w _ _ _ _ (show 0<=m from jB) h2,run_sliceBound w _ _ _ _ h0 (show n<=((m.toNat:Nat):Int) from jB)]
def DY{len cap:Nat}{k k2:IntKind}{m q:Int}(Tu:(lo=none/\vlo=none)\/∃k n,lo=some n/\vlo=some (.int k n))
  (h0:0<=lo.getD 0) (h1:lo.getD 0<=q) (h2:q<=m) (h3:m<=cap):(Instr.sliceBounds true len cap vlo (some (.int k2 q)) (some (.int k m))).run P w.toWorld=.ok ((lo.getD 0).toNat,q.toNat,m.toNat) w.toWorld:=by
 rcases Tu with⟨rfl,rfl⟩|⟨k1,n,rfl,rfl⟩<;>simp only[Option.getD_some,Option.getD_none]at*
 ·simp[Instr.sliceBounds,run_sliceBound w.toWorld _ _ _ _ (show 0<=m from jB) h3,run_sliceBound w.toWorld _ _ _ _ (show 0<=q from jB) (show q<=((m.toNat:Nat):Int) from jB)]
 ·simp[Instr.sliceBounds,run_sliceBound w.toWorld _ _ _ _ (show 0<=m from jB) h3,run_sliceBound w.toWorld _ _ _ _ (show 0<=q from jB) (show q<=((m.toNat:Nat):Int) from jB),run_sliceBound w.toWorld _ _ _ _ h0 (show n<=((q.toNat:Nat):Int) from jB)]
variable{vmx:Option Value}
def og{t e:TJ}{sz:Nat}(hu:P.underlying t=some (.slice e))(hs:cZ P e=some sz){A:Option Addr}{n c lo hi mx:Nat}(hb:(Instr.sliceBounds true n c vlo vhi vmx).run P w.toWorld=.ok (lo,hi,mx) w.toWorld) :
  ∃A',(Instr.sliceAt t (.slice A n c) vlo vhi vmx).run P w.toWorld=.ok (.slice A' (hi-lo) (mx-lo)) w.toWorld/\((A=none/\A'=none)\/∃ad,A=some ad/\A'=some (if mx=lo then ad else ad.add (lo*sz))):=by
 cases A with
 |none=>exact⟨none,by simp[Instr.sliceAt,run_underlying hu,Instr.slice,hb,lC hs],.inl ⟨rfl,rfl⟩⟩
 |some ad=>exact⟨some (if mx=lo then ad else ad.add (lo*sz)),by simp only[Instr.sliceAt,run_underlying hu,Instr.slice,hb,lC hs,Sem.run_bind,Result.andThen_ok,Sem.run_pure,Option.map_some];split<;>rfl,.inr ⟨ad,rfl,rfl⟩⟩
def zi{i:Int}(ha:qU a=some (some i))(hr:∀x y,a=some x->v=some y->ax w x y)(hs:a.isSome=v.isSome):∃k,v=some (.int k i):=by
 rcases lT ha hr hs with⟨h,_⟩|⟨k,n,h,rfl⟩
 ·cases h
 ·cases h;exact⟨k,rfl⟩
def qd(ha:qU a=some none)(hr:∀x y,a=some x->v=some y->ax w x y)(hs:a.isSome=v.isSome):v=none:=by
 rcases lT ha hr hs with⟨_,h⟩|⟨k,n,h,rfl⟩
 ·exact h
 ·cases h
def Sb(t:TJ){a:AV}{lo hi mx:Option AV}{va:Value}(ha:ax w a va)(Tu:∀x y,lo=some x->vlo=some y->ax w x y)(slo:lo.isSome=vlo.isSome)
  (WI:∀x y,hi=some x->vhi=some y->ax w x y) (shi:hi.isSome=vhi.isSome) (Wv:∀x y,mx=some x->vmx=some y->ax w x y) (smx:mx.isSome=vmx.isSome):kg P w (Instr.sliceAt t va vlo vhi vmx) (sd P t a lo hi mx):=by
 intro hq;unfold sd at*;split at hq<;>try exact hq.elim
 ·rename_i s l h e1 e2 e3;obtain rfl:=qd e3 Wv smx;have:=dc ha;subst this;have ht:=yY hq.1;obtain⟨h0,h1,h2⟩:=hq.2;have hb:=sa (P:=P) (w:=w) (isSlice:=false) (lT e1 Tu slo) (lT e2 WI shi) h0 h1 h2;exact⟨_,by simp[Instr.sliceAt,run_underlying ht,Instr.slice,hb],.raw _⟩
 ·rename_i x sz css d l h e1 e2 e3;obtain rfl:=qd e3 Wv smx;obtain⟨e,hu,hs⟩:=oT hq.1;obtain⟨h0,h1,h2⟩:=hq.2;have key:∀n c:Nat,n=css.length->n<=c->(Instr.sliceBounds true n c vlo vhi none).run P w.toWorld=.ok ((l.getD 0).toNat,(h.getD css.length).toNat,c) w.toWorld:=fun n c hn hc=>by
   subst hn;exact sa (P:=P) (w:=w) (isSlice:=true) (lT e1 Tu slo) (lT e2 WI shi) h0 h1 jB
  generalize hL:l.getD 0=L at*;generalize hh:h.getD (css.length:Int)=Hh at*;obtain⟨Ln,rfl⟩:=Int.eq_ofNat_of_zero_le h0;obtain⟨Hn,rfl⟩:=Int.eq_ofNat_of_zero_le (show(0:Int)<=Hh from jB);simp only[Int.toNat_natCast]at key ⊢;have I':((css.drop Ln).take (Hn-Ln)).length=Hn-Ln:=by simp;omega
  cases ha with
  |gu _ _ A c hx=>
   obtain⟨A',B',_⟩:=og hu hs (A:=A) (key 0 c rfl (Nat.zero_le _));obtain rfl:Hn=0:=by simp at h2;omega
   refine⟨_,B',?_⟩;simp only[Nat.zero_sub,List.take_zero];exact .gu _ _ _ _ (fun h=>by cases h)
  |sl _ _ _ ad c vs hn hc hx TU Uq hH D' hr=>
   obtain⟨A',B',hA⟩:=og hu hs (A:=some ad) (key _ c rfl hc);refine⟨_,B',?_⟩;by_cases hz:Hn-Ln=0
   ·rw[hz,List.take_zero];exact .gu _ _ _ _ (fun h=>by cases h)
   ·rcases hA with⟨h,_⟩|⟨ad',h,rfl⟩
    ·cases h
    cases h;rw[jN];have hg:∀i,i<Hn-Ln->((css.drop Ln).take (Hn-Ln)).getD i []=css.getD (Ln+i) []:=fun i hi=>by simp[List.getElem?_take,hi]
    have:=ax.sl (w:=w) (d:=d) false sz ((css.drop Ln).take (Hn-Ln)) (ad.add (Ln*sz)) (c-Ln) (fun j=>vs (Ln*sz+j)) jB jB (fun h=>by cases h) (fun cs UD=>TU _ (List.mem_of_mem_drop (List.mem_of_mem_take UD))) (by rw[px];exact Uq) (by rw[px];exact hH)
     (fun i j hi hj=>by
      rw[wD,show Ln*sz+(i*sz+j)=(Ln+i)*sz+j by rw[Nat.add_mul];omega];exact D' _ j jB hj) (fun i j u hi hu=>by
      rw[hg i jB]at hu;rw[show Ln*sz+(i*sz+j)=(Ln+i)*sz+j by rw[Nat.add_mul];omega];exact hr _ j u jB hu)
    rw[I']at this;exact this
 ·rename_i d m sz n h e1 e2 e3;obtain rfl:=qd e3 Wv smx;obtain rfl:=qd e1 Tu slo;obtain⟨e,hu,hs⟩:=oT hq.1;obtain⟨h1,h2⟩:=hq.2;have key:∀c:Nat,n<=c->(Instr.sliceBounds true n c none vhi none).run P w.toWorld=.ok (0,(h.getD n).toNat,c) w.toWorld:=fun c hc=>by
   have:=sa (P:=P) (w:=w) (isSlice:=true) (len:=n) (cap:=c) (lo:=none) (vlo:=none) (.inl ⟨rfl,rfl⟩) (lT e2 WI shi) jE (by simpa using h1) jB;simpa using this
  cases ha with
  |iE _ _ _ A hn=>
   obtain⟨A',B',_⟩:=og hu hs (A:=A) (key 0 (Nat.zero_le _));have h0:(h.getD 0).toNat=0:=by simp at h2;omega
   refine⟨_,B',?_⟩;simp only[Nat.sub_zero,Int.ofNat_zero];rw[h0];exact .iE d m sz A' hn
  |rs _ _ _ _ b t c hn hc T3 U'=>
   obtain⟨A',B',hA⟩:=og hu hs (A:=some ⟨b,0,none⟩) (key c T3);refine⟨_,B',?_⟩;rcases hA with⟨h',_⟩|⟨ad',h',rfl⟩
   ·cases h'
   cases h';have:(if c=0 then(⟨b,0,none⟩:Addr)else(⟨b,0,none⟩:Addr).add (0*sz))=⟨b,0,none⟩:=by rw[Nat.zero_mul,BY];simp
   rw[this];simp only[Nat.sub_zero];exact .rs d m sz _ b t c hn hc jB U'
 ·rename_i d m sz n l h e1 e2 e3;obtain rfl:=qd e3 Wv smx;obtain⟨e,hu,hs⟩:=oT hq.1;obtain⟨h0,h1,h2⟩:=hq.2;have key:∀c:Nat,n<=c->(Instr.sliceBounds true n c vlo vhi none).run P w.toWorld=.ok (l.toNat,(h.getD n).toNat,c) w.toWorld:=fun c hc=>
   sa (P:=P) (w:=w) (isSlice:=true) (len:=n) (cap:=c) (lo:=some l) (lT e1 Tu slo) (lT e2 WI shi) h0 h1 jB
  cases ha with
  |iE _ _ _ A hn=>
   obtain⟨A',B',_⟩:=og hu hs (A:=A) (key 0 (Nat.zero_le _));refine⟨_,B',?_⟩;have:(h.getD (0:Nat)).toNat-l.toNat=0:=by simp at h1 h2 ⊢;omega
   rw[this];exact .jb d m sz _ _ _
  |rs _ _ _ _ b t c hn hc T3 U'=>
   obtain⟨A',B',hA⟩:=og hu hs (A:=some ⟨b,0,none⟩) (key c T3);refine⟨_,B',?_⟩;by_cases hz:(h.getD n).toNat-l.toNat=0
   ·rw[hz];exact .jb d m sz _ _ _
   ·rcases hA with⟨h',_⟩|⟨ad',h',rfl⟩
    ·cases h'
    cases h';rw[jN,jf,Nat.zero_add];exact .rv d m sz _ _ b t _ hn jB
 ·rename_i d m sz n h e1 e2 e3;obtain rfl:=qd e3 Wv smx;obtain rfl:=qd e1 Tu slo;obtain⟨e,hu,hs⟩:=oT hq.1;obtain⟨h1,h2⟩:=hq.2;cases ha with
  |rc _ _ _ _ b t hn hc T3 U'=>
   have key:(Instr.sliceBounds true n m none vhi none).run P w.toWorld=.ok (0,(h.getD n).toNat,m) w.toWorld:=by have:=sa (P:=P) (w:=w) (isSlice:=true) (len:=n) (cap:=m) (lo:=none) (vlo:=none) (.inl ⟨rfl,rfl⟩) (lT e2 WI shi) jE (by simpa using h1) jB;simpa using this
   obtain⟨A',B',hA⟩:=og hu hs (A:=some ⟨b,0,none⟩) key;refine⟨_,B',?_⟩;rcases hA with⟨h',_⟩|⟨ad',h',rfl⟩
   ·cases h'
   cases h';have:(if m=0 then(⟨b,0,none⟩:Addr)else(⟨b,0,none⟩:Addr).add (0*sz))=⟨b,0,none⟩:=by rw[Nat.zero_mul,BY];simp
   rw[this];simp only[Nat.sub_zero];exact .rc d m sz _ b t hn hc jB U'
 ·rename_i d m sz n l h e1 e2 e3;obtain rfl:=qd e3 Wv smx;obtain⟨e,hu,hs⟩:=oT hq.1;obtain⟨h0,h1,h2⟩:=hq.2;cases ha with
  |rc _ _ _ _ b t hn hc T3 U'=>
   have key:(Instr.sliceBounds true n m vlo vhi none).run P w.toWorld=.ok (l.toNat,(h.getD n).toNat,m) w.toWorld:=
    sa (P:=P) (w:=w) (isSlice:=true) (len:=n) (cap:=m) (lo:=some l) (lT e1 Tu slo) (lT e2 WI shi) h0 h1 jB
   obtain⟨A',B',hA⟩:=og hu hs (A:=some ⟨b,0,none⟩) key;refine⟨_,B',?_⟩;by_cases hz:(h.getD n).toNat-l.toNat=0
   ·rw[hz];exact .jb d m sz _ _ _
   ·rcases hA with⟨h',_⟩|⟨ad',h',rfl⟩
    ·cases h'
    cases h';rw[jN,jf,Nat.zero_add];exact .rv d m sz _ _ b t _ hn jB
 ·rename_i d m sz n l h x e1 e2 e3;obtain⟨kx,rfl⟩:=zi e3 Wv smx;obtain⟨kh,rfl⟩:=zi e2 WI shi;obtain⟨e,hu,hs⟩:=oT hq.1;obtain⟨h0,h1,h2,h3⟩:=hq.2;cases ha with
  |rc _ _ _ _ b t hn hc T3 U'=>
   have key:(Instr.sliceBounds true n m vlo (some (.int kh h)) (some (.int kx x))).run P w.toWorld=.ok ((l.getD 0).toNat,h.toNat,x.toNat) w.toWorld:=
    DY (P:=P) (w:=w) (len:=n) (cap:=m) (lT e1 Tu slo) h0 h1 h2 jB
   obtain⟨A',B',hA⟩:=og hu hs (A:=some ⟨b,0,none⟩) key;refine⟨_,B',?_⟩;by_cases hz:h.toNat-(l.getD 0).toNat=0
   ·rw[hz];exact .jb d m sz _ _ _
   ·rcases hA with⟨h',_⟩|⟨ad',h',rfl⟩
    ·cases h'
    cases h';rw[jN,jf,Nat.zero_add];exact .rv d m sz _ _ b t _ hn jB
 ·rename_i d m sz o n l h e1 e2 e3;obtain rfl:=qd e3 Wv smx;obtain⟨e,hu,hs⟩:=oT hq.1;obtain⟨h0,h1,h2⟩:=hq.2;have key:∀c:Nat,n<=c->(Instr.sliceBounds true n c vlo vhi none).run P w.toWorld=.ok ((l.getD 0).toNat,(h.getD n).toNat,c) w.toWorld:=fun c hc=>
   sa (P:=P) (w:=w) (isSlice:=true) (len:=n) (cap:=c) (lT e1 Tu slo) (lT e2 WI shi) h0 h1 jB
  cases ha with
  |jb _ _ _ _ c A=>
   obtain⟨A',B',_⟩:=og hu hs (A:=A) (key c (Nat.zero_le _));refine⟨_,B',?_⟩;have:(h.getD (0:Nat)).toNat-(l.getD 0).toNat=0:=by simp at h1 h2 ⊢;omega
   rw[this];exact .jb d m sz _ _ _
  |rv _ _ _ _ _ b t c hn T3=>
   obtain⟨A',B',hA⟩:=og hu hs (A:=some ⟨b,o*sz,none⟩) (key c T3);refine⟨_,B',?_⟩;by_cases hz:(h.getD n).toNat-(l.getD 0).toNat=0
   ·rw[hz];exact .jb d m sz _ _ _
   ·rcases hA with⟨h',_⟩|⟨ad',h',rfl⟩
    ·cases h'
    cases h';rw[jN,jf,<-Nat.add_mul];exact .rv d m sz _ _ b t _ hn jB
 ·rename_i d m sz n l h x e1 e2 e3;obtain⟨kx,rfl⟩:=zi e3 Wv smx;obtain⟨kh,rfl⟩:=zi e2 WI shi;obtain⟨e,hu,hs⟩:=oT hq.1;obtain⟨h0,h1,h2,h3⟩:=hq.2;have key:∀c:Nat,n<=c->(Instr.sliceBounds true n c vlo (some (.int kh h)) (some (.int kx x))).run P w.toWorld=.ok ((l.getD 0).toNat,h.toNat,x.toNat) w.toWorld:=fun c hc=>
   DY (P:=P) (w:=w) (len:=n) (cap:=c) (lT e1 Tu slo) h0 h1 h2 jB
  cases ha with
  |iE _ _ _ A hn=>
   obtain⟨A',B',_⟩:=og hu hs (A:=A) (key 0 (Nat.zero_le _));refine⟨_,B',?_⟩;have:h.toNat-(l.getD 0).toNat=0:=by simp at h1 h2 h3 ⊢;omega
   rw[this];exact .jb d m sz _ _ _
  |rs _ _ _ _ b t c hn hc T3 U'=>
   obtain⟨A',B',hA⟩:=og hu hs (A:=some ⟨b,0,none⟩) (key c T3);refine⟨_,B',?_⟩;by_cases hz:h.toNat-(l.getD 0).toNat=0
   ·rw[hz];exact .jb d m sz _ _ _
   ·rcases hA with⟨h',_⟩|⟨ad',h',rfl⟩
    ·cases h'
    cases h';rw[jN,jf,Nat.zero_add];exact .rv d m sz _ _ b t _ hn jB
 ·rename_i l h e1 e2 e3;obtain rfl:=qd e3 Wv smx;have:=dc ha;subst this;obtain⟨_,TU,h0,h1⟩:=hq;obtain⟨sz,TU⟩:=Option.isSome_iff_exists.1 TU;obtain⟨e,hu,hs⟩:=oT TU;have hb:=sa (P:=P) (w:=w) (isSlice:=true) (len:=0) (cap:=0) (lT e1 Tu slo) (lT e2 WI shi) jB jF jF;simp only[h0,Int.toNat_zero,h1,Int.ofNat_zero]at hb;exact⟨_,by simp[Instr.sliceAt,run_underlying hu,Instr.slice,hb,lC hs],.raw _⟩
def Oh(s d:TJ){a:AV}{v:Value}(h:ax w a v):kg P w (convert s d v) (zS P s d a):=by
 intro hq;unfold zS at*;split at hq<;>try exact hq.elim
 ·rename_i k' n k e;have:=dc h;subst this;have hd:P.underlying d=some (.int k):=by unfold HD at e;split at e<;>simp_all
  obtain⟨ds,hs⟩:=Option.isSome_iff_exists.1 hq;refine⟨.int k (k.wrap n),?_,.raw _⟩;cases ds<;>simp[convert,run_underlying hs,run_underlying hd,Conv.intToInt]
 ·rename_i s' e;have:=dc h;subst this;have hd:=yY hq.2;obtain⟨ds,hs⟩:=Option.isSome_iff_exists.1 hq.1;refine⟨.string s',?_,.raw _⟩;cases ds<;>simp[convert,run_underlying hs,run_underlying hd]
def Hg(mx:Bool)(ts:Array TJ)(ty:TJ){l:TE}{vs:TM}(h:bY w l vs):kg P w (if mx then Builtin.max_ ts ty vs.toArray else Builtin.min_ ts ty vs.toArray) (xy mx l):=by
 intro hq;unfold xy at*;split at hq<;>try exact hq.elim
 rename_i k a k' b;obtain⟨hl,hr⟩:=h;match vs,hl with
 |[x,y],_=> obtain rfl:k=k':=hq;obtain rfl:=dc (hr 0 _ _ rfl rfl);obtain rfl:=dc (hr 1 _ _ rfl rfl);cases mx<;>exact⟨_,by simp[Builtin.max_,Builtin.min_,Builtin.max2,Builtin.min2];rfl,by simpa using ax.raw _⟩
theorem Bo{pl:Nat->Option (Nat×Nat)}:∀{parts:List (Nat×AV)} {vparts:List (Nat×Value)} {cells:TE} {cur:TL} {out:TE},
  rN pl cells parts=some out->parts.map (·.1)=vparts.map (·.1)->(∀(i:Nat) a v,parts[i]?=some a->vparts[i]?=some v->bY w a.2.cells v.2.cells.toList)->bY w cells cur.toList->
  ∃vs,Instr.fill pl cur vparts=some vs/\bY w out vs.toList
 |[],[],cells,cur,out,h,_,_,hc=>by simp only[rN,Option.some.injEq]at h;subst h;exact⟨cur,rfl,hc⟩
 |[],_::_,_,_,_,_,he,_,_=>by simp at he
 |_::_,[],_,_,_,_,he,_,_=>by simp at he
 |(i,a)::parts,(i',v)::vparts,cells,cur,out,h,he,hr,hc=>by
  simp only[List.map_cons,List.cons.injEq]at he;obtain⟨rfl,he⟩:=he;simp only[rN]at h;split at h
  ·rename_i off k hp;split at h
   ·rename_i hk;have hv:=hr 0 _ _ rfl rfl;simp only at hv;have I':v.cells.size=k:=by have:=hv.1;simp at this;omega
    have Wr:cells.length=cur.size:=by simpa using hc.1
    have Ty:∀(l:TM) (o:Nat) (c:TL),(l.toArray.zipIdx.foldl (fun cs (x,j)=>cs.setIfInBounds (o+j) x) c)=(c.toList.take o++l++c.toList.drop (o+l.length)).toArray\/c.size<o+l.length:=by
     intro l o c;by_cases hb:c.size<o+l.length
     ·exact .inr hb
     ·refine .inl ?_;have gen:∀(l:TM) (s:Nat) (c:TL),o+s+l.length<=c.size->((l.zipIdx s).foldl (fun(cs:TL) (p:Value×Nat)=>cs.setIfInBounds (o+p.2) p.1) c)=(c.toList.take (o+s)++l++c.toList.drop (o+s+l.length)).toArray:=by
       intro l;induction l with
       |nil=>intro s c _;simp
       |cons x l ih=>
        intro s c hb;simp only[List.zipIdx_cons,List.foldl_cons];rw[ih (s+1) _ (by simp at hb ⊢;omega)];apply Array.ext';simp only[Array.toList_setIfInBounds];apply List.ext_getElem?;intro m;simp only[List.length_cons]at hb;rcases Nat.lt_or_ge m (o+s)with h1|h1
        ·rw[List.append_assoc,List.getElem?_append_left jF,List.append_assoc,List.getElem?_append_left jF];simp only[List.getElem?_take,List.getElem?_set];rw[jP,jN,if_pos h1]
        ·rcases Nat.lt_or_ge m (o+s+1)with h2|h2
         ·obtain rfl:m=o+s:=jB;rw[List.append_assoc,List.getElem?_append_left jF,List.append_assoc,List.getElem?_append_right jF];simp only[List.getElem?_take,List.getElem?_set,List.length_take,Array.length_toList];rw[jP];simp only[Nat.add_assoc,if_true];rw[jP,show o+s-min (o+s) c.size=0 from jB];rfl
         ·rw[List.append_assoc,List.append_assoc,List.cons_append,List.getElem?_append_right (l₁:=List.take (o+(s+1)) _) jF,List.getElem?_append_right (l₁:=List.take (o+s) _) jF];simp only[List.length_take,List.length_set,Array.length_toList];rw[show m-min (o+s) c.size=(m-min (o+(s+1)) c.size)+1 from jB,List.getElem?_cons_succ];rcases Nat.lt_or_ge (m-min (o+(s+1)) c.size) l.length with h3|h3
          ·rw[List.getElem?_append_left h3,List.getElem?_append_left h3]
          ·rw[List.getElem?_append_right h3,List.getElem?_append_right h3];simp only[List.getElem?_drop,List.getElem?_set,List.length_cons];rw[jN];congr 1
           omega
      have:=gen l 0 c jB;simp only[Nat.add_zero]at this;rw[<-this,<-Array.foldl_toList];simp
    have Ul:¬(cur.size<off+v.cells.toList.length):=by simp;omega
    have hs:=(Ty v.cells.toList off cur).resolve_right Ul;rw[Array.toArray_toList]at hs;obtain⟨vs,h1,h2⟩:=Bo (cur:=(cur.toList.take off++v.cells.toList++cur.toList.drop (off+v.cells.toList.length)).toArray) h he (fun i a v ha hv=>hr (i+1) a v (by simpa using ha) (by simpa using hv)) (by
     refine⟨by simp[kz];omega,fun m x y hx hy=>?_⟩;simp only[kz]at hx;rcases Nat.lt_or_ge m off with g1|g1
     ·rw[List.append_assoc,List.getElem?_append_left jF,List.getElem?_take,if_pos g1]at hx hy;exact hc.2 m x y hx hy
     ·rcases Nat.lt_or_ge m (off+a.cells.length)with g2|g2
      ·rw[List.append_assoc,List.getElem?_append_right jF,List.getElem?_append_left jF]at hx hy;simp only[List.length_take,Array.length_toList]at hx hy;rw[show m-min off cells.length=m-off from jB]at hx;rw[show m-min off cur.size=m-off from jB]at hy;exact hv.2 _ x y hx hy
      ·rw[List.getElem?_append_right jF]at hx hy;simp only[List.length_append,List.length_take,Array.length_toList,List.getElem?_drop]at hx hy;rw[show off+a.cells.length+(m-(min off cells.length+a.cells.length))=m from jB]at hx;rw[show off+v.cells.size+(m-(min off cur.size+v.cells.size))=m from jB]at hy;exact hc.2 m x y hx hy)
    refine⟨vs,?_,h2⟩;simp only[Instr.fill,hp];rw[if_neg jF,hs];exact h1
   ·cases h
  ·cases h
def OU{t:TJ}{pl:List (Nat×Nat)}(h:iW P t=some pl):∃fs:Array Field,P.underlying t=some (.struct fs)/\(fs.mapM (m:=Sem) fun f=>do pure (f.offset,<-sizeOf f.type)).run P w.toWorld=.ok pl.toArray w.toWorld:=by
 unfold iW at h;split at h
 ·rename_i fs hu;refine⟨fs,hu,?_⟩;rw[Array.mapM_eq_mapM_toList];have gen:∀(l:List Field) (pl:List (Nat×Nat)),l.mapM (fun f=>(cZ P f.type).map fun k=>(f.offset,k))=some pl->(l.mapM (m:=Sem) fun f=>do pure (f.offset,<-sizeOf f.type)).run P w.toWorld=.ok pl w.toWorld:=by
   intro l;induction l with
   |nil=>intro pl h;simp at h;subst h;simp
   |cons f l ih=> intro pl h;rw[List.mapM_cons]at h;simp only[Option.bind_eq_bind,Option.bind_eq_some_iff,Option.map_eq_some_iff,Option.pure_def,Option.some.injEq]at h;obtain⟨p,⟨k,hk,rfl⟩,rest,T5,rfl⟩:=h;rw[List.mapM_cons];simp only[Sem.run_bind,lC hk,Result.andThen_ok,Sem.run_pure,ih rest T5]
  simp only[Sem.run_map,gen fs.toList pl h,Result.andThen_ok]
 ·cases h
def Kb(t:TJ){parts:List (Nat×AV)}{vparts:Array (Nat×Value)}(h1:parts.map (·.1)=vparts.toList.map (·.1))(h2:∀(i:Nat) a v,parts[i]?=some a->vparts.toList[i]?=some v->ax w a.2 v.2):kg P w (Instr.build t vparts) (uY P t parts):=by
 intro hq;unfold uY at*;split at hq<;>try exact hq.elim
 rename_i zs pl e1 e2;split at hq<;>try exact hq.elim
 rename_i out hf;obtain⟨z,hz,rfl⟩:=zF (w:=w) e1;obtain⟨fs,hu,hp⟩:=OU (w:=w) e2;simp only[cI,List.all_eq_true]at hq;have VO:∀(i:Nat) a,parts[i]?=some a->cI a.2.cells=true:=fun i a ha=>by simp only[cI,List.all_eq_true];intro x hx;exact hq x (List.mem_flatten.2 ⟨_,List.mem_map.2 ⟨a,List.mem_of_getElem? ha,rfl⟩,hx⟩)
 obtain⟨vs,g1,g2⟩:=Bo (w:=w) (cur:=z.cells) hf h1 (fun i a v ha hv=>(h2 i a v ha hv).gN (VO i a ha))
  ⟨jE,fun i a v ha hv=>by simp only[List.getElem?_map,Option.map_eq_some_iff]at ha;obtain⟨x,hx,rfl⟩:=ha;rw[hx]at hv;cases hv;exact .raw _⟩
 refine⟨.agg vs,?_,.agg _ _ (by have:=g2.1;simpa using this) fun i a v ha hv=>g2.2 i a v ha (by simpa using hv)⟩;have e:(fun i:Nat=>pl.toArray[i]?)=(fun i:Nat=>pl[i]?):=by funext i;simp
 simp only[Instr.build,Sem.run_bind,hz,Result.andThen_ok,run_underlying hu,hp,e,g1,Sem.run_pure]
end
section
variable {P:TO}{w:NW}{H:Hp}{ρ:Operand->Value}{ev:TK}
def vj(hr:∀x,ax w (ev x) (ρ x))(l:List Operand):bY w (l.map ev) (l.map ρ):=
 ⟨jE,fun i a v ha hv=>by simp only[List.getElem?_map,Option.map_eq_some_iff]at ha hv;obtain⟨x,hx,rfl⟩:=ha;obtain⟨y,hy,rfl⟩:=hv;rw[hx]at hy;cases hy;exact hr x⟩
def Az(hr:∀x,ax w (ev x) (ρ x))(o:Option Operand):∀x y,o.map ev=some x->o.map ρ=some y->ax w x y:=by
 intro x y hx hy;cases o with
 |none=>cases hx
 |some z=>cases hx;cases hy;exact hr z
def l9{s:Sem Value}{q:PA}(hq:q.1)(h:kg P w s q):∃v,(do pure (Next.value (<-s)):Sem Next).run P w.toWorld=.ok (.value v) w.toWorld/\ax w q.2 v:=by obtain⟨v,h1,h2⟩:=h hq;exact⟨v,by simp[h1],h2⟩
def GM{c a b:Operand}{x y z:AV}{dst:Option Tmp}{ty:TJ}{pos:String}{after:Array Edge}{guard:Option (Nat×Bool)}(hc:ax w x (ρ c))(ha:ax w y (ρ a))(hb:ax w z (ρ b))(hq:(nV x y z).1) :
  ∃v,(execOp ρ ⟨dst,.pick c a b,ty,pos,after,guard⟩).run P w.toWorld=.ok (.value v) w.toWorld/\ax w (nV x y z).2 v:=by
 obtain⟨v,h1,h2⟩:=FX (P:=P) hc ha hb hq;refine⟨v,?_,h2⟩;simp only[execOp,Sem.run_bind,Sem.run_pure]at h1 ⊢;cases hb:(asBool (ρ c)).run P w with
 |ok x w'=>rw[hb]at h1;simp only[Result.andThen_ok,Result.ok.injEq]at h1 ⊢;exact⟨by rw[h1.1],h1.2⟩
 |halt e w'=>rw[hb]at h1;simp at h1
def yj(o:Oper)(hw:aJ w H)(hr:∀x,ax w (ev x) (ρ x))(hq:(vq P ev H o.op).1):∃v,(execOp ρ o).run P w.toWorld=.ok (.value v) w.toWorld/\ax w (vq P ev H o.op).2 v:=by
 obtain⟨dst,op,ty,pos,after,guard⟩:=o;cases op
 case move x=>exact⟨_,rfl,hr x⟩
 case assign x=>exact⟨_,rfl,hr x⟩
 case pick c a b=>
  obtain⟨v,h1,h2⟩:=FX (P:=P) (hr c) (hr a) (hr b) hq;refine⟨v,?_,h2⟩;simp only[execOp,Sem.run_bind,Sem.run_pure]at h1 ⊢;cases hb:(asBool (ρ c)).run P w with
  |ok x w'=>rw[hb]at h1;simp only[Result.andThen_ok,Result.ok.injEq]at h1 ⊢;exact⟨by rw[h1.1],h1.2⟩
  |halt e w'=>rw[hb]at h1;simp at h1
 case nilCheck x=>exact Pa x rfl (hr x) _ rfl hq
 case binOp op t x y t'=>exact l9 hq (GC op t x y (hr x) (hr y))
 case unOp op t x=>exact l9 hq (RC op (hr x))
 case load t a=>exact l9 hq (R4 t (hr a) hw)
 case fieldAddr t a f=>exact l9 hq (MN t f (hr a))
 case field t a f=>exact l9 hq (Nx t f (hr a))
 case indexAddr t a i=>exact l9 hq (MD t (hr a) (hr i))
 case index t a i=>exact l9 hq (P0 t (hr a) (hr i))
 case extract a i=>exact l9 hq (J8 (hr a) i)
 case slice t a lo hi mx=>exact l9 hq (Sb t (hr a) (Az hr lo) (by cases lo<;>rfl) (Az hr hi) (by cases hi<;>rfl) (Az hr mx) (by cases mx<;>rfl))
 case makeFunc fn first captured=>
  have:=Sc (P:=P) fn (vj hr first.toList) (vj hr captured.toList);have e1:(first.toList.map ρ).toArray=first.map ρ:=by rw[<-Array.toList_map,Array.toArray_toList]
  have e2:(captured.toList.map ρ).toArray=captured.map ρ:=by rw[<-Array.toList_map,Array.toArray_toList]
  rw[e1,e2]at this;exact l9 hq this
 case makeInterface t x=>exact l9 hq (Tl t (hr x))
 case convert s d x=>exact l9 hq (Oh s d (hr x))
 case build t parts=> refine l9 hq (Kb t jE fun i a v ha hv=>?_);simp only[List.getElem?_map,Option.map_eq_some_iff,Array.toList_map,Array.getElem?_toList]at ha hv;obtain⟨x,hx,rfl⟩:=ha;obtain⟨y,hy,rfl⟩:=hv;rw[hx]at hy;cases hy;exact hr x.2
 case call c=>
  obtain⟨callee,args,argTypes⟩:=c;cases callee
  case builtin b=>
   simp only[vq]at hq ⊢;generalize hts:argTypes.toList=ts at*;obtain rfl:argTypes=ts.toArray:=by rw[<-hts]
   have Vy:=vj hr args.toList;have U1:args.map ρ=(args.toList.map ρ).toArray:=by rw[<-Array.toList_map,Array.toArray_toList]
   have B':∀s:Sem Value,(∀cs,builtin b ts.toArray ty cs (args.toList.map ρ).toArray=(do pure (Next.value (<-s))))->(execOp ρ ⟨dst,.call ⟨.builtin b,args,ts.toArray⟩,ty,pos,after,guard⟩)=(do pure (Next.value (<-s))):=by intro s hs;simp only[execOp,resolve,pure_bind,invoke,U1];exact hs _
   generalize hus:args.toList.map ρ=us at*;generalize hals:args.toList.map ev=als at*;unfold mf at*;split at hq<;>try exact hq.elim
   ·rename_i t ts x als;cases us with
    |nil=>have:=Vy.1;simp at this
    |cons u us=> rw[B' _ (fun _=>rfl)];exact l9 hq (Lh ty t ts us hw (Vy.2 0 _ _ rfl rfl))
   ·rename_i t ts x als;cases us with
    |nil=>have:=Vy.1;simp at this
    |cons u us=> rw[B' _ (fun _=>rfl)];exact l9 hq (KA ty t ts us (Vy.2 0 _ _ rfl rfl))
   ·rw[B' _ (fun _=>rfl)];have:=Hg (P:=P) true ts.toArray ty Vy;exact l9 hq this
   ·rw[B' _ (fun _=>rfl)];have:=Hg (P:=P) false ts.toArray ty Vy;exact l9 hq this
  all_goals exact hq.elim
 all_goals exact hq.elim
end
universe u
def aU(P:Program)(f:FuncId):Bool:=match P.funcs[f]? with
 | some fn => fn.body.isSome && !(fn.name == "runtime.NumGoroutine")
 |none=>false
def aB(P:TO)(f:FuncId)(args:TE)(r:AV):Prop:=ab P f args [] fun r' l'=>r'=r/\l'=[]
def dj(P:TO)(f:FuncId)(args:TE)(H:Hp)(K:TB):Prop:=
 ∀(w:NW) (vs:TL),aJ w H->bs w args vs->Calls P f vs w.toWorld fun e W=>∃v r H' w',W=NW.toWorld w'/\e=.returned v/\K r H'/\aJ w' H'/\ax w' r v/\Ext w H w' H'
theorem dj.mono{P:TO}{f:FuncId}{args:TE}{H:Hp}{K K':TB}(h:dj P f args H K)(hk:∀r H,K r H->K' r H):dj P f args H K':=
 fun w vs h1 h2=>(h w vs h1 h2).mono fun _ _ ⟨v,r,H',w',e0,e,k,g⟩=>⟨v,r,H',w',e0,e,hk _ _ k,g⟩
def BB:AV->Option (FuncId×TE×TE)
 |.raw (.func (.func f) first captured)=>some (f,first.toList.map .raw,captured.toList.map .raw)
 |.dP f cs=>some (f,[],cs)
 |.bd f fs=>some (f,fs,[])
 |_=>none
-- what follows is hidden from simp: an argument that a later one's type hangs on is held fixed
inductive im{α:Sort u}(a:α):Type
 |mk
def u5(H:Hp)(A:Nat->Prop)(_:im A):Prop:=∃i,H.get i=none/\A i
def vz(P:TO)(H:Hp)(t:TJ)(a x:AV)(K:TB):Prop:=match a,cZ P t with
 |.pt i m k j,some n=>match H.get i with
  |some r=>(cI x.cells=true/\x.cells.length=n/\An r m k j n)/\K .any (H.put i (yW r k j x.cells))
  |none=>False
 |_,_=>False
def nM(P:TO)(H:Hp)(t:TJ)(K:TB):Prop:=match dN P t with
 |some zs=>u5 H (fun i=>K (.pt i 0 0 0) (H.put i (.var t (zs.map .raw)))) .mk
 |none=>False
def ry(H:Hp)(t:TJ)(x:AV)(K:TB):Prop:=cI x.cells=true/\u5 H (fun i=>K (.pt i 0 0 0) (H.put i (.var t x.cells))) .mk
def wq(sz:Nat):Nat->List (Nat×AV)->Prop
 |_,[]=>True
 |k,(i,a)::rest=>(i=k/\cI a.cells=true/\a.cells.length=sz)/\wq sz (k+1) rest
theorem Ef{sz:Nat}:∀{k:Nat} {l:List (Nat×AV)},wq sz k l->l.map (·.1)=List.range' k l.length/\∀p∈l,cI p.2.cells=true/\p.2.cells.length=sz
 |_,[],_=>⟨rfl,fun p hp=>by simp at hp⟩
 |k,(i,a)::rest,h=>by
  obtain⟨⟨rfl,h1,h2⟩,h3⟩:=h;obtain⟨g1,g2⟩:=Ef h3;refine⟨by simp[g1,List.range'_succ],fun p hp=>?_⟩;rcases List.mem_cons.1 hp with rfl|hp
  ·exact⟨h1,h2⟩
  ·exact g2 p hp
def l5(parts:List (Nat×AV)):TC:=parts.map (·.2.cells)
def sO(e:TJ)(sz:Nat)(css:TC)(H:Hp)(K:TB):Prop:=
 (aX eo css.flatten=true/\K (.sl true sz css []) H)\/(0<sz/\∃i,H.get i=none/\K (.rs i css.length sz css.length) (H.put i (.aG e sz css)))
def oy(P:TO)(H:Hp)(t:TJ)(n:Nat)(parts:List (Nat×AV))(K:TB):Prop:=match ik P t with
 |some e=>match cZ P e with
  |some sz=>(parts.length=n/\wq sz 0 parts/\n*sz<=16777216/\(n*sz=0\/(dN P e).isSome=true))/\
   sO e sz (l5 parts) H K
  |none=>False
 |none=>False
def qj(P:TO)(ne:Bool)(t:TJ)(x y:AV)(H:Hp)(K:TB):Prop:=match x,y with
 |.sl _ _ css _,.raw (.slice none 0 0)=>gW P t=true/\∀b:Bool,(b=true->css=[])->K (.raw (.bool (ne ^^ b))) H
 |.rs _ _ _ n,.raw (.slice none 0 0)=>gW P t=true/\∀b:Bool,(b=true->n=0)->K (.raw (.bool (ne ^^ b))) H
 |x,y=>(fC P (if ne then .neq else .eql) t x y).1/\K (fC P (if ne then .neq else .eql) t x y).2 H
def tQ(H:Hp):AV->Option (Prop×TC)
 |.sl _ _ css _=>some (True,css)
 |.rs i m sz n=>match H.get i with
  |some (.aG _ sz' css)=>some (sz'=sz/\m=css.length/\n<=m,css.take n)
  |_=>none
 |.rv i m sz o n=>match H.get i with
  |some (.aG _ sz' css)=>some (sz'=sz/\m=css.length/\o+n<=m,(css.drop o).take n)
  |_=>none
 |.raw (.slice none 0 0)=>some (True,[])
 |_=>none
def kj(P:TO)(t:TJ):Nat:=((P.info? t).map (·.bytes)).getD 0
def room(by_ n:Nat):Prop:=n*by_<=140737488355328/\n<=9223372036854775807
def du(css:TC)(n:Nat)(ys:TC):TC:=css.take n++ys++css.drop (n+ys.length)
def tL(i:Nat)(e:TJ)(m sz n:Nat)(css ys:TC)(H:Hp)(K:TB):Prop:=if n=m then K (.rs i (m+ys.length) sz (n+ys.length)) (H.put i (.aG e sz (css++ys)))else K (.rs i (max m (n+ys.length)) sz (n+ys.length)) (H.put i (.aG e sz (du css n ys)))
def L4(css ys:TC):du css css.length ys=css++ys:=by simp[du]
variable{css:TC}{n:Nat}
def tz(ys:TC)(h:n<=css.length):(du css n ys).length=max css.length (n+ys.length):=by simp[du];omega
variable{sz:Nat}{H:Hp}{K:TB}
def NJ{i:Nat}{e:TJ}{ys:TC}(h:tL i e css.length sz n css ys H K):K (.rs i (max css.length (n+ys.length)) sz (n+ys.length)) (H.put i (.aG e sz (du css n ys))):=by
 unfold tL at h;split at h
 ·rename_i e;subst e;rw[L4,Nat.max_eq_right jB];exact h
 ·exact h
def AT(by_:Nat)(e:TJ)(sz:Nat)(ys:TC)(a:AV)(H:Hp)(K:TB):Prop:=match a with
 |.rs i m sz' n=>match H.get i with
  |some (.aG e' sz'' css)=>(e'=e/\sz'=sz/\sz''=sz/\m=css.length/\n<=m/\room by_ (n+ys.length))/\tL i e m sz n css ys H K
  |_=>False
 |.raw (.slice none 0 0)=>room by_ ys.length/\u5 H (fun i=>K (.rs i ys.length sz ys.length) (H.put i (.aG e sz ys))) .mk
 |.sl true sz' css _=>(sz'=sz/\room by_ (css.length+ys.length)/\(css.length=0\/0<ys.length))/\u5 H (fun i=>K (.rs i (css.length+ys.length) sz (css.length+ys.length)) (H.put i (.aG e sz (css++ys)))) .mk
 |_=>False
def yl(P:TO)(t:TJ)(a x:AV)(H:Hp)(K:TB):Prop:=match ik P t with
 |some e=>match cZ P e,dN P e,tQ H x with
  |some sz,some zs,some (c,ys)=>(zs.length=sz/\0<sz/\c/\Good sz ys)/\AT (kj P e) e sz ys a H K
  |_,_,_=>False
 |none=>False
def qx(P:TO)(t t':TJ)(a x:AV)(H:Hp)(K:TB):Prop:=
 ∀(w:NW) va vx ty,aJ w H->ax w a va->ax w x vx->∃(w':NW) (H':Hp) (r:AV) (v:Value),(Builtin.append_ #[t,t'] ty #[va,vx]).run P w.toWorld=.ok v w'.toWorld/\K r H'/\aJ w' H'/\ax w' r v/\Ext w H w' H'
def pU(P:TO)(b:Builtin)(ts:List TJ)(args:TE)(H:Hp)(K:TB):Prop:=
 ∀(w:NW) vs ty cs,aJ w H->bY w args vs->∃(w':NW) (H':Hp) (r:AV) (v:Value),(builtin b ts.toArray ty cs vs.toArray).run P w.toWorld=.ok (.value v) w'.toWorld/\K r H'/\aJ w' H'/\ax w' r v/\Ext w H w' H'
def ju(P:TO)(o:Op)(ty:TJ)(ev:TK)(H:Hp)(K:TB):Prop:=
 ∀(w:NW) ρ dst pos after guard,aJ w H->(∀x∈o.operands.toList,ax w (ev x) (ρ x))->∃(w':NW) (H':Hp) (r:AV),K r H'/\aJ w' H'/\Ext w H w' H'/\
  ((∃v,(execOp ρ ⟨dst,o,ty,pos,after,guard⟩).run P w.toWorld=.ok (.value v) w'.toWorld/\ax w' r v)\/((execOp ρ ⟨dst,o,ty,pos,after,guard⟩).run P w.toWorld=.ok .skip w'.toWorld/\r=.any))
def ur(P:TO)(f:FuncId)(args:TE)(H:Hp)(K:TB):Prop:=
 ∀(w:NW) vs,aJ w H->bs w args vs->∃(v:Value) (w':NW) (r:AV) (H':Hp),(callFunc f vs).run P w.toWorld=.ok (.value v) w'.toWorld/\K r H'/\aJ w' H'/\ax w' r v/\Ext w H w' H'
def fa(P:TO)(f:AV)(args:TE)(H:Hp)(K:TB):Prop:=match BB f with
 |some (f,first,captured)=>(aU P f=true/\dj P f (first++args++captured) H K)\/ur P f (first++args++captured) H K
 |none=>False
def qe(P:TO)(a:AV)(m:String)(args:TE)(H:Hp)(K:TB):Prop:=match a with
 |.iG t v=>match oe P t m with
  |some f=>fa P (.raw (.func (.func f) #[] #[])) (v::args) H K
  |none=>False
 |_=>False
def dp:Op->Bool
 |.box .. |.alloc _|.store .. |.buildSlice .. |.makeMap .. |.makeSlice .. |.mapUpdate .. |.insert .. |.lookup .. |.range .. |.next .. |.entry .. |.typeAssert ..=>false
 |.binOp .eql .. |.binOp .neq ..=>false
 |.call { callee:=.builtin b,.. }=>match b with
  |.len|.cap|.max|.min=>true
  |_=>false
 |.call _=>false
 |_=>true
def vc(P:TO)(ev:TK)(H:Hp)(ty:TJ)(K:TB):Op->Prop
 |.box t x=>ry H t (ev x) K
 |.alloc t=>nM P H t K
 |.store t a x=>vz P H t (ev a) (ev x) K
 |.buildSlice t n parts=>oy P H t n (parts.toList.map fun p=>(p.1,ev p.2)) K
 |.binOp .eql t x y _=>qj P false t (ev x) (ev y) H K
 |.binOp .neq t x y _=>qj P true t (ev x) (ev y) H K
 |.call { callee:=.value f,args,.. }=>fa P (ev f) (args.toList.map ev) H K
 |.call { callee:=.invoke r m,args,.. }=>qe P (ev r) m (args.toList.map ev) H K
 |.call { callee:=.builtin .append,args,argTypes }=>match argTypes.toList,args.toList with
  |[t,t'],[a,x]=>qx P t t' (ev a) (ev x) H K
  |_,_=>False
 |.call { callee:=.builtin b,args,argTypes }=>if dp (.call ⟨.builtin b,args,argTypes⟩)then(vq P ev H (.call ⟨.builtin b,args,argTypes⟩)).1/\K (vq P ev H (.call ⟨.builtin b,args,argTypes⟩)).2 H else pU P b argTypes.toList (args.toList.map ev) H K
 |o=>if dp o then(vq P ev H o).1/\K (vq P ev H o).2 H else ju P o ty ev H K
section
variable {P:TO}{ops:Array Oper}{F:TE}{H:Hp}
variable{K:TB}
def RK{o:Oper}(hq:(vq P (cn F) H o.op).1)(hk:K (vq P (cn F) H o.op).2 H):BJ P o F H K:=fun w tm h1 h2=>by obtain⟨v,hr,hv⟩:=yj o h1 (fun x=>h2.eval [] x) hq;exact⟨w,H,_,hk,h1,Ext.refl w H,.inl ⟨v,hr,hv⟩⟩
theorem GK{sz:Nat}:∀(parts:List (Nat×AV)) (k:Nat) (pre zs:TE),parts.map (·.1)=List.range' k parts.length->(∀p∈parts,p.2.cells.length=sz)->pre.length=k*sz->zs.length=parts.length*sz->
  rN (fun i=>some (i*sz,sz)) (pre++zs) parts=some (pre++(parts.map (·.2.cells)).flatten)
 |[],k,pre,zs,_,_,_,hz=>by
  have:zs=[]:=by simpa using hz
  simp[rN,this]
 |(i,a)::parts,k,pre,zs,hp,hs,hk,hz=>by
  simp only[List.map_cons,List.length_cons,List.range'_succ,List.cons.injEq]at hp;obtain⟨rfl,hp⟩:=hp;have ha:a.cells.length=sz:=hs (i,a) jE;have Um:zs.length=parts.length*sz+sz:=by rw[hz,List.length_cons,Nat.add_mul,Nat.one_mul]
  simp only[rN];rw[if_pos ⟨ha,by simp;omega⟩];have e:kz (pre++zs) (i*sz) a.cells=(pre++a.cells)++zs.drop sz:=by
   unfold kz;rw[<-hk,List.take_left',List.drop_append,ha]
   ·simp
   ·rfl
  rw[e,GK parts (i+1) (pre++a.cells) (zs.drop sz) hp (fun p hp=>hs p (by simp[hp])) (by simp[hk,ha,Nat.add_mul]) jF];simp[List.append_assoc]
variable{w:NW}
def KI{l:TE}{vs:TM}(h:bY w l vs){k:Nat}{u:AV}(hu:l[k]?=some u):ax w u (vs.toArray.getD k undef):=by
 have hk:k<vs.length:=by rw[<-h.1];exact(List.getElem?_eq_some_iff.1 hu).1
 refine h.2 k u _ hu ?_;simp[hk]
variable{t:TJ}
def Qp{n:Nat}{parts:List (Nat×AV)}{vparts:Array (Nat×Value)}(hw:aJ w H)(h1:parts.map (·.1)=vparts.toList.map (·.1))(h2:∀(i:Nat) a v,parts[i]?=some a->vparts.toList[i]?=some v->ax w a.2 v.2)
  (hv:oy P H t n parts K):∃(w':NW) (H':Hp) (r:AV) (v:Value),(Instr.buildSlice t n vparts).run P w.toWorld=.ok v w'.toWorld/\K r H'/\aJ w' H'/\ax w' r v/\Ext w H w' H':=by
 unfold oy at hv;split at hv;rotate_left
 ·exact hv.elim
 rename_i e he;split at hv;rotate_left
 ·exact hv.elim
 rename_i sz Vg;obtain⟨⟨I',hok,hn,hz⟩,hk⟩:=hv;have hu:P.underlying t=some (.slice e):=by unfold ik at he;split at he<;>simp_all
 obtain⟨hp,hs⟩:=Ef hok;rw[I',<-List.range_eq_range']at hp;have hzr:∃z:TL,(n*sz=0/\z=#[])\/(n*sz≠0/\∃v,(zeroValue e).run P w.toWorld=.ok v w.toWorld/\v.cells=z):=by
  by_cases h0:n*sz=0
  ·exact⟨#[],.inl ⟨h0,rfl⟩⟩
  ·have Um:=hz.resolve_left h0;obtain⟨zs,Xl⟩:=Option.isSome_iff_exists.1 Um;obtain⟨z,Uv,_⟩:=zF (w:=w.toWorld) Xl;exact⟨z.cells,.inr ⟨h0,z,Uv,rfl⟩⟩
 obtain⟨z,hz⟩:=hzr;generalize Wr:(Array.range (n*sz)).map (z[· % z.size]!)=cur;have UD:cur.size=n*sz:=by subst Wr;simp
 have hf:=GK (sz:=sz) parts 0 [] (cur.toList.map .raw) (by rw[hp,I',List.range_eq_range']) (fun p hp=>(hs p hp).2) jE (by simp[UD,I']);simp only[List.nil_append]at hf;obtain⟨vs,g1,g2⟩:=Bo (w:=w) (cur:=cur) hf h1 (fun i a v ha hv=>(h2 i a v ha hv).gN (hs _ (List.mem_of_getElem? ha)).1)
  ⟨jE,fun i a v ha hv=>by simp only[List.getElem?_map,Option.map_eq_some_iff]at ha;obtain⟨x,hx,rfl⟩:=ha;rw[hx]at hv;cases hv;exact .raw _⟩
 have B':(Instr.buildSlice t n vparts).run P w.toWorld=.ok (.slice (some ⟨w.heap.size,0,none⟩) n n) (w.alloc (.cells vs e)):=by
  have Vo:¬(n*sz>2 ^ 24):=jB;rcases hz with⟨h0,rfl⟩|⟨h0,v,hv,rfl⟩
  ·simp only[Instr.buildSlice,Sem.run_bind,run_underlying hu,Result.andThen_ok,lC Vg,if_neg Vo,if_pos h0,Sem.run_pure,Wr,g1,newRow,run_newObj];rfl
  ·simp only[Instr.buildSlice,Sem.run_bind,run_underlying hu,Result.andThen_ok,lC Vg,if_neg Vo,if_neg h0,hv,Sem.run_pure,Wr,g1,newRow,run_newObj];rfl
 have UE:(l5 parts).length=n:=by simp[l5,I']
 have Yt:∀cs∈l5 parts,cs.length=sz:=fun cs UD=>by obtain⟨p,hp,rfl⟩:=List.mem_map.1 UD;exact(hs p hp).2
 have UU:(l5 parts).flatten.length=n*sz:=by rw[gl Yt,UE]
 have V2:vs.size=n*sz:=by have:=g2.1;simp only[Array.length_toList]at this;rw[<-this];exact UU
 rcases hk with⟨TS,hk⟩|⟨h0,i,hi,hk⟩
 ·have ex:=Ext.fi hw (.cells vs e);refine⟨_,H,_,_,B',hk,hw.fi _,?_,ex⟩;by_cases h0:n=0
  ·have:l5 parts=[]:=List.length_eq_zero_iff.1 jB;rw[this,h0];exact .gu true sz _ 0 (fun _=>rfl)
  ·have:=ax.sl (w:=w.to (w.alloc (.cells vs e))) (d:=[]) true sz (l5 parts) ⟨w.heap.size,0,none⟩ n (fun j=>vs.getD j undef) jB jB (fun _=>⟨UE.symm,vs,e,heap_alloc_new w.toWorld _⟩) Yt jE (fun h=>by have:=hw.fin _ h;simp at this) (fun i j hi hj=>by
    rw[jf,sT w.heap.size _ vs e (0,0) (heap_alloc_new w.toWorld _)];have:=yg hi hj;rw[UE]at this;simp[show i*sz+j<vs.size from jB]) (fun i j u hi hu=>by
    have hj:j<sz:=by have:=(List.getElem?_eq_some_iff.1 hu).1;rwa [vk Yt hi]at this
    have hx:=KI g2 (k:=i*sz+j) (u:=u) (by rw[<-hu];exact qi Yt hi hj);rw[Array.toArray_toList]at hx;refine(hx.lg (lm TS (i:=i*sz+j) (by rw[<-hu];exact qi Yt hi hj))).aZ ex.toKeep.bare (ny u))
   rw[UE]at this;exact this
 ·obtain⟨q1,q2⟩:=vy (row:=.aG e sz (l5 parts)) hw (hw.none hi _) (fun r' hr=>by rw[hi]at hr;cases hr) ⟨h0,Yt⟩ vs ⟨rfl,by show(l5 parts).flatten.length<=_;omega⟩ (fun k a v ha hv=>g2.2 k a v ha (by simpa using hv));refine⟨_,_,_,_,B',hk,q1,?_,q2⟩;have:=ax.rs (w:=((w.to (w.alloc ((Row.aG e sz (l5 parts)).obj vs))).ga w.heap.size).name i (Row.aG e sz (l5 parts)).fN (.at w.heap.size vs.size (Row.aG e sz (l5 parts)).bB)) i (l5 parts).length sz (l5 parts).length w.heap.size vs.size n (NW.cw _ _ _ _) V2.symm jB h0;rw[UE]at this ⊢;exact this
def IQ(ne:Bool)(t:TJ){a b:AV}{va vb:Value}(x y:Operand)(ha:ax w a va)(hb:ax w b vb)(hv:qj P ne t a b H K) :
  ∃r v,(do eqGuard (if ne then .neq else .eql) t x y va vb;binOp (if ne then .neq else .eql) t va vb:Sem Value).run P w.toWorld=.ok v w.toWorld/\K r H/\ax w r v:=by
 have key:∀{n:Nat},gW P t=true->(∀b:Bool,(b=true->n=0)->K (.raw (.bool (ne ^^ b))) H)->(∃A c,va=.slice A n c/\(A=none->n=0))->vb=.slice none 0 0->
   ∃r v,(do eqGuard (if ne then .neq else .eql) t x y va vb;binOp (if ne then .neq else .eql) t va vb:Sem Value).run P w.toWorld=.ok v w.toWorld/\K r H/\ax w r v:=fun{n} h1 h2 h3 h4=>by
  obtain⟨e,hu⟩:=pm h1;obtain⟨A,c,rfl,hA⟩:=h3;subst h4;have he:(Op.equal t (.slice A n c) (.slice none 0 0)).run P w.toWorld=.ok A.isNone w.toWorld:=by refine qR (fun d=>?_);cases A<;>simp[Op.equalIn,run_underlying hu]
  obtain⟨v,h1,h3⟩:=rm (P:=P) (w:=w) (ne:=ne) (t:=t) (x:=x) (y:=y) (fun op=>eqGuard_at_slice _ _ _ _ _ _ _ _) rfl rfl he;exact⟨_,v,h1,h2 A.isNone (fun h=>hA (by simpa using h)),h3⟩
 unfold qj at hv;split at hv
 ·rename_i z sz css _;refine key (n:=css.length) hv.1 (fun b hb=>hv.2 b fun h=>List.length_eq_zero_iff.1 (hb h)) ?_ (dc hb);cases ha with
  |gu _ _ A c _=>exact⟨A,c,rfl,fun _=>rfl⟩
  |sl _ _ _ ad c _ _ _ _ _ _ _ _ _=>exact⟨some ad,c,rfl,fun h=>by cases h⟩
 ·rename_i i m sz n;refine key (n:=n) hv.1 hv.2 ?_ (dc hb);cases ha with
  |iE _ _ _ A _=>exact⟨A,0,rfl,fun _=>rfl⟩
  |rs _ _ _ _ b t c _ _ _ _=>exact⟨some ⟨b,0,none⟩,c,rfl,fun h=>by cases h⟩
 ·obtain⟨v,h1,h2⟩:=GC (P:=P) (if ne then .neq else .eql) t x y ha hb hv.1;exact⟨_,v,h1,hv.2,h2⟩
-- appends
def bY.append{a b:TE}{x y:TM}(h:bY w a x)(k:bY w b y):bY w (a++b) (x++y):=by
 refine⟨by simp[h.1,k.1],fun i u v hu hv=>?_⟩;rcases Nat.lt_or_ge i a.length with h1|h1
 ·rw[List.getElem?_append_left h1]at hu;rw[List.getElem?_append_left (by rw[<-h.1];exact h1)]at hv;exact h.2 i u v hu hv
 ·rw[List.getElem?_append_right h1]at hu;rw[List.getElem?_append_right (by rw[<-h.1];exact h1),<-h.1]at hv;exact k.2 _ u v hu hv
def CC(w:NW)(sz:Nat)(v:Value)(ys:TC):Prop:=∃A c news,v=.slice A ys.length c/\bY w ys.flatten news/\(0<ys.length->∃ad,A=some ad/\∀(j:Nat) v,news[j]?=some v->w.cell? (ad.add j)=some v)
variable{sz:Nat}
def vv(A:Option Addr)(c:Nat):CC w sz (.slice A 0 c) []:=⟨A,c,[],rfl,⟨rfl,fun i a v h=>by simp at h⟩,fun h=>by simp at h⟩
variable{ys:TC}
def zc{c:Nat}{ad:Addr}(hl:∀y∈ys,y.length=sz)(h:∀i j,i<ys.length->j<sz->∃v,w.cell? (ad.add (i*sz+j))=some v/\∀u,(ys.getD i [])[j]?=some u->ax w u v):CC w sz (.slice (some ad) ys.length c) ys:=by
 have UU:=gl hl;refine⟨some ad,c,(List.range (ys.length*sz)).map fun k=>(w.cell? (ad.add k)).getD undef,rfl,⟨by simp[UU],fun k a v ha hv=>?_⟩,fun _=>⟨ad,rfl,fun k v hv=>?_⟩⟩
 ·have hk:k<ys.length*sz:=by have:=(List.getElem?_eq_some_iff.1 ha).1;omega
  obtain⟨i,j,hi,hj,rfl⟩:=vw hk;rw[qi hl hi hj]at ha;obtain⟨v',h1,h2⟩:=h i j hi hj;simp only[List.getElem?_map,List.getElem?_range hk,Option.map_some,Option.some.injEq,h1,Option.getD_some]at hv;subst hv;exact h2 a ha
 ·have hk:k<ys.length*sz:=by have:=(List.getElem?_eq_some_iff.1 hv).1;simpa using this
  obtain⟨i,j,hi,hj,rfl⟩:=vw hk;obtain⟨v',h1,h2⟩:=h i j hi hj;simp only[List.getElem?_map,List.getElem?_range hk,Option.map_some,Option.some.injEq,h1,Option.getD_some]at hv;subst hv;exact h1
variable{css:TC}
def sX(hw:aJ w H){i:Nat}{e:TJ}{b t s:Nat}(hi:H.get i=some (.aG e sz css))(hn:w.nm i css.length=some (.at b t s)){k j:Nat}(hk:k<css.length)(hj:j<sz) :
  s=sz/\(∀cs∈css,cs.length=sz)/\css.length*sz<=t/\∃v,w.cell? ⟨b,k*sz+j,none⟩=some v/\∀u,(css.getD k [])[j]?=some u->ax w u v:=by
 obtain⟨hok,z,hz,T2⟩:=hw.rows i _ hi;have:z=.at b t s:=by have hz:w.nm i css.length=some z:=hz;rw[hn]at hz;cases hz;rfl
 subst this;obtain⟨hs_,cur,hh,⟨hs,hl⟩,hr⟩:=T2;have hs_:sz=s:=hs_.symm;subst hs_;have UU:(Row.aG e sz css).cells.length=css.length*sz:=gl hok.2;have h3:=yg hk hj;have h4:k*sz+j<cur.size:=jB;refine⟨rfl,hok.2,jB,cur[k*sz+j],?_,fun u hu=>?_⟩
 ·rw[sT b _ cur _ (0,0) hh];simp[h4]
 ·refine hr (k*sz+j) u _ ?_ (by simp[h4]);show css.flatten[k*sz+j]?=some u;rw[qi hok.2 hk hj];exact hu
def yq(hw:aJ w H){x:AV}{vx:Value}(hx:ax w x vx){c:Prop}(h:tQ H x=some (c,ys))(hc:c)(hg:Good sz ys):CC w sz vx ys:=by
 unfold tQ at h;split at h
 ·rename_i xx sz' css _;cases h;cases hx with
  |gu=>exact vv _ _
  |sl _ _ _ ad c vs hn UT hx TU hb hH D' hr=>
   have hz:sz'=sz:=by rw[<-TU (ys[0]) (List.getElem_mem hn),(hg _ (List.getElem_mem hn)).1]
   subst hz;exact zc TU fun i j hi hj=>⟨_,D' i j hi hj,fun u hu=>(hr i j u hi hu).mg⟩
 ·rename_i i m sz' n;split at h
  ·rename_i e sz2 css hi;cases h;obtain⟨rfl,rfl,hn⟩:=hc;cases hx with
   |iE _ _ _ A TV=>rw[List.take_zero];exact vv _ _
   |rs _ _ _ _ b t c TV UT T3 U'=>
    have I':(css.take n).length=n:=by simp;omega
    by_cases h0:n=0
    ·subst h0;rw[List.take_zero];exact vv _ _
    have hz:sz2=sz:=by obtain⟨_,T7,_⟩:=sX hw hi TV (k:=0) (j:=0) jB U';have h1:(css.take n)[0]' jB∈css.take n:=List.getElem_mem _;rw[<-T7 _ (List.mem_of_mem_take h1),(hg _ h1).1]
    subst hz;have:=zc (w:=w) (sz:=sz2) (c:=c) (ys:=css.take n) (ad:=⟨b,0,none⟩) (fun y hy=>(hg y hy).1) fun i' j Vt hj=>by obtain⟨_,_,_,v,h1,h2⟩:=sX hw hi TV (k:=i') (j:=j) jB hj;refine⟨v,by rw[jf,Nat.zero_add];exact h1,fun u hu=>h2 u ?_⟩;rw[<-hu];simp[List.getElem?_take,show i'<n from jB]
    rw[I']at this;exact this
  ·cases h
 ·rename_i i m sz' o n;split at h
  ·rename_i e sz2 css hi;cases h;obtain⟨rfl,rfl,hn⟩:=hc;have I':((css.drop o).take n).length=n:=by simp;omega
   cases hx with
   |jb _ _ _ _ A=>rw[List.take_zero];exact vv _ _
   |rv _ _ _ _ _ b t c TV T3=>
    by_cases h0:n=0
    ·subst h0;rw[List.take_zero];exact vv _ _
    have h1:((css.drop o).take n)[0]' jB∈(css.drop o).take n:=List.getElem_mem _;obtain⟨hok,_⟩:=hw.rows i _ hi;have hz:sz2=sz:=by rw[<-hok.2 _ (List.mem_of_mem_drop (List.mem_of_mem_take h1)),(hg _ h1).1]
    subst hz;have:=zc (w:=w) (sz:=sz2) (c:=c) (ys:=(css.drop o).take n) (ad:=⟨b,o*sz2,none⟩) (fun y hy=>(hg y hy).1) fun i' j Vt hj=>by obtain⟨_,_,_,v,h1,h2⟩:=sX hw hi TV (k:=o+i') (j:=j) jB hj;refine⟨v,by rw[jf,<-Nat.add_assoc,<-Nat.add_mul];exact h1,fun u hu=>h2 u ?_⟩;rw[<-hu];simp[List.getElem?_take,show i'<n from jB]
    rw[I']at this;exact this
  ·cases h
 ·cases h;have:=dc hx;subst this;exact vv _ _
 ·cases h
def tq{e:TJ}(he:ik P t=some e):P.underlying t=some (.slice e):=by unfold ik at he;split at he<;>simp_all
def tY{e:TJ}{zs:TM}(TU:cZ P e=some sz)(hz:dN P e=some zs)(hl:zs.length=sz):∃i z,P.info? e=some i/\i.size=sz/\i.zero=some z/\z.cells.size=sz/\kj P e=i.bytes:=by
 unfold cZ at TU;cases hi:P.info? e with
 |none=>rw[hi]at TU;cases TU
 |some i=> rw[hi]at TU;unfold dN at hz;rw[hi]at hz;simp only[Option.bind_some,Option.map_eq_some_iff]at hz;obtain⟨z,Uv,YR⟩:=hz;refine⟨i,z,rfl,by simpa using TU,Uv,?_,by simp[kj,hi]⟩;rw[<-hl,<-YR];simp
def td(hw:aJ w H){i:Nat}{e:TJ}{cap:Nat}{cC:TM}{rest:TL}(h0:0<sz)(I':∀cs∈css,cs.length=sz)(T8:bY w css.flatten cC)(Ww:css.length<=cap)(T5:rest.size=(cap-css.length)*sz)
  (Xv:w.nm i css.length=none) (Wp:∀r,H.get i=some r->r.fN<=css.length) :
  ∃w':NW,w'.toWorld=w.drew.alloc (.cells (cC.toArray++rest) e)/\aJ w' (H.put i (.aG e sz css))/\Ext w H w' (H.put i (.aG e sz css))/\ax w' (.rs i css.length sz css.length) (.slice (some ⟨w.heap.size,0,none⟩) css.length cap):=by
 have UU:=gl I';have X7:cC.length=css.length*sz:=by rw[<-T8.1,UU]
 have TU:(cC.toArray++rest).size=cap*sz:=by simp only[Array.size_append,List.size_toArray,X7,T5];rw[<-Nat.add_mul];congr 1;omega
 have T3:=Nat.mul_le_mul_right sz Ww;obtain⟨g1,g2⟩:=vy (row:=.aG e sz css) hw.drew Xv Wp ⟨h0,I'⟩ (cC.toArray++rest) ⟨rfl,by show css.flatten.length<=_;omega⟩ (fun k a v ha hv=>by
  have hi:k<cC.length:=by rw[<-T8.1];exact(List.getElem?_eq_some_iff.1 ha).1
  rw[Array.getElem?_append_left (by simpa using hi)]at hv;exact(T8.2 k a v ha (by simpa using hv)).ext (Ext.drew w H))
 refine⟨_,rfl,g1,(Ext.drew w H).trans g2,?_⟩;exact ax.rs i css.length sz css.length w.heap.size (cC.toArray++rest).size cap (NW.cw _ _ _ _) TU.symm Ww h0
def PQ{a x:AV}(h:yl P t a x H K):qx P t t a x H K:=by
 intro w va vx ty hw VI YS;unfold yl at h;split at h;rotate_left
 ·exact h.elim
 rename_i e he;split at h;rotate_left
 ·exact h.elim
 rename_i sz zs c ys Vg W5 V3;obtain⟨⟨VX,h0,hc,hg⟩,h⟩:=h;have hu:=tq he;obtain⟨i,z,hi,Ub,VP,Xl,Xy⟩:=tY Vg W5 VX;obtain⟨A,cx,news,rfl,Ud,UP⟩:=yq hw YS V3 hc hg;have UU:ys.flatten.length=ys.length*sz:=gl fun y hy=>(hg y hy).1
 have Vx:news.length=ys.length*sz:=by rw[<-Ud.1,UU]
 have WJ:∀m,(Builtin.zeroCells z.cells m).size=m*sz:=fun m=>by simp[Builtin.zeroCells,Xl]
 have VJ:∀need old,need<=grownCap w.toWorld need old e:=fun need old=>by unfold grownCap Question.cut;simp
 have Vj:cI ys.flatten=true:=by simp only[cI,List.all_eq_true];intro u W6;obtain⟨y,hy,XX⟩:=List.mem_flatten.1 W6;have:=(hg y hy).2;simp only[cI,List.all_eq_true]at this;exact this u XX
 have hf0:∀A:Option Addr,ys.length=0->(Builtin.firstCells i.size 0 (.slice A 0 cx)).run P w.toWorld=.ok #[] w.toWorld:=fun A _=>by cases A<;>simp[Builtin.firstCells,loadCells,loadCellsFrom]
 rw[Xy]at h;unfold AT at h;split at h
 ·-- a row of one's own
  rename_i d m sz' n;split at h;rotate_left
  ·exact h.elim
  rename_i e' sz2 css hd;obtain⟨⟨rfl,rfl,rfl,rfl,ZH,UQ,Zp⟩,hk⟩:=h;have hk:=NJ hk;have hok:=(hw.rows d _ hd).1;have T6:∀cs∈du css n ys,cs.length=sz2:=fun cs h=>by
   unfold du at h;rcases List.mem_append.1 h with h|h
   ·rcases List.mem_append.1 h with h|h
    ·exact hok.2 _ (List.mem_of_mem_take h)
    ·exact(hg cs h).1
   ·exact hok.2 _ (List.mem_of_mem_drop h)
  have VC:=gl hok.2;have Tz:=tz ys ZH;cases VI with
  |iE _ _ _ A TV=>
   -- nowhere yet
   obtain⟨_,z',Um,T2⟩:=hw.rows d _ hd;have:z'=.nil:=by have Um:w.nm d css.length=some z':=Um;rw[TV]at Um;cases Um;rfl
   subst this;obtain⟨e2,sz3,T2⟩:=T2;cases T2;simp only[du,List.take_nil,List.drop_nil,List.append_nil,List.nil_append,List.length_nil,Nat.zero_add,Nat.zero_max]at hk Tz;by_cases hy:ys.length=0
   ·have:ys=[]:=List.length_eq_zero_iff.1 hy;subst this;refine⟨w,_,_,.slice A 0 0,?_,hk,?_,.iE _ _ _ _ TV,?_⟩
    ·cases A<;>simp[Builtin.append_,run_underlying hu,sizeOf,typeInfo,hi,Builtin.lenOf,hf0,storeCells]
    ·refine{ hw with rows:=fun j r hj=>?_,df:=fun j q z hz=>?_ }
     ·rw[Hp.bj]at hj;split at hj
      ·rename_i e;subst e;exact hw.rows j r (by rw[hd];exact hj)
      ·exact hw.rows j r hj
     ·rw[Hp.bj];split
      ·rename_i e;subst e;obtain⟨r,g1,g2⟩:=hw.df j q z hz;rw[hd]at g1;cases g1;exact⟨_,rfl,g2⟩
      ·exact hw.df j q z hz
    ·exact{ Ext.refl w H with base:=rfl }
   ·obtain⟨ad,rfl,D'⟩:=UP jB;obtain⟨w',e1,g1,g2,g3⟩:=td (i:=d) (e:=e') (cap:=grownCap w.toWorld ys.length 0 e') (css:=ys) (rest:=Builtin.zeroCells z.cells (grownCap w.toWorld ys.length 0 e'-ys.length)) hw h0 (fun y hy=>(hg y hy).1) Ud (VJ _ _) (WJ _) (hw.later hd (by show([]:TC).length<_;simp;omega)) (fun r hr=>by rw[hd]at hr;cases hr;exact Nat.zero_le _);refine⟨w',_,_,_,?_,hk,by simpa using g1,by simpa using g3,by simpa using g2⟩;rw[e1];cases A with
    |none=> have:=run_append_nil w.toWorld t ty e' i z hu hi VP ad ys.length cx news (by rw[Ub];exact Vx) D' jB (by simp at Zp;omega) (by simp at UQ;omega);exact this
    |some b=>
     have:=run_append_grow (P:=P) w.toWorld t ty e' i z hu hi VP b 0 0 [] jE (fun j v h=>by simp at h) ad ys.length cx news (by rw[Ub];exact Vx) D' jB (by simp at Zp;simp;omega) (by rw[Nat.zero_add,nextslicecap_zero jB];simp at UQ;omega)
     simpa using this
  |rs _ _ _ _ b t' cap TV Vb T3 U'=>
   obtain⟨_,z',Um,T2⟩:=hw.rows d _ hd;have:z'=.at b t' sz2:=by have Um:w.nm d css.length=some z':=Um;rw[TV]at Um;cases Um;rfl
   subst this;obtain⟨_,cur,hh,⟨UD,Tx⟩,V4⟩:=T2;have hh:w.heap[b]?=some (.cells cur e' (0,0)):=hh;have Tx:css.flatten.length<=t':=Tx;have Ww:css.length<=cap:=by rw[VC,<-Vb]at Tx;exact Nat.le_of_mul_le_mul_right Tx h0
   have VK:(css.take n).flatten.length=n*sz2:=by rw[gl fun c hc=>hok.2 c (List.mem_of_mem_take hc),List.length_take,Nat.min_eq_left ZH]
   have ZI:(css.take n).flatten=css.flatten.take (n*sz2):=by
    have:css.flatten=(css.take n).flatten++(css.drop n).flatten:=by rw[<-List.flatten_append,List.take_append_drop]
    rw[this,<-VK,List.take_left'];rfl
   by_cases Ul:n+ys.length<=cap
   ·-- in place
    have U9:n*sz2+ys.flatten.length<=t':=by rw[UU,<-Nat.add_mul,<-Vb];exact Nat.mul_le_mul_right _ Ul
    obtain⟨w',B',g1,g2,g3⟩:=sG (P:=P) (off:=n*sz2) (r':=.aG e' sz2 (du css n ys)) hw hd TV Ud Vj U9 rfl rfl rfl rfl (by show css.length<=(du css n ys).length;rw[Tz];omega) ⟨h0,T6⟩ (by show(du css n ys).flatten.length<=t';rw[gl T6,Tz,<-Vb];exact Nat.mul_le_mul_right _ (Nat.max_le.2 ⟨Ww,Ul⟩)) (fun p u hp=>by
     have hp:(du css n ys).flatten[p]?=some u:=hp;unfold du at hp;rw[List.flatten_append,List.flatten_append]at hp;show if _ then _ else css.flatten[p]?=some u
     rcases Nat.lt_or_ge p (n*sz2)with h|h
     ·rw[jN];rw[List.getElem?_append_left (by simp only[List.length_append];omega),List.getElem?_append_left jB,ZI,List.getElem?_take,if_pos h]at hp;exact hp
     ·rcases Nat.lt_or_ge p (n*sz2+ys.flatten.length)with h'|h'
      ·rw[if_pos ⟨h,h'⟩];rw[List.getElem?_append_left (by simp only[List.length_append];omega),List.getElem?_append_right jB,VK]at hp;exact hp
      ·rw[jN];rw[List.getElem?_append_right (by simp only[List.length_append];omega)]at hp;have e2:css.flatten=(css.take (n+ys.length)).flatten++(css.drop (n+ys.length)).flatten:=by rw[<-List.flatten_append,List.take_append_drop]
       have O':=(List.getElem?_eq_some_iff.1 hp).1;have hnk:n+ys.length<=css.length:=by
        rcases Nat.lt_or_ge css.length (n+ys.length)with h6|h6
        ·rw[List.drop_eq_nil_of_le jB]at O';simp at O'
        ·exact h6
       have e3:(css.take (n+ys.length)).flatten.length=n*sz2+ys.flatten.length:=by rw[gl fun c hc=>hok.2 c (List.mem_of_mem_take hc),List.length_take,Nat.min_eq_left hnk,UU,Nat.add_mul]
       rw[e2,List.getElem?_append_right jB,e3];simp only[List.length_append,VK]at hp;exact hp)
    refine⟨w',_,_,.slice (some ⟨b,0,none⟩) (n+ys.length) cap,?_,hk,g1,?_,g2⟩
    ·have hf:(Builtin.firstCells i.size ys.length (.slice A ys.length cx)).run P w.toWorld=.ok news.toArray w.toWorld:=by
      by_cases h0:ys.length=0
      ·have:news=[]:=by have:=Vx;rw[h0,Nat.zero_mul]at this;simpa using this
       subst this;rw[h0];cases A<;>simp[Builtin.firstCells,loadCells,loadCellsFrom]
      ·obtain⟨ad,rfl,D'⟩:=UP jB;exact run_firstCells_some (P:=P) w.toWorld i.size ys.length ad ys.length cx news (by rw[Ub];exact Vx) D'
     have W7:(⟨b,0,none⟩:Addr).add (n*sz2)=⟨b,n*sz2,none⟩:=by rw[jf];simp
     rw[Ub]at hf;simp[Builtin.append_,run_underlying hu,sizeOf,typeInfo,hi,Builtin.lenOf,Ul,hf,Ub,W7,B']
    ·have g3:w'.nm d (max css.length (n+ys.length))=some (.at b t' sz2):=by rw[<-Tz];exact g3
     exact .rs d _ sz2 _ b t' cap g3 Vb Ul U'
   ·-- a new row
    have U2:0<ys.length:=jB;obtain⟨ad,rfl,D'⟩:=UP U2;have WK:du css n ys=css.take n++ys:=by unfold du;rw[List.drop_eq_nil_of_le jB,List.append_nil]
    have Wv:max css.length (n+ys.length)=n+ys.length:=Nat.max_eq_right jB;rw[WK]at hk T6 Tz;rw[Wv]at hk Tz;have hold:bY w (css.take n).flatten (cur.toList.take (n*sz2)):=by
     refine⟨by simp only[List.length_take,Array.length_toList];have:=Nat.mul_le_mul_right sz2 T3;omega,fun k a v Yu hv=>?_⟩;rw[List.getElem?_take]at hv;split at hv
     ·rename_i ZJ;rw[ZI,List.getElem?_take,if_pos ZJ]at Yu;exact V4 k a v Yu (by simpa using hv)
     ·cases hv
    have T7:=hold.append Ud;rw[<-List.flatten_append]at T7;obtain⟨w',e1,g1,g2,g3⟩:=td (i:=d) (e:=e') (cap:=grownCap w.toWorld (n+ys.length) cap e') (css:=css.take n++ys) (rest:=Builtin.zeroCells z.cells (grownCap w.toWorld (n+ys.length) cap e'-(n+ys.length))) hw h0 T6 T7 (by rw[Tz];exact VJ _ _) (by rw[Tz];exact WJ _) (hw.later hd (by show css.length<_;rw[Tz];omega)) (fun r hr=>by rw[hd]at hr;cases hr;show css.length<=_;rw[Tz];omega);rw[Tz]at g3;refine⟨w',_,_,_,?_,hk,g1,g3,g2⟩;rw[e1];have:=run_append_grow (P:=P) w.toWorld t ty e' i z hu hi VP ⟨b,0,none⟩ n cap (cur.toList.take (n*sz2)) (by rw[<-hold.1,VK,Ub]) (fun k v hv=>by
     rw[List.getElem?_take]at hv;split at hv
     ·rw[jf,sT b _ cur e' (0,0) hh,Nat.zero_add];simpa using hv
     ·cases hv) ad ys.length cx news (by rw[Ub];exact Vx) D' jB jB (growslice_fits jB jB)
    rw[this];congr 3
    apply Array.ext';simp
 ·-- nothing
  obtain⟨⟨UQ,Zp⟩,d,hd,hk⟩:=h;have:=dc VI;subst this;by_cases hy:ys.length=0
  ·have:ys=[]:=List.length_eq_zero_iff.1 hy;subst this;obtain⟨g1,g2⟩:=xD hw hd e h0;refine⟨_,_,_,.slice none 0 0,?_,hk,g1,.iE _ _ _ _ (NW.cw _ _ _ _),g2⟩;have:(Builtin.append_ #[t,t] ty #[.slice none 0 0,.slice A 0 cx]).run P w.toWorld=.ok (.slice none 0 0) w.toWorld:=by
    simp[Builtin.append_,run_underlying hu,sizeOf,typeInfo,hi,Builtin.lenOf,hf0,storeCells]
   exact this
  ·obtain⟨ad,rfl,D'⟩:=UP jB;obtain⟨w',e1,g1,g2,g3⟩:=td (i:=d) (e:=e) (cap:=grownCap w.toWorld ys.length 0 e) (css:=ys) (rest:=Builtin.zeroCells z.cells (grownCap w.toWorld ys.length 0 e-ys.length)) hw h0 (fun y hy=>(hg y hy).1) Ud (VJ _ _) (WJ _) (hw.none hd _) (fun r hr=>by rw[hd]at hr;cases hr);refine⟨w',_,_,_,?_,hk,g1,g3,g2⟩;rw[e1];exact run_append_nil w.toWorld t ty e i z hu hi VP ad ys.length cx news (by rw[Ub];exact Vx) D' jB jB jB
 ·-- a literal
  rename_i sz' css _;obtain⟨⟨rfl,⟨UQ,Zp⟩,hor⟩,d,hd,hk⟩:=h;have Tz:(css++ys).length=css.length+ys.length:=List.length_append;cases VI with
  |gu _ _ A' c' hx=>
   have Vk:=hx rfl;subst Vk;by_cases hy:ys.length=0
   ·have:ys=[]:=List.length_eq_zero_iff.1 hy;subst this;obtain⟨g1,g2⟩:=xD hw hd e h0;refine⟨_,_,_,.slice A' 0 0,?_,hk,g1,.iE _ _ _ _ (NW.cw _ _ _ _),g2⟩;have:(Builtin.append_ #[t,t] ty #[.slice A' 0 0,.slice A 0 cx]).run P w.toWorld=.ok (.slice A' 0 0) w.toWorld:=by
     cases A'<;>simp[Builtin.append_,run_underlying hu,sizeOf,typeInfo,hi,Builtin.lenOf,hf0,storeCells]
    exact this
   ·obtain⟨ad,rfl,D'⟩:=UP jB;obtain⟨w',e1,g1,g2,g3⟩:=td (i:=d) (e:=e) (cap:=grownCap w.toWorld ys.length 0 e) (css:=ys) (rest:=Builtin.zeroCells z.cells (grownCap w.toWorld ys.length 0 e-ys.length)) hw h0 (fun y hy=>(hg y hy).1) Ud (VJ _ _) (WJ _) (hw.none hd _) (fun r hr=>by rw[hd]at hr;cases hr);refine⟨w',_,_,_,?_,hk,by simpa using g1,by simpa using g3,by simpa using g2⟩;rw[e1];cases A' with
    |none=>exact run_append_nil w.toWorld t ty e i z hu hi VP ad ys.length cx news (by rw[Ub];exact Vx) D' jB (by simp at Zp;omega) (by simp at UQ;omega)
    |some b=>
     have:=run_append_grow (P:=P) w.toWorld t ty e i z hu hi VP b 0 0 [] jE (fun j v h=>by simp at h) ad ys.length cx news (by rw[Ub];exact Vx) D' jB (by simp at Zp;simp;omega) (by rw[Nat.zero_add,nextslicecap_zero jB];simp at UQ;omega)
     simpa using this
  |sl _ _ _ b c' vs hn UT hx TU hb hH YT hr=>
   have T6:∀cs∈css++ys,cs.length=sz':=fun cs h=>by
    rcases List.mem_append.1 h with h|h
    ·exact TU _ h
    ·exact(hg cs h).1
   obtain⟨Xm,cur,el,Ws⟩:=hx rfl;subst Xm;have VC:=gl TU;have hold:bY w css.flatten ((List.range (css.length*sz')).map vs):=by
    refine⟨by simp[VC],fun k a v Yu hv=>?_⟩;have hk:k<css.length*sz':=by have:=(List.getElem?_eq_some_iff.1 Yu).1;omega
    obtain⟨i',j,Vt,hj,rfl⟩:=vw hk;rw[qi TU Vt hj]at Yu;simp only[List.getElem?_map,List.getElem?_range hk,Option.map_some,Option.some.injEq]at hv;subst hv;exact(hr i' j a Vt Yu).mg
   by_cases hy:ys.length=0
   ·
    omega
   ·obtain⟨ad,rfl,D'⟩:=UP jB;have T7:=hold.append Ud;rw[<-List.flatten_append]at T7;obtain⟨w',e1,g1,g2,g3⟩:=td (i:=d) (e:=e) (cap:=grownCap w.toWorld (css.length+ys.length) css.length e) (css:=css++ys) (rest:=Builtin.zeroCells z.cells (grownCap w.toWorld (css.length+ys.length) css.length e-(css.length+ys.length))) hw h0 T6 T7 (by rw[Tz];exact VJ _ _) (by rw[Tz];exact WJ _) (hw.none hd _) (fun r hr=>by rw[hd]at hr;cases hr);rw[Tz]at g3;refine⟨w',_,_,_,?_,hk,g1,g3,g2⟩;rw[e1];have:=run_append_grow (P:=P) w.toWorld t ty e i z hu hi VP b css.length css.length ((List.range (css.length*sz')).map vs) (by rw[<-hold.1,VC,Ub]) (fun k v hv=>by
     have hk:k<css.length*sz':=by have:=(List.getElem?_eq_some_iff.1 hv).1;simpa using this
     obtain⟨i',j,Vt,hj,rfl⟩:=vw hk;simp only[List.getElem?_map,List.getElem?_range hk,Option.map_some,Option.some.injEq]at hv;subst hv;exact YT i' j Vt hj) ad ys.length cx news (by rw[Ub];exact Vx) D' jB jB (growslice_fits jB jB)
    rw[this];congr 3
    apply Array.ext';simp
 ·exact h.elim
end
section
variable {P:TO}{H:Hp}
variable{w:NW}
def zn(l:TM):bY w (l.map .raw) l:=⟨jE,fun i a v ha hv=>by simp only[List.getElem?_map,Option.map_eq_some_iff]at ha;obtain⟨x,hx,rfl⟩:=ha;rw[hx]at hv;cases hv;exact .raw _⟩
variable{f:FuncId}
def OG{a:AV}{v:Value}{first captured:TE}(h:ax w a v)(hf:BB a=some (f,first,captured)):∃x y:TL,v=.func (.func f) x y/\bY w first x.toList/\bY w captured y.toList:=by
 unfold BB at hf;split at hf
 ·rename_i f x y;simp only[Option.some.injEq,Prod.mk.injEq]at hf;obtain⟨rfl,rfl,rfl⟩:=hf;exact⟨x,y,dc h,zn _,zn _⟩
 ·simp only[Option.some.injEq,Prod.mk.injEq]at hf;obtain⟨rfl,rfl,rfl⟩:=hf;cases h with
  |dP _ _ vs hl hr=>exact⟨#[],vs,rfl,⟨rfl,fun i a v h=>by simp at h⟩,⟨by simpa using hl,fun i a v h1 h2=>hr i a v h1 (by simpa using h2)⟩⟩
 ·simp only[Option.some.injEq,Prod.mk.injEq]at hf;obtain⟨rfl,rfl,rfl⟩:=hf;cases h with
  |bd _ _ vs hl hr=>exact⟨vs,#[],rfl,⟨by simpa using hl,fun i a v h1 h2=>hr i a v h1 (by simpa using h2)⟩,⟨rfl,fun i a v h=>by simp at h⟩⟩
 ·cases hf
def Ip{l:TE}{vs:TM}(h:bY w l vs):bs w l vs.toArray:=⟨by simpa using h.1,fun i a v ha hv=>h.2 i a v ha (by simpa using hv)⟩
def QU  (h : aU P f = true) : ∃ fn, P.funcs[f]? = some fn ∧ fn.body.isSome = true ∧ (fn.name == "runtime.NumGoroutine") = false := by
 unfold aU at h;split at h
 ·rename_i fn hf;simp only[Bool.and_eq_true,Bool.not_eq_true']at h;exact⟨fn,hf,h.1,h.2⟩
 ·cases h
variable{R:TB}
def Fb{xs:TL}{l:TE}{o:Oper}(h:(aU P f=true/\dj P f l H R)\/ur P f l H R){a:Act}{next:Act->World->Prop}{Q:Exit->Act->World->Prop}(ZK:(execOp a.eval o).run P w.toWorld=(callFunc f xs).run P w.toWorld)(hw:aJ w H)(T8:bs w l xs)
  (hn:∀(v:Value) (r:AV) (w':NW) (H':Hp),R r H'->aJ w' H'->ax w' r v->Ext w H w' H'->next (a.put o.dst v) w'.toWorld):Oper.wp P o a w.toWorld next Q:=by
 rcases h with⟨Ui,hc⟩|Ug
 ·obtain⟨fn,UX,hb,Wd⟩:=QU Ui;have B':(execOp a.eval o).run P w.toWorld=.ok (.enter f xs) w.toWorld:=by
   have Uq:fn.body.isNone=false:=by cases hbb:fn.body<;>simp_all
   rw[ZK];simp only[callFunc,Sem.run_bind,run_program,Result.andThen_ok,UX,Wd,Uq,Bool.false_eq_true,if_false,Sem.run_pure]
  simp only[Oper.wp,B',Oper.upon_enter];refine(hc w _ hw T8).mono ?_;rintro e W ⟨v,r,H',w',rfl,rfl,hR,g1,g2,g3⟩;exact hn v r w' H' hR g1 g2 g3
 ·obtain⟨v,w',r,H',B',hR,g1,g2,g3⟩:=Ug w _ hw T8;rw[<-ZK]at B';simp only[Oper.wp,B',Oper.upon];exact hn v r w' H' hR g1 g2 g3
variable{as:Array Operand}{ts:Array TJ}{dst:Option Tmp}{after:Array Edge}{guard:Option (Nat×Bool)}
def wz{f:AV}{args:TE}{fo:Operand}{ty:TJ}{pos:String}{ev:TK}(Wn:ev fo=f)(Yv:as.toList.map ev=args)
  (h:fa P f args H R) {w:NW} {a:Act} {next:Act->World->Prop} {Q:Exit->Act->World->Prop} (hw:aJ w H) (hr:∀x,ax w (ev x) (a.eval x))
  (hn:∀(v:Value) (r:AV) (w':NW) (H':Hp),R r H'->aJ w' H'->ax w' r v->Ext w H w' H'->next (a.put dst v) w'.toWorld):Oper.wp P ⟨dst,.call ⟨.value fo,as,ts⟩,ty,pos,after,guard⟩ a w.toWorld next Q:=by
 unfold fa at h;split at h
 ·rename_i f first captured hf
  obtain⟨x,y,hv,hx,hy⟩:=OG (Wn ▸ hr fo) hf;have U1:as.map a.eval=(as.toList.map a.eval).toArray:=by rw[<-Array.toList_map,Array.toArray_toList]
  refine Fb h ?_ hw (Ip ((hx.append (Yv ▸ vj hr as.toList)).append hy)) hn;have e:x++(as.toList.map a.eval).toArray++y=(x.toList++as.toList.map a.eval++y.toList).toArray:=by apply Array.ext';simp
  simp only[execOp,resolve,hv,Deferred.ofValue,pure_bind,invoke,U1,e]
 ·exact h.elim
def MX{t:TJ}{m:String}(h:oe P t m=some f)(v:Value)(W:World):(method (P.types.size+Made.depth) t v m).run P W=.ok (f,v) W:=by
 unfold oe at h;split at h;rotate_left
 ·cases h
 rename_i ti e ht hu;split at h;rotate_left
 ·cases h
 rename_i r hr;split at h;rotate_left
 ·cases h
 rename_i hp;split at h;rotate_left
 ·cases h
 rename_i g hf;cases h;have Ws:r.path.toList=[]:=by have:=Array.isEmpty_iff.1 hp;rw[this]
 obtain⟨n,hn⟩:∃n,P.types.size+Made.depth=n+1:=⟨P.types.size+Made.depth-1,by have hd:=(by decide:Made.depth≠0);omega⟩;rw[hn];unfold method;simp only[Sem.run_bind,run_typeInfo W ht,Result.andThen_ok,hr,Ws,follow,Sem.run_pure,hf,receiverAt,run_underlying hu,Place.get]
def B8{x:AV}{m:String}{args:TE}{fo:Operand}{ty:TJ}{pos:String}{ev:TK}(Wn:ev fo=x)(Yv:as.toList.map ev=args)
  (h:qe P x m args H R) {w:NW} {a:Act} {next:Act->World->Prop} {Q:Exit->Act->World->Prop} (hw:aJ w H) (hr:∀x,ax w (ev x) (a.eval x))
  (hn:∀(v:Value) (r:AV) (w':NW) (H':Hp),R r H'->aJ w' H'->ax w' r v->Ext w H w' H'->next (a.put dst v) w'.toWorld):Oper.wp P ⟨dst,.call ⟨.invoke fo m,as,ts⟩,ty,pos,after,guard⟩ a w.toWorld next Q:=by
 unfold qe at h;split at h;rotate_left
 ·exact h.elim
 rename_i t b;split at h;rotate_left
 ·exact h.elim
 rename_i f hf;have hx:=hr fo;rw[Wn]at hx;generalize hv:a.eval fo=v at hx;cases hx with
 |iG _ _ u hu=>
  have U1:as.map a.eval=(as.toList.map a.eval).toArray:=by rw[<-Array.toList_map,Array.toArray_toList]
  have h':(aU P f=true/\dj P f (b::args) H R)\/ur P f (b::args) H R:=by
   have:fa P (.raw (.func (.func f) #[] #[])) (b::args) H R=((aU P f=true/\dj P f (b::args) H R)\/ur P f (b::args) H R):=by show((aU P f=true/\dj P f ([]++(b::args)++[]) H R)\/ur P f ([]++(b::args)++[]) H R)=_;rw[List.nil_append,List.append_nil]
   rw[<-this];exact h
  have hl:bY w (b::args) (u::as.toList.map a.eval):=bY.append (a:=[b]) (x:=[u]) ⟨rfl,fun i p q hp hq=>by
   match i with
   |0=>cases hp;cases hq;exact hu
   |i+1=>simp at hp⟩ (Yv ▸ vj hr as.toList)
  refine Fb h' (xs:=(u::as.toList.map a.eval).toArray) ?_ hw (Ip hl) hn;have e0:(#[Value.iface t u]++as.map a.eval)[0]?=some (.iface t u):=by rw[Array.getElem?_append_left (by show 0<1;decide)];rfl
  have e1:(#[Value.iface t u]++as.map a.eval).extract 1 (#[Value.iface t u]++as.map a.eval).size=as.map a.eval:=jE;have e2:#[u]++as.map a.eval=(u::as.toList.map a.eval).toArray:=by apply Array.ext';simp
  simp only[execOp,resolve,pure_bind,invoke,hv,e0,e1,callMethod,Sem.run_bind,run_program,Result.andThen_ok,MX hf,e2]
end
variable{P:TO}{args':TE}
@[congr] theorem j0t{f f':AV}{args:TE}(h1:f=f')(h2:args=args'):fa P f args H K=fa P f' args' H K:=by rw[h1,h2]
variable{a':AV}
@[congr] theorem jwF{a:AV}{m:String}{args:TE}(h1:a=a')(h2:args=args'):qe P a m args H K=qe P a' m args' H K:=by rw[h1,h2]
variable{t:TJ}
@[congr] theorem jxI:nM P H t K=nM P H t K:=rfl
@[congr] theorem j1E{x x':AV}(h:x=x'):ry H t x K=ry H t x' K:=by rw[h]
@[congr] theorem juj{t':TJ}{a x x':AV}(h1:a=a')(h2:x=x'):qx P t t' a x H K=qx P t t' a' x' H K:=by rw[h1,h2]
@[congr] theorem jrv{b:Builtin}{ts ts':List TJ}{as as':TE}(h1:ts=ts')(h2:as=as'):pU P b ts as H K=pU P b ts' as' H K:=by rw[h1,h2]
def lS(ops:Array Oper)(F:TE)(j:Nat)(want:Bool):Option Bool:=match (ops[j]?).bind (·.dst)with
 |some d=>match F[d]? with
  |some (.raw (.bool b))=>some (b == want)
  |some (.gd g (.raw (.bool b)))=>some (g && (b == want))
  |_=>none
 |none=>none
def bM(F:TE)(x:Operand):AV:=(jh (cn F x)).2
def gp(F:TE)(o:Op):Bool:=o.operands.toList.all fun x=>(jh (cn F x)).1
def iH:Op->Bool
 |.call { callee:=.invoke ..,.. }=>true
 |.binOp .eql ..=>true
 |.binOp .neq ..=>true
 |o=>dp o
def eK(P:TO)(F:TE)(H:Hp)(g:Bool)(K:AV->Prop):Op->Prop
 |.call { callee:=.value f,args,argTypes }=>∃r,(g=true->gp F (.call ⟨.value f,args,argTypes⟩)=true/\fa P (bM F f) (args.toList.map (bM F)) H fun r' H'=>r'=r/\H'=H)/\K (.gd g r)
 |.call { callee:=.invoke f m,args,argTypes }=>∃r,(g=true->gp F (.call ⟨.invoke f m,args,argTypes⟩)=true/\qe P (bM F f) m (args.toList.map (bM F)) H fun r' H'=>r'=r/\H'=H)/\K (.gd g r)
 |.pick c a b=>(g=true->(jh (cn F c)).1=true/\(nV (bM F c) (cn F a) (cn F b)).1)/\K (.gd g (nV (bM F c) (cn F a) (cn F b)).2)
 |o=>if iH o then(g=true->gp F o=true/\(vq P (bM F) H o).1)/\K (.gd g (vq P (bM F) H o).2)else False
def iY:Op->Bool
 |.call { callee:=.value _,.. }=>true
 |_=>false
def k7(P:TO)(ops:Array Oper)(K:TA):List Oper->TA
 |[],F,H=>K F H
 |o::rest,F,H=>match o.guard with
  |none=>vc P (cn F) H o.type (fun r H'=>k7 P ops K rest (cL F o.dst r) H') o.op
  |some (j,want)=>match lS ops F j want with
   |some b=>if iY o.op || iH o.op then eK P F H b (fun r=>k7 P ops K rest (cL F o.dst r) H) o.op
    else(b=true->vc P (cn F) H o.type (fun r H'=>k7 P ops K rest (cL F o.dst r) H') o.op)/\(b=false->k7 P ops K rest (cL F o.dst .any) H)
   |none=>False
section
variable {P:TO}{ops:Array Oper}{F:TE}{H:Hp}
variable{K:TA}{w:NW}{tm:TL}
def B3{o:Oper}{ev:TK}(h:vc P ev H o.type (fun r H'=>K (cL F o.dst r) H') o.op){Q:Exit->Act->World->Prop}{next:Act->World->Prop}
  (h1:aJ w H) (h2:bs w F tm) (hr:∀x,ax w (ev x) ((Act.mk tm []).eval x))
  (hn:∀Us (w':NW) F' H',K F' H'->aJ w' H'->bs w' F' Us->Ext w H w' H'->next ⟨Us,[]⟩ w'.toWorld):o.wp P ⟨tm,[]⟩ w.toWorld next Q:=by
 have quiet:((vq P ev H o.op).1/\K (cL F o.dst (vq P ev H o.op).2) H)->o.wp P ⟨tm,[]⟩ w.toWorld next Q:=fun hq=>by obtain⟨v,B',hv⟩:=yj o h1 hr hq.1;simp only[Oper.wp,B',Oper.upon];rw[Act.put_eq];exact hn _ w _ H hq.2 h1 (h2.put o.dst hv []) (Ext.refl w H)
 have val:∀{w':NW} {H':Hp} {r:AV} {v:Value},(execOp (Act.mk tm []).eval o).run P w.toWorld=.ok (.value v) w'.toWorld->K (cL F o.dst r) H'->aJ w' H'->ax w' r v->Ext w H w' H'->o.wp P ⟨tm,[]⟩ w.toWorld next Q:=fun{w' H' r v} B' hk g1 g2 g3=>by simp only[Oper.wp,B',Oper.upon];rw[Act.put_eq];exact hn _ w' _ H' hk g1 ((h2.ext g3).put o.dst g2 []) g3
 have skip:∀{w':NW} {H':Hp},(execOp (Act.mk tm []).eval o).run P w.toWorld=.ok .skip w'.toWorld->K (cL F o.dst .any) H'->aJ w' H'->Ext w H w' H'->o.wp P ⟨tm,[]⟩ w.toWorld next Q:=fun{w' H'} B' hk g1 g3=>by simp only[Oper.wp,B',Oper.upon];rw[Act.put_eq];exact hn _ w' _ H' hk g1 ((h2.ext g3).put o.dst (.any _) []) g3
 have other:ju P o.op o.type ev H (fun r H'=>K (cL F o.dst r) H')->o.wp P ⟨tm,[]⟩ w.toWorld next Q:=fun ho=>by
  obtain⟨w',H',r,hk,g1,g2,g3⟩:=ho w (Act.mk tm []).eval o.dst o.pos o.after o.guard h1 (fun x _=>hr x);rcases g3 with⟨v,B',hv⟩|⟨B',rfl⟩
  ·exact val B' hk g1 hv g2
  ·exact skip B' hk g1 g2
 obtain⟨dst,op,ty,pos,after,guard⟩:=o;have vrun:∀{s:Sem Value} {v:Value} {W:World},s.run P w.toWorld=.ok v W->(do pure (Next.value (<-s)):Sem Next).run P w.toWorld=.ok (.value v) W:=fun hs=>by simp[hs]
 cases op
 case box t x=> obtain⟨ho,i,hi,hk⟩:=h;obtain⟨u,w',B',g0,g1,g2⟩:=J4 (P:=P) (t:=t) h1 hi (hr x) ho;exact val (vrun B') hk g1 g0 g2
 case alloc t=>
  simp only[vc,nM]at h;split at h
  ·rename_i zs hz;obtain⟨i,hi,hk⟩:=h;obtain⟨u,w',B',g0,g1,g2⟩:=Kd (P:=P) (t:=t) h1 hi hz;exact val (vrun B') hk g1 g0 g2
  ·exact h.elim
 case store t a x=>
  simp only[vc,vz]at h;split at h
  ·rename_i i m k j n ha hk;split at h
   ·rename_i r hb;obtain⟨⟨s1,s2,s3⟩,T4⟩:=h;have hva:=hr a;rw[ha]at hva;obtain⟨w',B',g1,g2⟩:=SG (P:=P) h1 hva hb (hr x) s1 hk s2 s3;refine skip ?_ T4 g1 g2;simp only[execOp,Sem.run_bind,B',Result.andThen_ok,Sem.run_pure]
   ·exact h.elim
  ·exact h.elim
 case buildSlice t n parts=>
  have h':oy P H t n (parts.toList.map fun p=>(p.1,ev p.2)) (fun r H'=>K (cL F dst r) H'):=h;obtain⟨w',H',r,v,B',hk,g1,g2,g3⟩:=Qp (P:=P) (parts:=parts.toList.map fun p=>(p.1,ev p.2)) (vparts:=parts.map fun p=>(p.1,(Act.mk tm []).eval p.2)) h1 jE (fun i a v ha hv=>by simp only[List.getElem?_map,Option.map_eq_some_iff,Array.toList_map,Array.getElem?_toList]at ha hv;obtain⟨x,hx,rfl⟩:=ha;obtain⟨y,hy,rfl⟩:=hv;rw[hx]at hy;cases hy;exact hr x.2) h'
  exact val (vrun B') hk g1 g2 g3
 case binOp op t x y t'=>
  cases op
  case eql=> obtain⟨r,v,B',hk,hv⟩:=IQ (P:=P) (K:=fun r H'=>K (cL F dst r) H') false t x y (hr x) (hr y) h;exact val (vrun B') hk h1 hv (Ext.refl w H)
  case neq=> obtain⟨r,v,B',hk,hv⟩:=IQ (P:=P) (K:=fun r H'=>K (cL F dst r) H') true t x y (hr x) (hr y) h;exact val (vrun B') hk h1 hv (Ext.refl w H)
  all_goals exact quiet h
 case call c=>
  obtain⟨callee,args,argTypes⟩:=c;cases callee
  case value f=>
   refine wz rfl rfl h h1 hr fun v r w' H' hk g1 g2 g3=>?_
   rw[Act.put_eq];exact hn _ w' _ H' hk g1 ((h2.ext g3).put dst g2 []) g3
  case invoke r m=>
   refine B8 rfl rfl h h1 hr fun v r w' H' hk g1 g2 g3=>?_
   rw[Act.put_eq];exact hn _ w' _ H' hk g1 ((h2.ext g3).put dst g2 []) g3
  case builtin b=>
   have U1:args.map (Act.mk tm []).eval=(args.toList.map (Act.mk tm []).eval).toArray:=by rw[<-Array.toList_map,Array.toArray_toList]
   have bvc:pU P b argTypes.toList (args.toList.map ev) H (fun r H'=>K (cL F dst r) H')->Oper.wp P ⟨dst,.call ⟨.builtin b,args,argTypes⟩,ty,pos,after,guard⟩ ⟨tm,[]⟩ w next Q:=fun hb=>by obtain⟨w',H',r,v,B',hk,g1,g2,g3⟩:=hb w _ ty (args.map fun|.const _=>true|_=>false) h1 (vj hr args.toList);refine val (w':=w') (v:=v) ?_ hk g1 g2 g3;simp only[execOp,resolve,pure_bind,invoke,U1];exact B'
   cases b
   case append=>
    simp only[vc]at h;split at h
    ·rename_i t t' a x ht ha;obtain⟨w',H',r,v,B',hk,g1,g2,g3⟩:=h w _ _ ty h1 (hr a) (hr x);refine val (w':=w') (v:=v) ?_ hk g1 g2 g3;have e1:argTypes=#[t,t']:=by rw[<-Array.toArray_toList (xs:=argTypes),ht]
     have e2:args=#[a,x]:=by rw[<-Array.toArray_toList (xs:=args),ha]
     subst e1 e2;simp only[execOp,resolve,pure_bind,invoke,builtin,Sem.run_bind];have:(#[a,x].map (Act.mk tm []).eval)=#[(Act.mk tm []).eval a,(Act.mk tm []).eval x]:=jE;rw[this,B'];rfl
    ·exact h.elim
   case len=>exact quiet h
   case cap=>exact quiet h
   case max=>exact quiet h
   case min=>exact quiet h
   all_goals exact bvc h
 case move=>exact quiet h
 case assign=>exact quiet h
 case pick=>exact quiet h
 case nilCheck=>exact quiet h
 case unOp=>exact quiet h
 case load=>exact quiet h
 case fieldAddr=>exact quiet h
 case field=>exact quiet h
 case indexAddr=>exact quiet h
 case index=>exact quiet h
 case extract=>exact quiet h
 case slice=>exact quiet h
 case makeFunc=>exact quiet h
 case makeInterface=>exact quiet h
 case convert=>exact quiet h
 case build=>exact quiet h
 all_goals first|exact other h|exact(quiet h)
def qc{o:Oper}(hg:o.guard=none)(h:vc P (cn F) H o.type (fun r H'=>K (cL F o.dst r) H') o.op):mM P ops o F H K:=fun w tm Q next h1 h2 hn=>by unfold th;rw[if_pos (by simp[Region.wanted,hg])];exact .inl (B3 h h1 h2 (fun x=>h2.eval [] x) hn)
def Qo{j:Nat}{want b:Bool}(h:lS ops F j want=some b)(h2:bs w F tm):(yielded ops tm j == some want)=b:=by
 unfold lS at h;split at h
 ·rename_i d hd;split at h<;>try cases h
  ·rename_i b' hF;have O':d<tm.size:=by rw[<-h2.1];exact(List.getElem?_eq_some_iff.1 hF).1
   have:=dc (h2.2 d _ _ hF (Array.getElem?_eq_getElem O'));unfold yielded;rw[hd,Option.bind_some,Array.getElem?_eq_getElem O',this];cases b'<;>cases want<;>rfl
  ·rename_i g b' hF;have O':d<tm.size:=by rw[<-h2.1];exact(List.getElem?_eq_some_iff.1 hF).1
   have hr:=h2.2 d _ _ hF (Array.getElem?_eq_getElem O');unfold yielded;rw[hd,Option.bind_some,Array.getElem?_eq_getElem O'];cases hr with
   |gd _ _ _ hh hu=>cases g with
    |true=> have:=dc (hh rfl);rw[this];cases b'<;>cases want<;>rfl
    |false=>rw[hu rfl];rfl
 ·cases h
def Be(h2:bs w F tm)(x:Operand)(ok:(jh (cn F x)).1=true):ax w (bM F x) ((Act.mk tm []).eval x):=xK (h2.eval [] x) ok
def kn(F:TE)(x:Operand):AV:=if(jh (cn F x)).1=true then bM F x else .any
def AH{f g:TK}{o:Option Operand}(h:∀x∈o.toList,f x=g x):o.map f=o.map g:=by
 cases o with
 |none=>rfl
 |some x=>simp[h x jE]
def ut{ev ev':TK}(o:Op)(h:∀x∈o.operands.toList,ev x=ev' x):vq P ev H o=vq P ev' H o:=by
 cases o
 case call c=>
  obtain⟨callee,args,ts⟩:=c;cases callee
  case builtin b=> simp only[vq];rw[List.map_congr_left (fun x hx=>h x (by simpa[Op.operands,Call.operands]using hx))]
  all_goals rfl
 case slice t a lo hi mx=> simp only[Op.operands]at h;simp only[vq];rw[h a jE,AH (o:=lo) (fun x hx=>h x (by simp at hx ⊢;simp[hx])),AH (o:=hi) (fun x hx=>h x (by simp at hx ⊢;simp[hx])),AH (o:=mx) (fun x hx=>h x (by simp at hx ⊢;simp[hx]))]
 case makeFunc fn a b=> simp only[Op.operands]at h;simp only[vq];rw[List.map_congr_left (l:=a.toList) (fun x hx=>h x (by simp at hx ⊢;simp[hx])),List.map_congr_left (l:=b.toList) (fun x hx=>h x (by simp at hx ⊢;simp[hx]))]
 case build t ps=> simp only[Op.operands]at h;simp only[vq];rw[List.map_congr_left (g:=fun p=>(p.1,ev' p.2)) (fun x hx=>by rw[h x.2 (by simp at hx ⊢;exact⟨_,hx⟩)])]
 all_goals first
  |rfl
  |(simp only[Op.operands]at h;simp only[vq];(repeat rw[h _ jE]))
def sQ(h2:bs w F tm)(x:Operand):ax w (kn F x) ((Act.mk tm []).eval x):=by
 unfold kn;split
 ·rename_i h;exact Be h2 x h
 ·exact .any _
def qy{o:Op}(h:gp F o=true):∀x∈o.operands.toList,kn F x=bM F x:=fun x hx=>by unfold kn;rw[if_pos];simp only[gp,List.all_eq_true]at h;exact h x hx
def pe{o:Oper}{j:Nat}{want b:Bool}(hg:o.guard=some (j,want))(hb:lS ops F j want=some b)
  (ht:b=true->∀w tm (Q:Exit->Act->World->Prop) (next:Act->World->Prop),aJ w H->bs w F tm->(∀Us w' F' H',K F' H'->aJ w' H'->bs w' F' Us->Ext w H w' H'->next ⟨Us,[]⟩ w')->o.wp P ⟨tm,[]⟩ w.toWorld next Q)
  (hf:b=false->∃r,(∀w:NW,ax w r undef)/\K (cL F o.dst r) H):mM P ops o F H K:=fun w tm Q next h1 h2 hn=>by
 have hy:=Qo hb h2;unfold th;have hw:Region.wanted o (yielded ops (Act.mk tm []).tmps)=b:=by unfold Region.wanted;rw[hg];exact hy
 cases b with
 |true=> rw[if_pos hw];exact .inl (ht rfl w tm Q next h1 h2 hn)
 |false=> rw[if_neg (by rw[hw];exact Bool.false_ne_true)];obtain⟨r,hr,hk⟩:=hf rfl;rw[Act.put_eq];exact hn _ w _ H hk h1 (h2.put o.dst (hr w) []) (Ext.refl w H)
def p4{r:AV}{g:Bool}(hg:g=false)(w:NW):ax w (.gd g r) undef:=.gd _ _ _ (fun h=>by rw[hg]at h;cases h) (fun _=>rfl)
def tj{r:AV}{v:Value}{g:Bool}(hg:g=true)(h:ax w r v):ax w (.gd g r) v:=.gd _ _ _ (fun _=>h) (fun h=>by rw[hg]at h;cases h)
theorem wG{K:TA}:∀(l:List Oper) (F:TE) (H:Hp),k7 P ops K l F H->vu P ops K l F H
 |[],F,H,h=>E6 h
 |o::rest,F,H,h=>by
  refine G4 ?_;simp only[k7]at h;split at h
  ·rename_i hg;exact(qc (K:=fun F' H'=>k7 P ops K rest F' H') hg h).mono fun F' H' hk=>wG rest F' H' hk
  ·rename_i j want hg;split at h
   ·rename_i b hb;split at h
    ·refine mM.mono (K:=fun F' H'=>k7 P ops K rest F' H') ?_ fun F' H' hk=>wG rest F' H' hk
     obtain⟨dst,op,ty,pos,after,guard⟩:=o;unfold eK at h;split at h
     ·rename_i f args argTypes Wu;cases Wu;obtain⟨r,hc,hk⟩:=h;refine pe hg hb (fun Uk w tm Q next h1 h2 hn=>?_) (fun Uk=>⟨_,p4 Uk,hk⟩);obtain⟨ok,Ui⟩:=hc Uk;have We:=qy ok;have e1:kn F f=bM F f:=We f (by simp[Op.operands,Call.operands]);have e2:args.toList.map (kn F)=args.toList.map (bM F):=List.map_congr_left fun x hx=>We x (by simp[Op.operands,Call.operands]at hx ⊢;exact .inr hx)
      refine wz (ev:=kn F) e1 e2 Ui h1 (sQ h2) fun v r' w' H' hR g1 g2 g3=>?_
      obtain⟨rfl,rfl⟩:=hR;rw[Act.put_eq];exact hn _ w' _ H' hk g1 ((h2.ext g3).put dst (tj Uk g2) []) g3
     ·rename_i f m args argTypes Wu;cases Wu;obtain⟨r,hc,hk⟩:=h;refine pe hg hb (fun Uk w tm Q next h1 h2 hn=>?_) (fun Uk=>⟨_,p4 Uk,hk⟩);obtain⟨ok,Ui⟩:=hc Uk;have We:=qy ok;have e1:kn F f=bM F f:=We f (by simp[Op.operands,Call.operands]);have e2:args.toList.map (kn F)=args.toList.map (bM F):=List.map_congr_left fun x hx=>We x (by simp[Op.operands,Call.operands]at hx ⊢;exact .inr hx)
      refine B8 (ev:=kn F) e1 e2 Ui h1 (sQ h2) fun v r' w' H' hR g1 g2 g3=>?_
      obtain⟨rfl,rfl⟩:=hR;rw[Act.put_eq];exact hn _ w' _ H' hk g1 ((h2.ext g3).put dst (tj Uk g2) []) g3
     ·rename_i c x y Wu;simp only at Wu;subst Wu;obtain⟨hs,hk⟩:=h;refine pe hg hb (fun Uk w tm Q next h1 h2 hn=>?_) (fun Uk=>⟨_,p4 Uk,hk⟩);obtain⟨ok,hq⟩:=hs Uk;obtain⟨v,B',hv⟩:=GM (P:=P) (ρ:=(Act.mk tm []).eval) (dst:=dst) (ty:=ty) (pos:=pos) (after:=after) (guard:=guard) (Be h2 c ok) (h2.eval [] x) (h2.eval [] y) hq;simp only[Oper.wp,B',Oper.upon];rw[Act.put_eq];exact hn _ w _ H hk h1 (h2.put dst (tj Uk hv) []) (Ext.refl w H)
     ·split at h
      ·obtain⟨hs,hk⟩:=h;refine pe hg hb (fun Uk w tm Q next h1 h2 hn=>?_) (fun Uk=>⟨_,p4 Uk,hk⟩);obtain⟨ok,hq⟩:=hs Uk;rw[<-ut _ (qy ok)]at hq;obtain⟨v,B',hv⟩:=yj (ρ:=(Act.mk tm []).eval) ⟨dst,op,ty,pos,after,guard⟩ h1 (sQ h2) hq;simp only[Oper.wp,B',Oper.upon];rw[Act.put_eq];rw[ut _ (qy ok)]at hv;exact hn _ w _ H hk h1 (h2.put dst (tj Uk hv) []) (Ext.refl w H)
      ·exact h.elim
    ·refine mM.mono (K:=fun F' H'=>k7 P ops K rest F' H') ?_ fun F' H' hk=>wG rest F' H' hk
     refine pe hg hb (fun Uk w tm Q next h1 h2 hn=>?_) (fun Uk=>⟨_,fun w=>.any _,h.2 Uk⟩);exact B3 (h.1 Uk) h1 h2 (fun x=>h2.eval [] x) hn
   ·exact h.elim
def Qj{id:Nat}{l:List Oper}{Q:Exit->TA}(h:k7 P l.toArray (Q .normal) l F H):dF P (.region id l.toArray false) Q F H:=
 Hq (by simpa using wG l F H h)
-- the results of a body
def jo(P:TO)(H:Hp)(F:TE):List ResultVar->Option TE
 |[]=>some []
 |.tmp t::rest=>(jo P H F rest).map (F.getD t .any::·)
 |.cell a t::rest=>match pr H (F.getD a .any),dz P t,cZ P t with
  |some (_,cs),some ag,some k=>(jo P H F rest).map (uk ag k cs::·)
  |_,_,_=>none
def km(P:TO)(H:Hp)(F:TE):List ResultVar->Prop
 |[]=>True
 |.tmp _::rest=>km P H F rest
 |.cell a t::rest=>match pr H (F.getD a .any),cZ P t with
  |some (c,cs),some k=>(c/\k<=cs.length/\1<=cs.length)/\km P H F rest
  |_,_=>False
def kG:TE->AV
 |[r]=>r
 |rs=>.aQ rs
def u9(tm:TL):ResultVar->Sem Value
 |.tmp t=>pure (tm.getD t undef)
 |.cell a t=>do loadVar t (<-asAddr (tm.getD a undef))
def Kk(fn:Func)(tm:TL):results fn tm=(do let vs <-fn.results.mapM (u9 tm);pure (if h:vs.size=1 then vs[0]else .tuple vs)):=rfl
theorem CY{w:NW}{tm:TL}(hw:aJ w H)(h2:bs w F tm):∀(rs:List ResultVar) (out:TE),km P H F rs->jo P H F rs=some out->
  ∃vs:TM,bY w out vs/\(rs.mapM (u9 tm)).run P w.toWorld=.ok vs w.toWorld
 |[],out,_,h=>by simp[jo]at h;subst h;exact⟨[],⟨rfl,fun i a v ha=>by simp at ha⟩,jE⟩
 |.tmp t::rest,out,hok,h=>by
  simp only[jo,Option.map_eq_some_iff]at h;obtain⟨l,hl,rfl⟩:=h;obtain⟨vs,T8,B'⟩:=CY hw h2 rest l hok hl;refine⟨tm.getD t undef::vs,⟨by simp[T8.1],fun i a v ha hv=>?_⟩,?_⟩
  ·cases i with
   |zero=> simp only[List.getElem?_cons_zero,Option.some.injEq]at ha hv;subst ha hv;exact h2.eval [] (.tmp t)
   |succ i=>exact T8.2 i a v (by simpa using ha) (by simpa using hv)
  ·rw[List.mapM_cons];simp only[u9,Sem.run_bind,Sem.run_pure,Result.andThen_ok];rw[B'];rfl
 |.cell ad t::rest,out,hok,h=>by
  simp only[jo]at h;simp only[km]at hok;split at h
  ·rename_i c cs ag k e1 e2 e3;rw[e1,e3]at hok;obtain⟨⟨hc,Ue,TY⟩,hok⟩:=hok;simp only[Option.map_eq_some_iff]at h;obtain⟨l,hl,rfl⟩:=h;obtain⟨vs,T8,B'⟩:=CY hw h2 rest l hok hl;obtain⟨addr,us,hv,D',hr⟩:=GZ (h2.eval [] (.tmp ad)) hw e1 hc;obtain⟨v,ZL,hvr⟩:=IV (P:=P) e2 e3 Ue TY D' hr;have T':tm.getD ad undef=.pointer (some addr):=hv;refine⟨v::vs,⟨by simp[T8.1],fun i a u ha hu=>?_⟩,?_⟩
   ·cases i with
    |zero=> simp only[List.getElem?_cons_zero,Option.some.injEq]at ha hu;subst ha hu;exact hvr
    |succ i=>exact T8.2 i a u (by simpa using ha) (by simpa using hu)
   ·rw[List.mapM_cons];have ha:(asAddr (tm.getD ad undef)).run P w.toWorld=.ok addr w.toWorld:=by rw[T'];rfl
    have hf:(u9 tm (.cell ad t)).run P w.toWorld=.ok v w.toWorld:=by simp only[u9,Sem.run_bind,ha,ZL,Result.andThen_ok]
    simp only[Sem.run_bind,hf,B',Sem.run_pure,Result.andThen_ok]
  ·cases h
def Qi{fn:Func}{out:TE}(hw:aJ w H)(h2:bs w F tm)(hok:km P H F fn.results.toList)(h:jo P H F fn.results.toList=some out):∃v,(results fn tm).run P w.toWorld=.ok v w.toWorld/\ax w (kG out) v:=by
 obtain⟨vs,T8,B'⟩:=CY (P:=P) hw h2 _ out hok h;have hm:(fn.results.mapM (u9 tm)).run P w.toWorld=.ok vs.toArray w.toWorld:=by rw[Array.mapM_eq_mapM_toList];simp only[Sem.run_map,B',Result.andThen_ok]
 have hr:(results fn tm).run P w.toWorld=.ok (if h:vs.toArray.size=1 then vs.toArray[0]else .tuple vs.toArray) w.toWorld:=by rw[Kk];simp only[Sem.run_bind,hm,Result.andThen_ok,Sem.run_pure]
 refine⟨_,hr,?_⟩;match vs,out,T8 with
 |[],[],T8=>exact .aQ _ _ rfl fun i a v ha=>by simp at ha
 |[v],[a],T8=>exact T8.2 0 _ _ rfl rfl
 |v::v'::vs,a::a'::out,T8=>exact .aQ _ _ (by have:=T8.1;simpa using this) fun i x y hx hy=>T8.2 i x y hx (by simpa using hy)
 |[],_::_,T8=>have:=T8.1;simp at this
 |_::_,[],T8=>have:=T8.1;simp at this
 |[_],_::_::_,T8=>have:=T8.1;simp at this
 |_::_::_,[_],T8=>have:=T8.1;simp at this
def lu(P:TO)(fn:Func)(R:AV->List TQ->Prop):Exit->TA
 |.normal,F,H|.ret,F,H=>∃out r H',jo P H F fn.results.toList=some out/\km P H F fn.results.toList/\iB (kG out) H r H'/\R r H'.l
 |_,_,_=>False
def FV{f:FuncId}{fn:Func}{c:Code}{args:TE}{l:TD}{R:AV->List TQ->Prop}(hf:P.funcs[f]?=some fn)(hb:fn.body=some c)(h:dF P c (lu P fn R) (args++List.replicate (fn.ntmps-args.length) .any) (entry l)) :
  ab P f args l R:=fun w vs h1 h2=>by
 have I':args.length=vs.size:=h2.1;refine calls_of_wp hf hb (wp_mono (h w _ h1 ?_) ?_)
 ·refine⟨by simp[I'],fun i a v ha hv=>?_⟩;rcases Nat.lt_or_ge i args.length with hi|hi
  ·rw[List.getElem?_append_left hi]at ha;rw[Array.getElem?_append_left jB]at hv;exact h2.2 i a v ha hv
  ·rw[List.getElem?_append_right hi]at ha;rw[List.getElem?_replicate]at ha;split at ha<;>cases ha;exact .any _
 ·rintro e a W ⟨tm,F',H',w',rfl,rfl,hq,g1,g2,g3⟩;have fin:(∃out r UC,jo P H' F' fn.results.toList=some out/\km P H' F' fn.results.toList/\iB (kG out) H' r UC/\R r UC.l)->
    ∃v,(results fn tm).run P w'.toWorld=.ok v w'.toWorld/\∃v' r UC w'',w'.toWorld=NW.toWorld w''/\Ending.returned v=.returned v'/\R r (Hp.l UC)/\aJ w'' UC/\ax w'' r v'/\fO w (entry l) w'' UC:=by
   rintro⟨out,r,UC,e1,e0,e2,e3⟩;obtain⟨v,B',hv⟩:=Qi g1 g2 e0 e1;obtain⟨w'',k0,k1,k2,k3⟩:=e2 w' v g1 hv;exact⟨v,B',v,r,UC,w'',k0.symm,rfl,e3,k1,k2,g3.trans k3⟩
  cases e with
  |normal=>exact⟨rfl,fin hq⟩
  |ret=>exact⟨rfl,fin hq⟩
  |exit id=>exact hq.elim
  |goto l=>exact hq.elim
  |panic ch=>exact hq.elim
  |outgrown=>exact hq.elim
end
-- encoders of Lean data
class bC{α:Type}(enc:α->List AV)(sz:outParam Nat):Prop where
 len:∀x,(enc x).length=sz
 cI:∀x,cI (enc x)=true
 free:∀x,aX eo (enc x)=true
def QL(q:TN)(css:TC):Prop:=∀cs∈css,aX q cs=true
def wL(q:TN):Row->Prop
 |.var _ cs=>aX q cs=true
 |.aG _ _ css=>QL q css
 |.mp _ vs=>aX q vs=true
theorem uV{q:TN}:∀(a b:TE),aX q (a++b)=(aX q a && aX q b)
 |[],b=>by simp[aX]
 |x::a,b=>by simp[aX,uV a b,Bool.and_assoc]
theorem DH{q:TN}:∀{css:TC},QL q css->aX q css.flatten=true
 |[],_=>rfl
 |cs::css,h=>by rw[List.flatten_cons,uV,h cs jE,DH (css:=css) fun c hc=>h c (by simp[hc])];rfl
variable{q:TN}
def E8{r:Row}(h:wL q r):aX q r.cells=true:=by
 cases r with
 |var t cs=>exact h
 |aG e sz css=>exact DH h
 |mp ks vs=>exact h
def NZ(q:TN):QL q []:=fun _ h=>by simp at h
def QO{a b:TC}(h:QL q a)(k:QL q b):QL q (a++b):=fun c hc=>(List.mem_append.1 hc).elim (h c) (k c)
variable{α:Type}
def mY{enc:α->TE}[e:bC enc sz](l:List α):QL q (l.map enc):=fun c hc=>by obtain⟨x,_,rfl⟩:=List.mem_map.1 hc;exact fS (fun _ h=>by cases h) _ (e.free x)
def Ol(sz:Nat):Good sz []:=fun _ h=>by simp at h
def SX{enc:α->TE}[e:bC enc sz](l:List α):Good sz (l.map enc):=fun c hc=>by obtain⟨x,_,rfl⟩:=List.mem_map.1 hc;exact⟨e.len x,e.cI x⟩
-- calls
def ra:List TQ->Hp->Prop
 |[],_=>True
 |(i,r)::l,H=>H.get i=some r/\ra l H
theorem zY:∀{l:TD} {H:Hp},ra l H->∀i r,aA l i=some r->H.get i=some r
 |[],_,_,i,r,h=>by cases h
 |(j,s)::l,H,hf,i,r,h=>by
  simp only[aA]at h;split at h
  ·rename_i e;subst e;cases h;exact hf.1
  ·exact zY hf.2 i r h
def rK(q:TN):List TQ->Prop
 |[]=>True
 |(_,r)::l=>wL q r/\rK q l
theorem Jq{q:TN}:∀{l:TD},rK q l->∀i r,aA l i=some r->aX q r.cells=true
 |[],_,i,r,h=>by cases h
 |(j,s)::l,hf,i,r,h=>by
  simp only[aA]at h;split at h
  ·cases h;exact E8 hf.1
  ·exact Jq hf.2 i r h
def oC(L:TH)(H:Hp):List TQ->Prop
 |[]=>True
 |(i,_)::l=>(L.contains i=true\/H.get i=none)/\oC L H l
theorem y5{L:TH}{H:Hp}:∀{l:TD},oC L H l->∀i r,aA l i=some r->L.contains i=true\/H.get i=none
 |[],_,i,r,h=>by cases h
 |(j,s)::l,hf,i,r,h=>by
  simp only[aA]at h;split at h
  ·rename_i e;subst e;exact hf.1
  ·exact y5 hf.2 i r h
section
variable {P:TO}{f:FuncId}{args:TE}{H:Hp}{l:TD}{K:TB}
def SY{R:AV->List TQ->Prop}(hc:ab P f args l R)(h1:ra l H)(h2:aX (fun i=>(ids l).contains i) args=true)(h3:rK (fun i=>(ids l).contains i) l)
  (hk:∀r l',R r l'->oC (ids l) H l'/\(ids l').Nodup/\K r ⟨H.B,gx H.l l'⟩):dj P f args H K:=fun _ _ hw hv=>
 xT hc (zY h1) h2 (Jq h3) (fun r l' hR=>⟨y5 (hk r l' hR).1,(hk r l' hR).2⟩) hw hv
def vW{r0:AV}{l0:TD}(hc:ab P f args l fun r l'=>r=r0/\l'=l0)(h1:ra l H)(h2:aX (fun i=>(ids l).contains i) args=true)(h3:rK (fun i=>(ids l).contains i) l)
  (h4:oC (ids l) H l0) (h5:(ids l0).Nodup) (hk:K r0 ⟨H.B,gx H.l l0⟩):dj P f args H K:=
 SY hc h1 h2 h3 fun r l' ⟨e1,e2⟩=>by rw[e1,e2];exact⟨h4,h5,hk⟩
def za{r:AV}(hc:aB P f args r)(h2:aX eo args=true)(hk:K r H):dj P f args H K:=
 vW hc trivial (by simpa[ids]using h2) trivial trivial (by simp[ids]) hk
def nQ{args:TE}(hc:aU P f=true)(h:dj P f args H K):fa P (.raw (.func (.func f) #[] #[])) args H K:=.inl ⟨hc,by simpa using h⟩
def OP{cs:TE}{args:TE}(hc:aU P f=true)(h:dj P f (args++cs) H K):fa P (.dP f cs) args H K:=.inl ⟨hc,by simpa using h⟩
def Rh{args:TE}(h:ur P f args H K):fa P (.raw (.func (.func f) #[] #[])) args H K:=.inr (by simpa using h)
end
-- things of which D holds are let go of, and may be read from then on
def fv(D:TN):List TQ->TD
 |[]=>[]
 |(j,s)::l=>bif D j then fv D l else(j,s)::fv D l
theorem AY(D:TN):∀(l:TD) (i:Nat),aA (fv D l) i=if D i=true then none else aA l i
 |[],i=>by simp[fv,aA]
 |(k,s)::l,i=>by
  have ih:=AY D l i;unfold fv;cases hk:D k
  ·simp only[cond_false,aA];split
   ·rename_i h;subst h;rw[hk];simp
   ·exact ih
  ·simp only[cond_true,aA];rw[ih];split
   ·rfl
   ·rename_i h;rw[if_neg];rintro rfl;exact h hk
def NW.cR(w:NW)(D:TN):NW:={ w with O:=fun b=>w.O b/\∀i m t s,D i=true->w.nm i m≠some (.at b t s),nm:=fun j n=>if D j=true then none else w.nm j n }
def gV(D:TN):TN:=fun i=>!(D i)
def stay(D:TN):List TQ->Prop
 |[]=>True
 |(j,r)::l=>(D j=true\/wL (gV D) r)/\stay D l
theorem Cj{D:TN}:∀{l:TD},stay D l->∀{i:Nat} {r:Row},aA l i=some r->D i=false->aX (gV D) r.cells=true
 |[],_,i,r,h,_=>by cases h
 |(j,s)::l,hf,i,r,h,hd=>by
  simp only[aA]at h;split at h
  ·rename_i e;subst e;cases h;rcases hf.1 with h|h
   ·rw[hd]at h;cases h
   ·exact E8 h
  ·exact Cj hf.2 h hd
def pF(w:NW)(D:TN):Keep (gV D) w (w.cR D):=⟨Nat.le_refl _,fun b _ h=>⟨rfl,fun h'=>h h'.1⟩,fun j n z hq h=>by show(if D j=true then none else w.nm j n)=_;rw[if_neg (by unfold gV at hq;intro e;rw[e]at hq;cases hq)];exact h⟩
variable{D:TN}
def Gs{w:NW}(r:aJ w H)(hB:H.B.all (gV D)=true)(hl:stay D H.l):aJ (w.cR D) ⟨H.B,fv D H.l⟩/\fO w H (w.cR D) ⟨H.B,fv D H.l⟩:=by
 have Uu:∀j n,(w.cR D).nm j n=if D j=true then none else w.nm j n:=fun _ _=>rfl
 have gE:∀j,(Hp.mk H.B (fv D H.l)).get j=if D j=true then none else H.get j:=fun j=>AY D H.l j
 refine⟨{ rows:=fun j s hj=>?_,df:=fun j n z hz=>?_,inj:=fun j n j' n' b t s t' s' h1 h2=>?_,own:=fun j n b t s h=>?_,fin:=fun b hb=>r.fin b hb.1,bX:=r.bX.aZ (pF w D) },{ pF w D with names:=fun j n z hq h=>?_,os:=rfl,tape:=rfl,output:=rfl,rest:=fun b hb hO TS=>⟨rfl,⟨hO,fun i m t s _=>TS _ _ _ _⟩,fun j n t s h=>?_⟩,base:=rfl }⟩
 ·rw[gE]at hj;split at hj
  ·cases hj
  ·rename_i e;obtain⟨h1,z,h2,h3⟩:=r.rows j s hj;refine⟨h1,z,by rw[Uu,if_neg e];exact h2,?_⟩;cases z with
   |nil=>exact h3
   |«at» b t st=> obtain⟨g1,cur,g2,g3,g5⟩:=h3;exact⟨g1,cur,g2,g3,fun k a v ha hv=>(g5 k a v ha hv).aZ (pF w D) (lm (Cj hl hj (by simpa using e)) ha)⟩
 ·rw[Uu]at hz;split at hz
  ·cases hz
  ·rename_i e;obtain⟨r',h1,h2⟩:=r.df j n z hz;exact⟨r',by rw[gE,if_neg e];exact h1,h2⟩
 ·rw[Uu]at h1 h2;split at h1
  ·cases h1
  ·split at h2
   ·cases h2
   ·exact r.inj _ _ _ _ _ _ _ _ _ h1 h2
 ·rw[Uu]at h;split at h
  ·cases h
  ·rename_i e;exact⟨r.own _ _ _ _ _ h,fun i m t' s' hd h'=>e (by rw[r.inj _ _ _ _ _ _ _ _ _ h h'];exact hd)⟩
 ·have hq:H.B.contains j=true:=hq;have:=List.all_eq_true.1 hB j (List.contains_iff_mem.1 hq);rw[Uu,if_neg (by intro e;unfold gV at this;rw[e]at this;cases this)];exact h
 ·rw[Uu]at h;split at h
  ·cases h
  ·exact TS _ _ _ _ h
inductive cW(D:Nat->Bool)(H:Hp):AV->AV->Prop
 |same (a:AV) (h:a.all (gV D)=true):cW D H a a
 |drop (a:AV):cW D H a .any
 |nil (sz:Nat) (d:List AV):cW D H (.raw (.slice none 0 0)) (.sl false sz [] d)
 |lit (x:Bool) (sz:Nat) (css:List (List AV)) (d d':List AV):cW D H (.sl x sz css d) (.sl false sz css d')
 |agg (cs ds:List AV) (hl:cs.length=ds.length) (h:∀(i:Nat) c d,cs[i]?=some c->ds[i]?=some d->cW D H c d):cW D H (.agg cs) (.agg ds)
 |aQ (cs ds:List AV) (hl:cs.length=ds.length) (h:∀(i:Nat) c d,cs[i]?=some c->ds[i]?=some d->cW D H c d):cW D H (.aQ cs) (.aQ ds)
 |yU (dd:List AV) (i sz m n:Nat) (e:TypeId) (css:List (List AV)) (dss:List (List AV)) (hD:D i=true) (hi:H.get i=some (.aG e sz css)) (hm:m=css.length) (hn:n<=m) (hd:dss.length=n) (Wt:∀ds∈dss,ds.length=sz) (TS:QL eo dss)
   (h:∀k (j:Nat) c d,k<n->(css.getD k [])[j]?=some c->(dss.getD k [])[j]?=some d->cW D H c d):cW D H (.rs i m sz n) (.sl false sz dss dd)
 |pt (i k j:Nat) (t:TypeId) (cs ds:List AV) (hD:D i=true) (hi:H.get i=some (.var t cs)) (hl:(cs.drop j).length=ds.length) (TS:aX eo ds=true) (h:∀(q:Nat) c d,(cs.drop j)[q]?=some c->ds[q]?=some d->cW D H c d):cW D H (.pt i 0 k j) (.ip ds)
def cW.sound{w:NW}(hw:aJ w H){a:AV}(h:cW D H a a'):∀{v:Value},ax w a v->ax (w.cR D) a' v:=by
 induction h with
 |same a h=>intro v hv;exact hv.aZ (pF w D) h
 |drop a=>intro v hv;exact .any v
 |nil sz d=>intro v hv;have:=dc hv;subst this;exact .gu _ _ _ _ (fun e=>by cases e)
 |lit x sz css d d'=>
  intro v hv;have T':=hv.aZ (pF w D) (by simp only[AV.all]);cases T' with
  |gu _ _ A c _=>exact .gu _ _ _ _ (fun e=>by cases e)
  |sl _ _ _ a c vs hn hc hx TU hb hH D' hr=>exact .sl _ _ _ a c vs hn hc (fun e=>by cases e) TU hb hH D' hr
 |agg cs ds hl _ ih=>
  intro v hv;cases hv with
  |agg _ vs U6 hr=>
   refine .agg ds vs jB fun i d v hd hv=>?_
   have hi:i<cs.length:=by rw[hl];exact(List.getElem?_eq_some_iff.1 hd).1
   have hc:cs[i]?=some cs[i]:=List.getElem?_eq_getElem hi;exact ih i _ d hc hd (hr i _ v hc hv)
 |aQ cs ds hl _ ih=>
  intro v hv;cases hv with
  |aQ _ vs U6 hr=>
   refine .aQ ds vs jB fun i d v hd hv=>?_
   have hi:i<cs.length:=by rw[hl];exact(List.getElem?_eq_some_iff.1 hd).1
   have hc:cs[i]?=some cs[i]:=List.getElem?_eq_getElem hi;exact ih i _ d hc hd (hr i _ v hc hv)
 |yU dd i sz m n e css dss hD hi hm hn hd Wt TS _ ih=>
  intro v hv;subst hm;cases hv with
  |iE _ _ _ A TV=> have:dss=[]:=List.length_eq_zero_iff.1 jB;rw[this];exact .gu _ _ _ _ (fun h=>by cases h)
  |rs _ _ _ _ b t c TV hc T3 U'=>
   by_cases h0:n=0
   ·have:dss=[]:=List.length_eq_zero_iff.1 jB;rw[this,h0];exact .gu _ _ _ _ (fun h=>by cases h)
   ·have hsz0:0<sz:=U';have:=ax.sl (w:=w.cR D) (d:=dd) false sz dss ⟨b,0,none⟩ c (fun k=>(w.cell? ⟨b,k,none⟩).getD undef) jB jB (fun h=>by cases h) Wt (hw.lt TV) (fun h=>h.2 i _ t sz hD TV) (fun k j hk hj=>by
     obtain⟨_,_,_,v,h1,h2⟩:=sX hw hi TV (k:=k) (j:=j) jB hj;show w.cell? _=_;rw[jf,Nat.zero_add,h1];rfl) (fun k j u hk hu=>by
     have hj:j<sz:=by have:=(List.getElem?_eq_some_iff.1 hu).1;rwa [vk Wt hk]at this
     obtain⟨_,T7,_,v,h1,h2⟩:=sX hw hi TV (k:=k) (j:=j) jB hj;have hlc:=vk T7 (show k<css.length from jB);have hc:(css.getD k [])[j]?=some ((css.getD k [])[j]' jB):=List.getElem?_eq_getElem jB;rw[h1];have Ux:dss.getD k []∈dss:=by
      have:dss.getD k []=dss[k]:=by simp[hk]
      rw[this];exact List.getElem_mem _
     exact(ih k j _ u jB hc hu (h2 _ hc)).lg (lm (TS _ Ux) hu))
    rw[hd]at this;exact this
 |pt i k j t cs ds hD hi hl TS _ ih=>
  intro v hv;cases hv with
  |pt _ _ _ _ b t' s TV=>
   obtain⟨hok,z,hz,T2⟩:=hw.rows i _ hi;have:z=.at b t' s:=by have hz:w.nm i 0=some z:=hz;rw[TV]at hz;cases hz;rfl
   subst this;obtain⟨rfl,cur,hh,⟨hs,T3⟩,hr⟩:=T2;have U':(Row.var t cs).bB=0:=rfl;have T3:cs.length<=t':=T3;have e0:k*(Row.var t cs).bB+j=j:=by rw[U'];omega
   rw[e0];refine .ip ds ⟨b,j,none⟩ (fun q=>cur.getD (j+q) undef) (hw.lt TV) (fun h=>h.2 i 0 _ _ hD TV) (fun q hq=>?_) (fun q u hu=>?_)
   ·show w.cell? _=_;simp only[List.length_drop]at hl;have:j+q<cur.size:=jB;rw[jf,sT b _ cur _ (0,0) hh];simp[this]
   ·have XY:q<(cs.drop j).length:=by rw[hl];exact(List.getElem?_eq_some_iff.1 hu).1
    have hc:(cs.drop j)[q]?=some (cs.drop j)[q]:=List.getElem?_eq_getElem XY;simp only[List.length_drop]at XY;have:j+q<cur.size:=jB;refine(ih q _ u hc hu (hr (j+q) _ _ (by rw[<-List.getElem?_drop];exact hc) ?_)).lg (lm TS hu);simp[this]
theorem cW.rs{D:TN}{H:Hp}(dd:TE)(i sz n:Nat)(e:TJ)(css:TC)(dss:TC)(hD:D i=true)(hi:H.get i=some (.aG e sz css))(hn:n=css.length)(hd:dss.length=css.length)(Wt:∀ds∈dss,ds.length=sz)(TS:QL eo dss)
  (h:∀k (j:Nat) c d,k<css.length->(css.getD k [])[j]?=some c->(dss.getD k [])[j]?=some d->cW D H c d):cW D H (.rs i n sz n) (.sl false sz dss dd):=
 .yU dd i sz n n e css dss hD hi hn jl jB Wt TS fun k j c d hk=>h k j c d jB
def cW.row{dd:TE}{i:Nat}{e:TJ}{enc:α->TE}[he:bC enc sz](l:List α)(hD:D i=true)(hi:H.get i=some (.aG e sz (l.map enc)))(hn:n=l.length):cW D H (.rs i n sz n) (.sl false sz (l.map enc) dd):=
 .rs dd i sz n e _ _ hD hi (by simpa using hn) rfl (fun ds Wt=>by obtain⟨x,_,rfl⟩:=List.mem_map.1 Wt;exact he.len x) (mY l) fun k j c d hk h1 h2=>by
  rw[h1]at h2;cases h2;have T4:k<l.length:=by simpa using hk
  have e1:(l.map enc).getD k []=enc l[k]:=by simp[T4]
  rw[e1]at h1;exact .same c (qu (fun _ h=>by cases h) _ (lm (he.free _) h1))
def iB.free{r r':AV}(D:TN)(hB:H.B.all (gV D)=true)(hl:stay D H.l)(hv:cW D H r r'):iB r H r' ⟨H.B,fv D H.l⟩:=fun w v h1 h2=>by obtain⟨a,b⟩:=Gs h1 hB hl;exact⟨w.cR D,rfl,a,hv.sound h1 h2,b⟩
def bu(D:TN)(H:Hp):TE->TE->Prop
 |[],[]=>True
 |a::l,b::m=>cW D H a b/\bu D H l m
 |_,_=>False
theorem bu.get{D:TN}{H:Hp}:∀{l m:TE},bu D H l m->l.length=m.length/\∀(i:Nat) a b,l[i]?=some a->m[i]?=some b->cW D H a b
 |[],[],_=>⟨rfl,fun i a b h=>by simp at h⟩
 |x::l,y::m,h=>by
  have ih:=bu.get h.2;refine⟨by simp[ih.1],fun i a b ha hb=>?_⟩;cases i with
  |zero=>simp at ha hb;subst ha hb;exact h.1
  |succ i=>exact ih.2 i a b (by simpa using ha) (by simpa using hb)
theorem bu.agg{D:TN}{H:Hp}{cs ds:TE}(h:bu D H cs ds):cW D H (.agg cs) (.agg ds):=.agg cs ds h.get.1 h.get.2
theorem bu.aQ{D:TN}{H:Hp}{cs ds:TE}(h:bu D H cs ds):cW D H (.aQ cs) (.aQ ds):=.aQ cs ds h.get.1 h.get.2
def dL.free{F F':TE}(D:TN)(hB:H.B.all (gV D)=true)(hl:stay D H.l)(hv:bu D H F F'):dL F H F' ⟨H.B,fv D H.l⟩:=fun w tm h1 h2=>by
 obtain⟨a,b⟩:=Gs h1 hB hl;obtain⟨U6,hg⟩:=hv.get;refine⟨w.cR D,rfl,a,⟨by rw[<-U6];exact h2.1,fun i c v hc hv=>?_⟩,b⟩;have hi:i<F.length:=by rw[U6];exact(List.getElem?_eq_some_iff.1 hc).1
 exact(hg i F[i] c (List.getElem?_eq_getElem hi) hc).sound h1 (h2.2 i _ v (List.getElem?_eq_getElem hi) hv)
-- what is lent: a function that is YJ nothing of one's own but to read
mutual
def AV.flat:AV->Bool
 |.raw _=>true
 |.any=>true
 |.agg cs=>yz cs
 |.aQ cs=>yz cs
 |.gd _ v=>v.flat
 |_=>false
def yz:TE->Bool
 |[]=>true
 |a::l=>a.flat && yz l
end
-- a slot that holds nothing yet, as a row of one's own without elements
theorem dL.nil{F:TE}{H:Hp}(i slot:Nat)(e:TJ){sz:Nat}(hi:H.get i=none)(h0:0<sz)(hs:F[slot]?=some (.raw (.slice none 0 0))\/∃x s d,F[slot]?=some (.sl true s x d)/\x=[]):dL F H (F.set slot (.rs i 0 sz 0)) (H.put i (.aG e sz [])):=fun w tm h1 h2=>by
 obtain⟨a,b⟩:=xD h1 hi e h0;refine⟨w.name i 0 .nil,rfl,a,⟨by rw[List.length_set];exact h2.1,fun k c v hc hv=>?_⟩,b.pG⟩;rw[List.getElem?_set]at hc;by_cases hk:slot=k
 ·subst hk;rw[if_pos rfl]at hc;split at hc
  ·cases hc;have T':∃A,v=.slice A 0 0:=by
    rcases hs with hs|⟨x,s,d,hs,rfl⟩
    ·exact⟨none,by have:=h2.2 slot _ v hs hv;cases this;rfl⟩
    ·have:=h2.2 slot _ v hs hv;cases this with
     |gu _ _ A c hx=>have:=hx rfl;subst this;exact⟨A,rfl⟩
     |sl _ _ _ _ _ _ hn=>simp at hn
   obtain⟨A,rfl⟩:=T';exact .iE _ _ _ _ (NW.cw _ _ _ _)
  ·cases hc
 ·rw[if_neg hk]at hc;exact(h2.2 k c v hc hv).ext b
def nth{α:Type}[Inhabited α](l:List α)(i:Nat):α:=l.getD i default
variable{α:Type}{i:Nat}
def fP[Inhabited α]{l:List α}(h:i<l.length):nth l i=l[i]:=by simp[nth,h]
def tK[Inhabited α]{l:List α}(h:i<l.length):l.take (i+1)=l.take i++[nth l i]:=by rw[fP h,List.take_succ_eq_append_getElem h]
@[reducible] def aO{α:Type}[Inhabited α](enc:α->TE)(sz:Nat)(l:List α):AV:=.sl false sz (l.map enc) (enc default)
@[go_sem] def jwO:(∀(next:TA) (Q:Exit->TA) (F:TE) (H:Hp),uv next Q .normal F H=next F H)/\(∀(next:TA) (Q:Exit->TA) (F:TE) (H:Hp),uv next Q .ret F H=Q .ret F H)/\(∀(next:TA) (Q:Exit->TA) (id:Nat) (F:TE) (H:Hp),uv next Q (.exit id) F H=Q (.exit id) F H)/\(∀(id:Nat) (Q:Exit->TA) (F:TE) (H:Hp),sL id Q .normal F H=Q .normal F H)/\(∀(id:Nat) (Q:Exit->TA) (F:TE) (H:Hp),sL id Q .ret F H=Q .ret F H):=by and_intros<;>(intros;rfl)
@[go_sem] def jx1(id:Nat)(Q:Exit->TA)(F:TE)(H:Hp):sL id Q (.exit id) F H=Q .normal F H:=by simp[sL]
def AP(K:TB)(_:im K):TB:=K
def vM(K:AV->Prop)(_:im K):AV->Prop:=K
@[go_sem] def j4P:(∀(K:TB) (d:im K) (r:AV) (H:Hp),AP K d r H=K r H)/\(∀(K:AV->Prop) (d:im K) (r:AV),vM K d r=K r):=by and_intros<;>(intros;rfl)
variable{r:AV}{H:Hp}
def Sn{K:TB}{d:im K}(h:K r H):AP K d r H:=h
def qO(o:Option Bool)(A:Bool->Prop)(_:im A):Prop:=match o with
 |some b=>A b
 |none=>False
@[go_sem] def j0u(b:Bool)(A:Bool->Prop)(d:im A):qO (some b) A d=A b:=(rfl)
def oV(q:Bool)(A B:Prop)(_:im A)(_:im B):Prop:=if q=true then A else B
@[go_sem] def j6h:(∀(A B:Prop) (d:im A) (e:im B),oV true A B d e=A)/\(∀(A B:Prop) (d:im A) (e:im B),oV false A B d e=B)/\(∀{P:TO} {ops:Array Oper} {K:TA} (F:TE) (H:Hp),k7 P ops K [] F H=K F H):=by and_intros<;>(intros;rfl)
variable{P:TO}{ops:Array Oper}{K:TA}
@[go_sem] def j6A(dst:Option Tmp)(op:Op)(ty:TJ)(pos:String)(after:Array Edge)(rest:List Oper)(F:TE)(H:Hp) :
  k7 P ops K (⟨dst,op,ty,pos,after,none⟩::rest) F H=vc P (cn F) H ty (AP (fun r H'=>k7 P ops K rest (cL F dst r) H') .mk) op:=(rfl)
@[go_sem] def j4E(dst:Option Tmp)(op:Op)(ty:TJ)(pos:String)(after:Array Edge)(j:Nat)(want:Bool)(rest:List Oper)(F:TE)(H:Hp) :
  k7 P ops K (⟨dst,op,ty,pos,after,some (j,want)⟩::rest) F H=qO (lS ops F j want) (fun b=>oV (iY op || iH op) (eK P F H b (vM (fun r=>k7 P ops K rest (cL F dst r) H) .mk) op)
    ((b=true->vc P (cn F) H ty (AP (fun r H'=>k7 P ops K rest (cL F dst r) H') .mk) op)/\(b=false->k7 P ops K rest (cL F dst .any) H)) .mk .mk) .mk:=by
 unfold qO oV;rfl
@[go_sem] def j1A(a:Nat):((a:Int)+1).toNat=a+1:=jB
@[go_sem] def j1B(a b:Nat):((a:Int)-(b:Int)).toNat=a-b:=jB
@[go_sem] def j1C(a:Nat):((a:Int)-1).toNat=a-1:=jB
attribute [go_sem] Int.cast_ofNat_Int
def sH{n:Int}(h:-9223372036854775808<=n/\n<=9223372036854775807):IntKind.i64.wrap n=n:=by have h1:(2:Int) ^ 64=18446744073709551616:=jC;have h2:(2:Int) ^ (64-1)=9223372036854775808:=jC;simp only[IntKind.wrap,IntKind.bits,IntKind.signed,Bool.true_and,h1,h2,decide_eq_true_eq];split<;>omega
variable{fn:Func}{F:TE}
def QC{f:FuncId}{c:Code}{args:TE}(hf:P.funcs[f]?=some fn)(hb:fn.body=some c)(hF:args++List.replicate (fn.ntmps-args.length) .any=F)
  (h:dF P c (lu P fn fun r' l'=>r'=r/\l'=[]) F ⟨[],[]⟩):aB P f args r:=FV hf hb (by rw[hF];exact h)
variable{l:TD}{R:AV->List TQ->Prop}
def Md{f:FuncId}{c:Code}{args:TE}(hf:P.funcs[f]?=some fn)(hb:fn.body=some c)(hF:args++List.replicate (fn.ntmps-args.length) .any=F){L:TH}(hL:ids l=L)
  (h:dF P c (lu P fn R) F ⟨L,l⟩):ab P f args l R:=FV hf hb (by rw[hF];subst hL;exact h)
section
variable {P:TO}{ev:TK}{H:Hp}{ty:TJ}{K:TB}
@[go_sem] def j77(x:Operand):vc P ev H ty K (.move x)=K (ev x) H:=by simp[vc,dp,vq]
@[go_sem] def j4y(x:Operand):vc P ev H ty K (.assign x)=K (ev x) H:=by simp[vc,dp,vq]
@[go_sem] def j78(c a b:Operand):vc P ev H ty K (.pick c a b)=((nV (ev c) (ev a) (ev b)).1/\K (nV (ev c) (ev a) (ev b)).2 H):=by simp[vc,dp,vq]
@[go_sem] def j0D(x:Operand):vc P ev H ty K (.nilCheck x)=((qX P (ev x)).1/\K (qX P (ev x)).2 H):=by simp[vc,dp,vq]
@[go_sem] def j79(op:UnOp)(t:TJ)(x:Operand):vc P ev H ty K (.unOp op t x)=((sV op (ev x)).1/\K (sV op (ev x)).2 H):=by simp[vc,dp,vq]
@[go_sem] def j76(t:TJ)(x:Operand):vc P ev H ty K (.load t x)=((oY P H t (ev x)).1/\K (oY P H t (ev x)).2 H):=by simp[vc,dp,vq]
@[go_sem] def jxL(t:TJ)(x:Operand)(f:Nat):vc P ev H ty K (.fieldAddr t x f)=((sZ P t (ev x) f).1/\K (sZ P t (ev x) f).2 H):=by simp[vc,dp,vq]
@[go_sem] def j6u(t:TJ)(x:Operand)(f:Nat):vc P ev H ty K (.field t x f)=((uT P t (ev x) f).1/\K (uT P t (ev x) f).2 H):=by simp[vc,dp,vq]
@[go_sem] def jxM(t:TJ)(x i:Operand):vc P ev H ty K (.indexAddr t x i)=((sJ P t (ev x) (ev i)).1/\K (sJ P t (ev x) (ev i)).2 H):=by simp[vc,dp,vq]
@[go_sem] def j6v(t:TJ)(x i:Operand):vc P ev H ty K (.index t x i)=((sk P t (ev x) (ev i)).1/\K (sk P t (ev x) (ev i)).2 H):=by simp[vc,dp,vq]
@[go_sem] def j1I(x:Operand)(i:Nat):vc P ev H ty K (.extract x i)=((uM (ev x) i).1/\K (uM (ev x) i).2 H):=by simp[vc,dp,vq]
@[go_sem] def j6w(t:TJ)(a:Operand)(lo hi mx:Option Operand):vc P ev H ty K (.slice t a lo hi mx)=((sd P t (ev a) (lo.map ev) (hi.map ev) (mx.map ev)).1/\K (sd P t (ev a) (lo.map ev) (hi.map ev) (mx.map ev)).2 H):=by simp[vc,dp,vq]
@[go_sem] def j0C(fn:Fn)(a b:Array Operand):vc P ev H ty K (.makeFunc fn a b)=((vC fn (a.toList.map ev) (b.toList.map ev)).1/\K (vC fn (a.toList.map ev) (b.toList.map ev)).2 H):=by simp[vc,dp,vq]
@[go_sem] def jxN(t:TJ)(x:Operand):vc P ev H ty K (.makeInterface t x)=((vR P t (ev x)).1/\K (vR P t (ev x)).2 H):=by simp[vc,dp,vq]
@[go_sem] def j6s(t:TJ)(ps:Array (Nat×Operand)):vc P ev H ty K (.build t ps)=((uY P t (ps.toList.map fun p=>(p.1,ev p.2))).1/\K (uY P t (ps.toList.map fun p=>(p.1,ev p.2))).2 H):=by simp[vc,dp,vq]
@[go_sem] def qb4(as:Array Operand)(ts:Array TJ):vc P ev H ty K (.call ⟨.builtin .len,as,ts⟩)=((mf P H .len ts.toList (as.toList.map ev)).1/\K (mf P H .len ts.toList (as.toList.map ev)).2 H):=by simp[vc,dp,vq]
@[go_sem] def qb0(as:Array Operand)(ts:Array TJ):vc P ev H ty K (.call ⟨.builtin .cap,as,ts⟩)=((mf P H .cap ts.toList (as.toList.map ev)).1/\K (mf P H .cap ts.toList (as.toList.map ev)).2 H):=by simp[vc,dp,vq]
@[go_sem] def qb7(as:Array Operand)(ts:Array TJ):vc P ev H ty K (.call ⟨.builtin .max,as,ts⟩)=((mf P H .max ts.toList (as.toList.map ev)).1/\K (mf P H .max ts.toList (as.toList.map ev)).2 H):=by simp[vc,dp,vq]
@[go_sem] def qb8(as:Array Operand)(ts:Array TJ):vc P ev H ty K (.call ⟨.builtin .min,as,ts⟩)=((mf P H .min ts.toList (as.toList.map ev)).1/\K (mf P H .min ts.toList (as.toList.map ev)).2 H):=by simp[vc,dp,vq]
@[go_sem] def qbY(t:TJ)(x y:Operand)(t':TJ):vc P ev H ty K (.binOp .add t x y t')=((fC P .add t (ev x) (ev y)).1/\K (fC P .add t (ev x) (ev y)).2 H):=by simp[vc,dp,vq]
@[go_sem] def qcd(t:TJ)(x y:Operand)(t':TJ):vc P ev H ty K (.binOp .sub t x y t')=((fC P .sub t (ev x) (ev y)).1/\K (fC P .sub t (ev x) (ev y)).2 H):=by simp[vc,dp,vq]
@[go_sem] def qb9(t:TJ)(x y:Operand)(t':TJ):vc P ev H ty K (.binOp .mul t x y t')=((fC P .mul t (ev x) (ev y)).1/\K (fC P .mul t (ev x) (ev y)).2 H):=by simp[vc,dp,vq]
@[go_sem] def qcb(t:TJ)(x y:Operand)(t':TJ):vc P ev H ty K (.binOp .quo t x y t')=((fC P .quo t (ev x) (ev y)).1/\K (fC P .quo t (ev x) (ev y)).2 H):=by simp[vc,dp,vq]
@[go_sem] def qcc(t:TJ)(x y:Operand)(t':TJ):vc P ev H ty K (.binOp .rem t x y t')=((fC P .rem t (ev x) (ev y)).1/\K (fC P .rem t (ev x) (ev y)).2 H):=by simp[vc,dp,vq]
@[go_sem] def qb6(t:TJ)(x y:Operand)(t':TJ):vc P ev H ty K (.binOp .lss t x y t')=((fC P .lss t (ev x) (ev y)).1/\K (fC P .lss t (ev x) (ev y)).2 H):=by simp[vc,dp,vq]
@[go_sem] def qb5(t:TJ)(x y:Operand)(t':TJ):vc P ev H ty K (.binOp .leq t x y t')=((fC P .leq t (ev x) (ev y)).1/\K (fC P .leq t (ev x) (ev y)).2 H):=by simp[vc,dp,vq]
@[go_sem] def qb3(t:TJ)(x y:Operand)(t':TJ):vc P ev H ty K (.binOp .gtr t x y t')=((fC P .gtr t (ev x) (ev y)).1/\K (fC P .gtr t (ev x) (ev y)).2 H):=by simp[vc,dp,vq]
@[go_sem] def qb2(t:TJ)(x y:Operand)(t':TJ):vc P ev H ty K (.binOp .geq t x y t')=((fC P .geq t (ev x) (ev y)).1/\K (fC P .geq t (ev x) (ev y)).2 H):=by simp[vc,dp,vq]
@[go_sem] def qb1:(∀(t:TJ) (x y:Operand) (t':TJ),vc P ev H ty K (.binOp .eql t x y t')=qj P false t (ev x) (ev y) H K)/\(∀(t:TJ) (x y:Operand) (t':TJ),vc P ev H ty K (.binOp .neq t x y t')=qj P true t (ev x) (ev y) H K)/\(∀(t:TJ) (x:Operand),vc P ev H ty K (.box t x)=ry H t (ev x) K)/\(∀(t:TJ),vc P ev H ty K (.alloc t)=nM P H t K)/\(∀(t:TJ) (a x:Operand),vc P ev H ty K (.store t a x)=vz P H t (ev a) (ev x) K)/\(∀(t:TJ) (n:Nat) (ps:Array (Nat×Operand)),vc P ev H ty K (.buildSlice t n ps)=oy P H t n (ps.toList.map fun p=>(p.1,ev p.2)) K)/\(∀(f:Operand) (as:Array Operand) (ts:Array TJ),vc P ev H ty K (.call ⟨.value f,as,ts⟩)=fa P (ev f) (as.toList.map ev) H K)/\(∀(f:Operand) (m:String) (as:Array Operand) (ts:Array TJ),vc P ev H ty K (.call ⟨.invoke f m,as,ts⟩)=qe P (ev f) m (as.toList.map ev) H K):=by and_intros<;>(intros;rfl)
@[go_sem] def j0v(t:TJ)(v:AV)(m:String)(args:TE):qe P (.iG t v) m args H K=match oe P t m with|some f=>fa P (.raw (.func (.func f) #[] #[])) (v::args) H K|none=>False:=(rfl)
@[go_sem] def j4x(t:TJ)(a x:Operand):vc P ev H ty K (.call ⟨.builtin .append,#[a,x],#[t,t]⟩)=qx P t t (ev a) (ev x) H K:=by simp[vc]
@[go_sem] def j0B(t t':TJ)(a x:Operand):vc P ev H ty K (.call ⟨.builtin .append,#[a,x],#[t,t']⟩)=qx P t t' (ev a) (ev x) H K:=by simp[vc]
@[go_sem] def j75(as:Array Operand)(ts:Array TJ):vc P ev H ty K (.call ⟨.builtin .copy,as,ts⟩)=pU P .copy ts.toList (as.toList.map ev) H K:=by simp[vc,dp]
@[go_sem] def j6t(as:Array Operand)(ts:Array TJ):vc P ev H ty K (.call ⟨.builtin .clear,as,ts⟩)=pU P .clear ts.toList (as.toList.map ev) H K:=by simp[vc,dp]
end
section
variable {P:TO}{F:TE}{H:Hp}{g:Bool}{K:AV->Prop}
@[go_sem] def j8e(c a b:Operand):eK P F H g K (.pick c a b)=((g=true->(jh (cn F c)).1=true/\(nV (bM F c) (cn F a) (cn F b)).1)/\K (.gd g (nV (bM F c) (cn F a) (cn F b)).2)):=(rfl)
@[go_sem] def j0G(x:Operand):eK P F H g K (.nilCheck x)=((g=true->gp F (.nilCheck x)=true/\(qX P (bM F x)).1)/\K (.gd g (qX P (bM F x)).2)):=by simp[eK,iH,dp,vq]
@[go_sem] def j8f(op:UnOp)(t:TJ)(x:Operand):eK P F H g K (.unOp op t x)=((g=true->gp F (.unOp op t x)=true/\(sV op (bM F x)).1)/\K (.gd g (sV op (bM F x)).2)):=by simp[eK,iH,dp,vq]
@[go_sem] def j8c(t:TJ)(x:Operand):eK P F H g K (.load t x)=((g=true->gp F (.load t x)=true/\(oY P H t (bM F x)).1)/\K (.gd g (oY P H t (bM F x)).2)):=by simp[eK,iH,dp,vq]
@[go_sem] def jxO(t:TJ)(x:Operand)(f:Nat):eK P F H g K (.fieldAddr t x f)=((g=true->gp F (.fieldAddr t x f)=true/\(sZ P t (bM F x) f).1)/\K (.gd g (sZ P t (bM F x) f).2)):=by simp[eK,iH,dp,vq]
@[go_sem] def jxP(t:TJ)(x i:Operand):eK P F H g K (.indexAddr t x i)=((g=true->gp F (.indexAddr t x i)=true/\(sJ P t (bM F x) (bM F i)).1)/\K (.gd g (sJ P t (bM F x) (bM F i)).2)):=by simp[eK,iH,dp,vq]
@[go_sem] def j6B(t:TJ)(x i:Operand):eK P F H g K (.index t x i)=((g=true->gp F (.index t x i)=true/\(sk P t (bM F x) (bM F i)).1)/\K (.gd g (sk P t (bM F x) (bM F i)).2)):=by simp[eK,iH,dp,vq]
@[go_sem] def j6C(t:TJ)(a:Operand)(lo hi mx:Option Operand):eK P F H g K (.slice t a lo hi mx)=((g=true->gp F (.slice t a lo hi mx)=true/\(sd P t (bM F a) (lo.map (bM F)) (hi.map (bM F)) (mx.map (bM F))).1)/\K (.gd g (sd P t (bM F a) (lo.map (bM F)) (hi.map (bM F)) (mx.map (bM F))).2)):=by simp[eK,iH,dp,vq]
@[go_sem] def qci(as:Array Operand)(ts:Array TJ):eK P F H g K (.call ⟨.builtin .len,as,ts⟩)=((g=true->gp F (.call ⟨.builtin .len,as,ts⟩)=true/\(mf P H .len ts.toList (as.toList.map (bM F))).1)/\K (.gd g (mf P H .len ts.toList (as.toList.map (bM F))).2)):=by simp[eK,iH,dp,vq]
@[go_sem] def qce(t:TJ)(x y:Operand)(t':TJ):eK P F H g K (.binOp .add t x y t')=((g=true->gp F (.binOp .add t x y t')=true/\(fC P .add t (bM F x) (bM F y)).1)/\K (.gd g (fC P .add t (bM F x) (bM F y)).2)):=by simp[eK,iH,dp,vq]
@[go_sem] def qck(t:TJ)(x y:Operand)(t':TJ):eK P F H g K (.binOp .lss t x y t')=((g=true->gp F (.binOp .lss t x y t')=true/\(fC P .lss t (bM F x) (bM F y)).1)/\K (.gd g (fC P .lss t (bM F x) (bM F y)).2)):=by simp[eK,iH,dp,vq]
@[go_sem] def qcj(t:TJ)(x y:Operand)(t':TJ):eK P F H g K (.binOp .leq t x y t')=((g=true->gp F (.binOp .leq t x y t')=true/\(fC P .leq t (bM F x) (bM F y)).1)/\K (.gd g (fC P .leq t (bM F x) (bM F y)).2)):=by simp[eK,iH,dp,vq]
@[go_sem] def qch(t:TJ)(x y:Operand)(t':TJ):eK P F H g K (.binOp .gtr t x y t')=((g=true->gp F (.binOp .gtr t x y t')=true/\(fC P .gtr t (bM F x) (bM F y)).1)/\K (.gd g (fC P .gtr t (bM F x) (bM F y)).2)):=by simp[eK,iH,dp,vq]
@[go_sem] def qcg(t:TJ)(x y:Operand)(t':TJ):eK P F H g K (.binOp .geq t x y t')=((g=true->gp F (.binOp .geq t x y t')=true/\(fC P .geq t (bM F x) (bM F y)).1)/\K (.gd g (fC P .geq t (bM F x) (bM F y)).2)):=by simp[eK,iH,dp,vq]
@[go_sem] def j8d(x:Operand):eK P F H g K (.move x)=((g=true->gp F (.move x)=true)/\K (.gd g (bM F x))):=by simp[eK,iH,dp,vq]
@[go_sem] def qcf(t:TJ)(x y:Operand)(t':TJ):eK P F H g K (.binOp .eql t x y t')=((g=true->gp F (.binOp .eql t x y t')=true/\(fC P .eql t (bM F x) (bM F y)).1)/\K (.gd g (fC P .eql t (bM F x) (bM F y)).2)):=by simp[eK,iH,vq]
@[go_sem] def qcl(t:TJ)(x y:Operand)(t':TJ):eK P F H g K (.binOp .neq t x y t')=((g=true->gp F (.binOp .neq t x y t')=true/\(fC P .neq t (bM F x) (bM F y)).1)/\K (.gd g (fC P .neq t (bM F x) (bM F y)).2)):=by simp[eK,iH,vq]
@[go_sem] def j4F:(∀(f:Operand) (m:String) (as:Array Operand) (ts:Array TJ),eK P F H g K (.call ⟨.invoke f m,as,ts⟩)=∃r,(g=true->gp F (.call ⟨.invoke f m,as,ts⟩)=true/\qe P (bM F f) m (as.toList.map (bM F)) H fun r' H'=>r'=r/\H'=H)/\K (.gd g r))/\(∀(f:Operand) (as:Array Operand) (ts:Array TJ),eK P F H g K (.call ⟨.value f,as,ts⟩)=∃r,(g=true->gp F (.call ⟨.value f,as,ts⟩)=true/\fa P (bM F f) (as.toList.map (bM F)) H fun r' H'=>r'=r/\H'=H)/\K (.gd g r)):=by and_intros<;>(intros;rfl)
@[go_sem] def j6W:(∀(t:Tmp),cn F (.tmp t)=F.getD t .any)/\(∀(v:Value),cn F (.const v)=.raw v)/\(∀(f:FuncId),cn F (.func f)=.raw (.func (.func f) #[] #[]))/\(∀(d:Tmp) (a:AV),cL F (some d) a=F.set d a)/\(∀(a:AV),cL F none a=F):=by and_intros<;>(intros;rfl)
end
attribute [go_sem] bM gp jh lS iY iH dp nV qX yf yi wR fC sV oY pr sZ uT xZ sJ sk uM qU sd Dh vC vR zS tU zh xy mf rN uY vz qj oy kz
attribute [go_sem] cI Op.operands Call.operands wq
section
@[go_sem] def j2a:(∀(cs:TE),(AV.agg cs).cells=cs)/\(∀(k:IntKind) (n:Int),(AV.raw (.int k n)).cells=[.raw (.int k n)])/\(∀(s:TI),(AV.raw (.string s)).cells=[.raw (.string s)])/\(∀(a:Option Addr) (n c:Nat),(AV.raw (.slice a n c)).cells=[.raw (.slice a n c)])/\(∀(x:Bool) (sz:Nat) (css:TC) (d:TE),(AV.sl x sz css d).cells=[.sl x sz css d])/\(∀(i m k j:Nat),(AV.pt i m k j).cells=[.pt i m k j])/\(∀(i m k j:Nat),(AV.rs i m k j).cells=[.rs i m k j])/\(∀(k:IntKind) (n:Int),(AV.raw (.int k n)).one=true)/\(∀(s:TI),(AV.raw (.string s)).one=true)/\(∀(a:Option Addr) (n c:Nat),(AV.raw (.slice a n c)).one=true)/\(∀(x:Bool) (sz:Nat) (css:TC) (d:TE),(AV.sl x sz css d).one=true)/\(∀(i m k j:Nat),(AV.pt i m k j).one=true)/\(∀(i m k j:Nat),(AV.rs i m k j).one=true):=by and_intros<;>(intros;rfl)
end
attribute [go_sem] Hp.get Hp.put aA bh pH gx entry ids tQ AT yl room yW An l5
attribute [go_sem] AV.all aX eo AV.flat yz wL rK ra oC stay fv gV GX FM bu
@[go_sem] def j24(sz:Nat):Good sz []=True:=by simp[Ol]
@[go_sem] def j1l(sz:Nat)(cs:TE)(css:TC):Good sz (cs::css)=((cs.length=sz/\cI cs=true)/\Good sz css):=by simp[Good]
@[go_sem] def j23(enc:α->TE)(sz:Nat)[bC enc sz](l:List α):Good sz (l.map enc)=True:=by simp[SX]
@[go_sem] def j7O(q:TN):QL q []=True:=by simp[NZ]
@[go_sem] def j6c(q:TN)(cs:TE)(css:TC):QL q (cs::css)=(aX q cs=true/\QL q css):=by simp[QL]
@[go_sem] def j1y(q:TN)(a b:TC):QL q (a++b)=(QL q a/\QL q b):=by apply propext;exact⟨fun h=>⟨fun c hc=>h c (List.mem_append_left _ hc),fun c hc=>h c (List.mem_append_right _ hc)⟩,fun h=>QO h.1 h.2⟩
variable{sz:Nat}
@[go_sem] def j7N(q:TN)(enc:α->TE)[bC enc sz](l:List α):QL q (l.map enc)=True:=by simp[mY]
@[go_sem] def j21[Inhabited α](enc:α->TE)(l:List α)(k:Nat)(h:k<l.length):(l.map enc).getD k []=enc (nth l k):=by simp[nth,h]
@[go_sem] def j1k[Inhabited α](enc:α->TE)(l:List α)(k:Nat):(l.map enc).getD k (enc default)=enc (nth l k):=by unfold nth;rcases Nat.lt_or_ge k l.length with h|h<;>simp[h]
@[go_sem] def j3H(enc:α->TE)(l:List α)(k:Nat):(l.map enc).drop k=(l.drop k).map enc:=jE
@[go_sem] def j3I(enc:α->TE)(l:List α)(k:Nat):(l.map enc).take k=(l.take k).map enc:=jE
@[go_sem] def j4j(l:List α):l.take l.length=l:=jE
@[go_sem] def jzx{β:Type}(f:α->β)(l:List α):(l.map f).length=l.length:=jE
@[go_sem] def juq(a b:List α):(a++b).length=a.length+b.length:=jE
@[go_sem] def jzC{β:Type}(f:α->β)(a b:List α):(a++b).map f=a.map f++b.map f:=jE
@[go_sem] def ju3(i:Nat):([]:TH).contains i=false:=(rfl)
@[go_sem] def jum(i j:Nat)(l:TH):(j::l).contains i=(i == j || l.contains i):=List.contains_cons
@[go_sem] def jz7(e e':TJ)(sz sz':Nat)(a b:TC):(Row.aG e sz a=Row.aG e' sz' b)=(e=e'/\sz=sz'/\a=b):=jE
@[go_sem] def jz6(e e':TJ)(a b:TE):(Row.var e a=Row.var e' b)=(e=e'/\a=b):=jE
attribute [go_sem] List.getD_cons_zero List.getD_cons_succ List.getD_nil List.set_cons_zero List.set_cons_succ List.set_nil List.map_nil List.map_cons List.getElem?_cons_zero List.getElem?_cons_succ List.getElem?_nil List.getElem?_toArray List.all_nil List.all_cons List.append_nil List.nil_append List.cons_append List.length_cons List.length_nil List.take_succ_cons List.take_zero List.take_nil List.drop_succ_cons List.drop_zero List.drop_nil List.flatten_nil List.flatten_cons
def Q3(b:Bool):(b == true)=b:=by cases b<;>rfl
def KK(b:Bool):(b == false)=!b:=by cases b<;>rfl
attribute [go_sem] if_true if_false true_and and_true false_and and_false Option.map_some Option.map_none Option.getD_some Option.getD_none Option.bind_some Option.bind_none Option.isSome_some Option.isNone_some Option.isNone_none Option.some.injEq Bool.and_true Bool.true_and Bool.and_self Bool.not_true Bool.not_false Q3 KK Bool.false_eq_true Bool.true_eq_false reduceCtorEq imp_self implies_true forall_const or_true true_or or_self or_false false_or not_true_eq_false not_false_eq_true eq_self ne_eq and_self List.foldl_cons List.foldl_nil Bool.not_eq_true' Bool.or_true Bool.or_false Bool.true_or Bool.false_or decide_true decide_false Nat.zero_add Nat.add_zero Nat.le_refl Int.toNat_natCast
@[go_sem] def j0S(c x:Bool):xA c x false=(c && x):=by cases c<;>rfl
@[go_sem] def j19(c y:Bool):xA c true y=(c || y):=by cases c<;>rfl
@[go_sem] def j1P(b:Bool):(false ^^ b)=b:=by cases b<;>rfl
@[go_sem] def j4M(b:Bool):(true ^^ b)=!b:=by cases b<;>rfl
@[go_sem] def juk(id id':Nat)(Q:Exit->TA)(F:TE)(H:Hp):sL id Q (.exit id') F H=if id'=id then Q .normal F H else Q (.exit id') F H:=(rfl)
def mC(J:List (Nat×AV))(F:TE):TE:=J.foldl (fun F p=>F.set p.1 p.2) F
attribute [go_sem] mC nj Hu List.replicate_succ List.replicate_zero
def Next(n:Nat){S:Type}(W:List (Nat×Nat))(ok:S->Prop)(J:S->List (Nat×AV))(G:S->Hp)(μ:S->Nat)(F₀ F:TE)(H:Hp):Prop:=∃s,μ s<n/\dL F H (mC (J s) (nj W F₀)) (G s)/\ok s
variable{n:Nat}{W:List (Nat×Nat)}{F₀:TE}
def eu{S:Type}{ok:S->Prop}{J:S->List (Nat×AV)}{G:S->Hp}{μ:S->Nat}(s:S)(h1:ok s)(h2:μ s<n)(h4:H=G s)(h3:lb F (mC (J s) (nj W F₀))):Next n W ok J G μ F₀ F H:=⟨s,h2,by rw[<-h4];exact dL.pt H h3,h1⟩
def FY{S:Type}{ok:S->Prop}{J:S->List (Nat×AV)}{G:S->Hp}{μ:S->Nat}(D:TN)(s:S)(h1:ok s)(h2:μ s<n)(hB:H.B.all (gV D)=true)(hl:stay D H.l)(h4:⟨H.B,fv D H.l⟩=G s)(h3:bu D H F (mC (J s) (nj W F₀))):Next n W ok J G μ F₀ F H:=⟨s,h2,by rw[<-h4];exact dL.free D hB hl h3,h1⟩
def dV{c:Code}{Q:Exit->TA}{S:Type}(W:List (Nat×Nat))(ok:S->Prop)(J:S->List (Nat×AV))(G:S->Hp)(μ:S->Nat)(s₀:S)(h0:ok s₀)(T3:dL F H (mC (J s₀) (nj W F)) (G s₀))
  (round:∀s,ok s->∀K:TA,(∀F' H',Next (μ s) W ok J G μ F F' H'->K F' H')->dF P c (uv K Q) (mC (J s) (nj W F)) (G s)):dF P (.loop c) Q F H:=by
 refine OC (S:=S) (fun s F' H'=>F'=mC (J s) (nj W F)/\H'=G s/\ok s) μ s₀ T3 ⟨rfl,rfl,h0⟩ ?_;rintro s F' H' ⟨rfl,rfl,hok⟩;refine round s hok _ ?_;rintro F'' UC ⟨s',h1,h2,h3⟩;exact⟨s',_,_,h1,h2,rfl,rfl,h3⟩
def dS{F':TE}{H':Hp}(h1:H=H')(h2:lb F F'):dL F H F' H':=by rw[<-h1];exact dL.pt H h2
variable{out:TE}
def uP{e:Exit}(he:e=.normal\/e=.ret)(ho:jo P H F fn.results.toList=some out)(hok:km P H F fn.results.toList)(r:AV)(H':Hp)(T3:iB (kG out) H r H')(hR:R r H'.l):lu P fn R e F H:=by rcases he with rfl|rfl<;>exact⟨out,r,H',ho,hok,T3,hR⟩
variable{t:TJ}{K:TB}{zs:TM}
def xR(i:Nat)(hz:dN P t=some zs)(hi:H.get i=none)(h:K (.pt i 0 0 0) (H.put i (.var t (zs.map .raw)))):nM P H t K:=by unfold nM;rw[hz];exact⟨i,hi,h⟩
def yX{x:AV}(i:Nat)(ho:cI x.cells=true)(hi:H.get i=none)(h:K (.pt i 0 0 0) (H.put i (.var t x.cells))):ry H t x K:=⟨ho,i,hi,h⟩
def zf:List TQ->Nat->Nat
 |[],m=>m
 |(i,_)::l,m=>zf l (if m<=i then i+1 else m)
def nx(l:TD):Nat:=zf l 0
theorem Dc:∀(l:TD) (m i:Nat),zf l m<=i->aA l i=none/\m<=i
 |[],m,i,h=>⟨rfl,h⟩
 |(j,r)::l,m,i,h=>by
  obtain⟨h1,h2⟩:=Dc l _ i h;simp only[aA];split at h2
  ·rw[jN];exact⟨h1,jB⟩
  ·rw[jN];exact⟨h1,h2⟩
def yc(l:TD)(i:Nat)(h:nx l<=i):aA l i=none:=(Dc l 0 i h).1
attribute [go_sem] zf
attribute [go_sem] nx
@[go_sem] def jzP:((none:Option Operand).toArray.toList=[])/\(∀(x:Operand),(some x).toArray.toList=[x]):=by and_intros<;>(intros;rfl)
def Kz{A:Nat->Prop}{d:im A}(h:A (nx H.l)):u5 H A d:=⟨_,yc _ _ jl,h⟩
def Oo(hz:dN P t=some zs)(h:K (.pt (nx H.l) 0 0 0) (H.put (nx H.l) (.var t (zs.map .raw)))):nM P H t K:=xR _ hz (yc _ _ jl) h
def Q4{x:AV}(ho:cI x.cells=true)(h:K (.pt (nx H.l) 0 0 0) (H.put (nx H.l) (.var t x.cells))):ry H t x K:=yX _ ho (yc _ _ jl) h
variable{css:TC}
def KW{e:TJ}(h1:aX eo css.flatten=true)(h2:K (.sl true sz css []) H):sO e sz css H K:=.inl ⟨h1,h2⟩
def Fq{e:TJ}(i:Nat)(h0:0<sz)(hi:H.get i=none)(h2:K (.rs i css.length sz css.length) (H.put i (.aG e sz css))):sO e sz css H K:=.inr ⟨h0,i,hi,h2⟩
def Ll{e:TJ}(h0:0<sz)(h2:K (.rs (nx H.l) css.length sz css.length) (H.put (nx H.l) (.aG e sz css))):sO e sz css H K:=Fq _ h0 (yc _ _ jl) h2
def QS{e:TJ}(h0:0<sz)(h2:K (.rs (nx H.l) 0 sz 0) (H.put (nx H.l) (.aG e sz []))):sO e sz [] H K:=Ll h0 h2
def gF(a a':AV):Prop:=∀(w:NW) v,ax w a v->ax w a' v
def gF.refl(a:AV):gF a a:=fun _ _ h=>h
theorem gF.sl{x:Bool}{sz:Nat}{css:TC}{d d':TE}:gF (.sl x sz css d) (.sl false sz css d'):=fun w v hr=>by
 cases hr with
 |gu _ _ A c _=>exact .gu _ _ _ _ (fun e=>by cases e)
 |sl _ _ _ a c vs hn hc hx TU hb hH D' hr=>exact .sl _ _ _ a c vs hn hc (fun e=>by cases e) TU hb hH D' hr
def gF.nil{d:TE}:gF (.raw (.slice none 0 0)) (.sl false sz [] d):=fun w v hr=>by have:=dc hr;subst this;exact .gu _ _ _ _ (fun e=>by cases e)
def pJ:TE->TE->Prop
 |[],[]=>True
 |a::l,b::m=>gF a b/\pJ l m
 |_,_=>False
theorem pJ.get:∀{l m:TE},pJ l m->l.length=m.length/\∀(i:Nat) a b,l[i]?=some a->m[i]?=some b->gF a b
 |[],[],_=>⟨rfl,fun i a b h=>by simp at h⟩
 |x::l,y::m,h=>by
  have ih:=pJ.get h.2;refine⟨by simp[ih.1],fun i a b ha hb=>?_⟩;cases i with
  |zero=>simp at ha hb;subst ha hb;exact h.1
  |succ i=>exact ih.2 i a b (by simpa using ha) (by simpa using hb)
attribute [go_sem] kG
@[go_sem] def j1j(l:TE)(n m:Nat):(l.drop n).getD m .any=l.getD (n+m) .any:=by simp[List.getD_eq_getElem?_getD]
attribute [go_sem] List.drop_drop List.length_drop Array.toList_append
def SU{e:Exit}(he:e=.normal\/e=.ret)(ho:jo P H F fn.results.toList=some out)(hok:km P H F fn.results.toList)(h1:kG out=r)(h2:H.l=l):lu P fn (fun r' l'=>r'=r/\l'=l) e F H:=
 uP he ho hok r H (iB.of_eq H h1) ⟨rfl,h2⟩
def DG{e:Exit}(D:TN)(he:e=.normal\/e=.ret)(ho:jo P H F fn.results.toList=some out)(hok:km P H F fn.results.toList)(hB:H.B.all (gV D)=true)(hl:stay D H.l)(hv:cW D H (kG out) r)(h2:fv D H.l=l):lu P fn (fun r' l'=>r'=r/\l'=l) e F H:=
 uP he ho hok r _ (iB.free D hB hl hv) ⟨rfl,h2⟩
def yr{D:TN}{a a':AV}(h:a=a')(hq:a.all (gV D)=true):cW D H a a':=by subst h;exact .same _ hq
def mD(B:TH):TN:=fun i=>!(B.contains i)
def LA{e:Exit}(he:e=.normal\/e=.ret)(ho:jo P H F fn.results.toList=some out)(hok:km P H F fn.results.toList)(hl:stay (mD H.B) H.l)(hv:cW (mD H.B) H (kG out) r)(h2:fv (mD H.B) H.l=l):lu P fn (fun r' l'=>r'=r/\l'=l) e F H:=
 DG (mD H.B) he ho hok (by rw[List.all_eq_true];intro x hx;simp[gV,mD,hx]) hl hv h2
attribute [go_sem] jo km
def Dp{e:Exit}(rs:List ResultVar)(V5:fn.results.toList=rs)(he:e=.normal\/e=.ret)(ho:jo P H F rs=some out)(hok:km P H F rs)(hl:stay (mD H.B) H.l)(hv:cW (mD H.B) H (kG out) r)(h2:fv (mD H.B) H.l=l):lu P fn (fun r' l'=>r'=r/\l'=l) e F H:=by subst V5;exact LA he ho hok hl hv h2
def Q9{e:Exit}(rs:List ResultVar)(V5:fn.results.toList=rs)(he:e=.normal\/e=.ret)(ho:jo P H F rs=some out)(hok:km P H F rs)(h1:kG out=r)(h2:H.l=l):lu P fn (fun r' l'=>r'=r/\l'=l) e F H:=by subst V5;exact SU he ho hok h1 h2
attribute [go_sem] mD cond_true cond_false uk
def mV{S:Type}{ok:S->Prop}{J:S->List (Nat×AV)}{G:S->Hp}{μ:S->Nat}(L:TH)(s:S)(h1:ok s)(h2:μ s<n)(hB:H.B.all (gV fun i=>L.contains i)=true)(hl:stay (fun i=>L.contains i) H.l)(h4:⟨H.B,fv (fun i=>L.contains i) H.l⟩=G s)(h3:bu (fun i=>L.contains i) H F (mC (J s) (nj W F₀))):Next n W ok J G μ F₀ F H:=FY _ s h1 h2 hB hl h4 h3
def Ts{D:TN}(a:AV):cW D H a .any:=.drop a
@[go_sem] def j0s(i:Nat)(e:TJ)(m sz:Nat)(css ys:TC)(H:Hp)(K:TB):tL i e m sz m css ys H K=K (.rs i (m+ys.length) sz (m+ys.length)) (H.put i (.aG e sz (css++ys))):=if_pos rfl
def Rw{enc:α->TE}(vars more ys:List α){e:TJ}{m:Nat}{yss:TC}(hm:m=vars.length+more.length)(hn:n=vars.length)(hc:css=(vars++more).map enc)(hy:yss=ys.map enc)
  (h:K (.rs i (vars.length+ys.length+(more.drop ys.length).length) sz (vars.length+ys.length)) (H.put i (.aG e sz ((vars++ys++more.drop ys.length).map enc)))):tL i e m sz n css yss H K:=by
 subst hm hn hc hy;unfold tL;split
 ·rename_i h';have:more=[]:=List.length_eq_zero_iff.1 jB;subst this;simpa using h
 ·have e1:max (vars.length+more.length) (vars.length+(ys.map enc).length)=vars.length+ys.length+(more.drop ys.length).length:=by simp;omega
  have e2:du ((vars++more).map enc) vars.length (ys.map enc)=(vars++ys++more.drop ys.length).map enc:=by
   unfold du;rw[<-List.map_take,List.take_left',<-List.map_drop,List.length_map,List.drop_append,List.drop_eq_nil_of_le jB,List.nil_append]
   ·simp
   ·rfl
  rw[e1,e2];simpa using h
def IY{b c:Bool}(h:b=c):AV.raw (.bool b)=AV.raw (.bool c):=by rw[h]
def RG{k:IntKind}{b c:Int}(h:b=c):AV.raw (.int k b)=AV.raw (.int k c):=by rw[h]
section
variable {P:TO}{ops:Array Oper}{H:Hp}
def xk(ops:Array Oper)(o:Oper)(F G:TE):Prop:=(∀x∈o.op.operands.toList,cn G x=cn F x)/\∀j b,o.guard=some (j,b)->lS ops G j b=lS ops F j b
def QV(P:TO)(ops:Array Oper)(o:Oper)(F:TE)(H:Hp)(r:AV):Prop:=∀G,xk ops o F G->mM P ops o G H fun F' H'=>F'=cL G o.dst r/\H'=H
variable{K:TB}
def xX{f:AV}{args:TE}{K':TB}(h:fa P f args H K)(hk:∀r H,K r H->K' r H):fa P f args H K':=by
 unfold fa at*;split at h
 ·rcases h with h|h
  ·exact .inl ⟨h.1,h.2.mono hk⟩
  ·exact .inr fun w vs h1 h2=>by obtain⟨v,w',r,H',e,k,g⟩:=h w vs h1 h2;exact⟨v,w',r,H',e,hk _ _ k,g⟩
 ·exact h.elim
def o9(P:TO)(t:TJ)(n:Nat)(parts:List (Nat×AV))(K:AV->Prop):Prop:=match ik P t with
 |some e=>match cZ P e with
  |some sz=>((parts.length=n/\wq sz 0 parts/\n*sz<=16777216/\(n*sz=0\/(dN P e).isSome=true))/\aX eo (l5 parts).flatten=true)/\K (.sl true sz (l5 parts) [])
  |none=>False
 |none=>False
variable{t:TJ}{n:Nat}{parts:List (Nat×AV)}
def Tj(h:o9 P t n parts fun r=>K r H):oy P H t n parts K:=by
 unfold o9 at h;unfold oy;split at h
 ·rename_i e he;split at h
  ·rename_i sz hs;try simp only[he,hs]
   exact⟨h.1.1,.inl ⟨h.1.2,h.2⟩⟩
  ·exact h.elim
 ·exact h.elim
variable{K:AV->Prop}
def Cw(h:o9 P t n parts K):∃r,K r/\∀K':AV->Prop,K' r->o9 P t n parts K':=by
 unfold o9 at h;split at h
 ·rename_i e he;split at h
  ·rename_i sz hs;exact⟨_,h.2,fun K' hk=>by unfold o9;rw[he];simp only[hs];exact⟨h.1,hk⟩⟩
  ·exact h.elim
 ·exact h.elim
def oK:Op->Bool
 |.binOp .eql ..=>true
 |.binOp .neq ..=>true
 |_=>false
variable{o:Oper}{F:TE}
def Mb{K:TA}(hg:o.guard=none)(hq:(vq P (cn F) H o.op).1)(hk:K (cL F o.dst (vq P (cn F) H o.op).2) H):mM P ops o F H K:=
 JN hg (RK (K:=fun r H'=>K (cL F o.dst r) H') hq hk)
def vQ(hg:o.guard=none)(hq:(vq P (cn F) H o.op).1):QV P ops o F H (vq P (cn F) H o.op).2:=fun G hG=>by have e:vq P (cn G) H o.op=vq P (cn F) H o.op:=ut _ hG.1;exact Mb hg (by rw[e];exact hq) ⟨by rw[e],rfl⟩
variable{dst:Option Tmp}{after:Array Edge}
def DK{f:Operand}{args:Array Operand}{ts:Array TJ}{ty:TJ}{pos:String}{r:AV}(h:fa P (cn F f) (args.toList.map (cn F)) H fun r' H'=>r'=r/\H'=H) :
  QV P ops ⟨dst,.call ⟨.value f,args,ts⟩,ty,pos,after,none⟩ F H r:=fun G hG=>by
 refine qc (K:=fun F' H'=>F'=cL G dst r/\H'=H) rfl ?_;show fa P (cn G f) (args.toList.map (cn G)) H _;rw[hG.1 f (by simp[Op.operands,Call.operands]),List.map_congr_left (g:=cn F) (fun x hx=>hG.1 x (by simp[Op.operands,Call.operands]at hx ⊢;exact .inr hx))];exact xX h fun r' H' ⟨e1,e2⟩=>⟨by rw[e1],e2⟩
def Ac{parts:Array (Nat×Operand)}{ty:TJ}{pos:String}{r:AV}(h:o9 P t n (parts.toList.map fun p=>(p.1,cn F p.2)) fun r'=>r'=r) :
  QV P ops ⟨dst,.buildSlice t n parts,ty,pos,after,none⟩ F H r:=fun G hG=>by
 refine qc (K:=fun F' H'=>F'=cL G dst r/\H'=H) rfl ?_;show oy P H t n (parts.toList.map fun p=>(p.1,cn G p.2)) (fun r_1 H'=>cL G dst r_1=cL G dst r/\H'=H);rw[List.map_congr_left (g:=fun p=>(p.1,cn F p.2)) (fun x hx=>by rw[hG.1 x.2 (by simp[Op.operands]at hx ⊢;exact⟨_,hx⟩)])];refine Tj ?_;obtain⟨r',e,hk⟩:=Cw h;subst e;exact hk _ ⟨rfl,rfl⟩
variable{G:TE}
def Cf(o:Op)(h:∀x∈o.operands.toList,cn G x=cn F x):gp G o=gp F o:=by unfold gp;rw[Bool.eq_iff_iff,List.all_eq_true,List.all_eq_true];constructor<;>intro hh x hx<;>have:=hh x hx<;>rw[h x hx]at*<;>exact this
def xl:Op->Bool
 |.pick ..=>true
 |.call { callee:=.invoke ..,.. }=>true
 |_=>false
def zj{g:Bool}(o:Op)(h:iY o=false)(hp:xl o=false):eK P F H g K o=if iH o then(g=true->gp F o=true/\(vq P (bM F) H o).1)/\K (.gd g (vq P (bM F) H o).2)else False:=by
 cases o
 case call c=>
  obtain⟨callee,args,ts⟩:=c;cases callee
  case value f=>cases h
  case invoke f m=>cases hp
  all_goals rfl
 case pick=>cases hp
 all_goals rfl
def C5{g:Bool}{o:Op}(h:eK P F H g K o):∃r,K (.gd g r)/\∀(G:TE) (K':AV->Prop),(∀x∈o.operands.toList,cn G x=cn F x)->K' (.gd g r)->eK P G H g K' o:=by
 cases hc:iY o with
 |false=>
  by_cases hp:xl o=true
  ·cases o<;>try cases hp
   case call c=>
    obtain⟨callee,args,ts⟩:=c;cases callee<;>try cases hp
    rename_i f m;obtain⟨r,h1,h2⟩:=h;refine⟨r,h2,fun G K' hG hk=>⟨r,fun hg=>⟨Cf _ hG ▸ (h1 hg).1,?_⟩,hk⟩⟩;have he:∀x∈(Op.call ⟨.invoke f m,args,ts⟩).operands.toList,bM G x=bM F x:=fun x hx=>by unfold bM;rw[hG x hx]
    rw[he f (by simp[Op.operands,Call.operands]),List.map_congr_left (g:=bM F) (fun x hx=>he x (by simp[Op.operands,Call.operands]at hx ⊢;exact .inr hx))];exact(h1 hg).2
   rename_i c a b;refine⟨_,h.2,fun G K' hG hk=>?_⟩;have he:∀x∈(Op.pick c a b).operands.toList,bM G x=bM F x:=fun x hx=>by unfold bM;rw[hG x hx]
   show(g=true->(jh (cn G c)).1=true/\(nV (bM G c) (cn G a) (cn G b)).1)/\K' (.gd g (nV (bM G c) (cn G a) (cn G b)).2);rw[hG c (by simp[Op.operands]),hG a (by simp[Op.operands]),hG b (by simp[Op.operands]),he c (by simp[Op.operands])];exact⟨h.1,hk⟩
  have hp:xl o=false:=by simpa using hp
  rw[zj o hc hp]at h;split at h
  ·rename_i hq;refine⟨_,h.2,fun G K' hG hk=>?_⟩;have he:∀x∈o.operands.toList,bM G x=bM F x:=fun x hx=>by unfold bM;rw[hG x hx]
   rw[zj o hc hp,if_pos hq,ut _ he,Cf o hG];exact⟨h.1,hk⟩
  ·exact h.elim
 |true=>
  cases o<;>try cases hc
  rename_i c;obtain⟨callee,args,ts⟩:=c;cases callee<;>try cases hc
  rename_i f;obtain⟨r,h1,h2⟩:=h;refine⟨r,h2,fun G K' hG hk=>⟨r,fun hg=>⟨Cf _ hG ▸ (h1 hg).1,?_⟩,hk⟩⟩;have he:∀x∈(Op.call ⟨.value f,args,ts⟩).operands.toList,bM G x=bM F x:=fun x hx=>by unfold bM;rw[hG x hx]
  rw[he f (by simp[Op.operands,Call.operands]),List.map_congr_left (g:=bM F) (fun x hx=>he x (by simp[Op.operands,Call.operands]at hx ⊢;exact .inr hx))];exact(h1 hg).2
def Bi{j:Nat}{want b:Bool}{r:AV}(hg:o.guard=some (j,want))(hb:lS ops F j want=some b)(hq:(iY o.op || iH o.op)=true)(h:eK P F H b (fun r'=>r'=r) o.op):QV P ops o F H r:=fun G hG=>by
 have hv:k7 P ops (fun F' H'=>F'=cL G o.dst r/\H'=H) [o] G H:=by simp only[k7,hg,hG.2 j want hg,hb,hq,if_true];obtain⟨r',h1,h2⟩:=C5 h;exact h2 G _ hG.1 ⟨by rw[h1],trivial⟩
 have hs:=wG [o] G H hv;intro w tm Q next h1 h2 hn;have:=hs w tm (fun e a w=>match e with|.normal=>next a w|e=>Q e a w) h1 h2 hn;simp only[wpList]at this;unfold th;split
 ·rename_i hw;rw[if_pos hw]at this;rcases this with h|⟨ha,hl⟩
  ·refine .inl ?_;unfold Oper.wp at*;generalize (execOp (Act.mk tm []).eval o).run P w=res at*;cases res with
   |ok n w'=>
    cases n<;>simp only[Oper.upon]at h ⊢
    case enter f args=>exact Calls.mono h fun e w'' he=>by cases e<;>exact he
    all_goals exact h
   |halt x w'=>cases x<;>simp only[Oper.upon]at h ⊢;exact h
  ·exact .inr ⟨ha,hl⟩
 ·rename_i hw;rw[if_neg hw]at this;exact this
def pY(P:TO)(ops:Array Oper)(H:Hp)(K:TE->Prop):List Oper->TE->Prop
 |[],F=>K F
 |o::rest,F=>match o.guard with
  |none=>match o.op with
   |.call { callee:=.value f,args,.. }=>∃r,(fa P (cn F f) (args.toList.map (cn F)) H fun r' H'=>r'=r/\H'=H)/\pY P ops H K rest (cL F o.dst r)
   |.buildSlice t n parts=>o9 P t n (parts.toList.map fun p=>(p.1,cn F p.2)) fun r=>pY P ops H K rest (cL F o.dst r)
   |op=>(vq P (cn F) H op).1/\pY P ops H K rest (cL F o.dst (vq P (cn F) H op).2)
  |some (j,want)=>match lS ops F j want with
   |some b=>(iY o.op || iH o.op)=true/\eK P F H b (fun r=>pY P ops H K rest (cL F o.dst r)) o.op
   |none=>False
def yn(P:TO)(ops:Array Oper)(H:Hp)(K:TE->Prop):List Oper->TE->TE->Prop
 |[],F,rs=>rs=[]/\K F
 |o::rest,F,rs=>∃r UH,rs=r::UH/\QV P ops o F H r/\yn P ops H K rest (cL F o.dst r) UH
theorem D6{K:TE->Prop}:∀(l:List Oper) (F:TE),pY P ops H K l F->∃rs,yn P ops H K l F rs
 |[],F,h=>⟨[],rfl,h⟩
 |o::rest,F,h=>by
  have mk:∀r,QV P ops o F H r->pY P ops H K rest (cL F o.dst r)->∃rs,yn P ops H K (o::rest) F rs:=fun r h1 h2=>by obtain⟨rs,h3⟩:=D6 rest _ h2;exact⟨r::rs,r,rs,rfl,h1,h3⟩
  obtain⟨dst,op,ty,pos,after,guard⟩:=o;cases guard with
  |none=>
   unfold pY at h;simp only at h;split at h
   ·obtain⟨r,h1,h2⟩:=h;exact mk r (DK h1) h2
   ·rename_i t n parts;obtain⟨r,h1,h2⟩:=Cw h;exact mk r (Ac (h2 _ rfl)) h1
   ·exact mk _ (vQ rfl h.1) h.2
  |some g=>
   obtain⟨j,want⟩:=g;unfold pY at h;simp only at h;split at h
   ·rename_i b hb;obtain⟨hq,hv⟩:=h;obtain⟨r,h1,h2⟩:=C5 hv;exact mk _ (Bi rfl hb hq (r:=.gd b r) (h2 F _ (fun _ _=>rfl) rfl)) h1
   ·exact h.elim
-- the order
def FL(os:List Oper)(rs:TE)(L:TN)(F:TE):Nat->TE
 |0=>F
 |m+1=>if L m then cL (FL os rs L F m) ((os[m]?).bind (·.dst)) (rs.getD m .any)else FL os rs L F m
def ll(os:List Oper)(rs:TE)(L:TN)(F:TE)(s:Nat):Nat->AV
 |0=>F.getD s .any
 |m+1=>if L m=true/\(os[m]?).bind (·.dst)=some s then rs.getD m .any else ll os rs L F s m
theorem lj(os:List Oper)(rs:TE)(L:TN)(F:TE):∀m,(FL os rs L F m).length=F.length
 |0=>rfl
 |m+1=>by
  unfold FL;split
  ·rw[<-lj os rs L F m];cases(os[m]?).bind (·.dst)<;>simp[cL]
  ·exact lj os rs L F m
theorem sF(os:List Oper)(rs:TE)(L:TN)(F:TE){s:Nat}(hs:s<F.length):∀m,(FL os rs L F m).getD s .any=ll os rs L F s m
 |0=>rfl
 |m+1=>by
  have ih:=sF os rs L F hs m;have hl:=lj os rs L F m;unfold FL ll;cases hd:(os[m]?).bind (·.dst)with
  |none=>
   have TS:¬(L m=true/\(none:Option Tmp)=some s):=fun h=>by have:=h.2;cases this
   rw[if_neg TS];cases hL:L m
   ·exact ih
   ·exact ih
  |some d=>
   cases hL:L m
   ·simpa using ih
   ·simp only[if_true,cL,true_and,Option.some.injEq];by_cases e:d=s
    ·subst e;simp[hl,hs]
    ·rw[if_neg e];have:(List.set (FL os rs L F m) d (rs.getD m .any)).getD s .any=(FL os rs L F m).getD s .any:=by simp[List.getElem?_set,e]
     rw[this,ih]
variable{os:List Oper}
def Eu{rs:TE}{L L':TN}{m m':Nat}(hG:G.length=F.length)(h:∀s,s<F.length->G.getD s .any=ll os rs L F s m):G=FL os rs L F m:=by
 refine List.ext_getElem? fun s=>?_
 rcases Nat.lt_or_ge s F.length with hs|hs
 ·have h1:=h s hs;rw[<-sF os rs L F hs m]at h1;have h2:G[s]?=some (G.getD s .any):=by simp[hG,hs]
  have h3:(FL os rs L F m)[s]?=some ((FL os rs L F m).getD s .any):=by simp[lj,hs]
  rw[h2,h3,h1]
 ·rw[List.getElem?_eq_none jB,List.getElem?_eq_none (by rw[lj];omega)]
def looks(os:List Oper)(o:Oper):TH:=
 (o.op.operands.toList.filterMap fun|.tmp t=>some t|_=>none)++
 (match o.guard with
   |some (g,_)=>((os[g]?).bind (·.dst)).toList
   |none=>[])
def qm:TH->TH
 |[]=>[]
 |x::l=>if(qm l).contains x then qm l else x::qm l
theorem CL{x:Nat}:∀{l:TH},x∈qm l<->x∈l
 |[]=>Iff.rfl
 |y::l=>by
  have ih:x∈qm l<->x∈l:=CL;unfold qm;split
  ·rename_i h;rw[ih,List.mem_cons];refine⟨.inr,fun h'=>h'.elim (fun e=>?_) id⟩;subst e;exact ih.1 (List.contains_iff_mem.1 h)
  ·rw[List.mem_cons,List.mem_cons,ih]
def nC(U7:List TH)(o:Oper):List TH:=U7++[qm ((o.after.toList.filter (Region.binds .any)).flatMap fun e=>e.on::U7.getD e.on [])]
def kD(os:List Oper):List TH:=os.foldl nC []
def uz(os:List Oper)(a b:Oper):Bool:=
 (match a.dst with
   |some d=>(looks os b).contains d || b.dst == some d
   |none=>false) ||
 (match b.dst with
   |some d=>(looks os a).contains d
   |none=>false)
def uA(os:List Oper):Bool:=
 let ps:=kD os
 (List.range os.length).all fun j=>match os[j]? with
  |some b=>(b.after.toList.all fun e=>!Region.binds .any e || decide (e.on<j)) &&
   (List.range j).all fun i=>match os[i]? with
    |some a=>!uz os a b || (ps.getD j []).contains i
    |none=>true
  |none=>true
theorem Aj:∀(os:List Oper) (U7:List TH) (j:Nat),j<U7.length->(os.foldl nC U7)[j]?=U7[j]?
 |[],U7,j,_=>rfl
 |o::os,U7,j,h=>by simp only[List.foldl_cons];rw[Aj os _ j (by simp[nC];omega)];unfold nC;rw[List.getElem?_append_left h]
theorem Fo:∀(os:List Oper) (U7:List TH) (j:Nat) (o:Oper),os[j]?=some o->(os.foldl nC U7).getD (U7.length+j) []=qm ((o.after.toList.filter (Region.binds .any)).flatMap fun e=>e.on::(if e.on<U7.length+j then(os.foldl nC U7).getD e.on []else[]))
 |[],U7,j,o,h=>by simp at h
 |o'::os,U7,0,o,h=>by
  simp only[List.getElem?_cons_zero,Option.some.injEq]at h;subst h;simp only[List.foldl_cons,Nat.add_zero];have h1:(os.foldl nC (nC U7 o')).getD U7.length []=qm ((o'.after.toList.filter (Region.binds .any)).flatMap fun e=>e.on::U7.getD e.on []):=by rw[List.getD_eq_getElem?_getD,Aj os _ _ (by simp[nC])];unfold nC;rw[List.getElem?_append_right jl];simp
  rw[h1];congr 2
  funext e
  congr 1
  split
  ·rename_i O';rw[List.getD_eq_getElem?_getD,List.getD_eq_getElem?_getD,Aj os _ _ (by simp[nC];omega)];unfold nC;rw[List.getElem?_append_left O']
  ·rename_i hge;rw[List.getD_eq_getElem?_getD,List.getElem?_eq_none jB];rfl
 |o'::os,U7,j+1,o,h=>by
  simp only[List.foldl_cons];have:=Fo os (nC U7 o') j o (by simpa using h);have e:(nC U7 o').length+j=U7.length+(j+1):=by simp[nC];omega
  rw[e]at this;exact this
def Iq{j:Nat}(h:os[j]?=some o):(kD os).getD j []=qm ((o.after.toList.filter (Region.binds .any)).flatMap fun e=>e.on::(if e.on<j then(kD os).getD e.on []else[])):=by have:=Fo os [] j o h;simp only[List.length_nil,Nat.zero_add]at this;exact this
def nY(os:List Oper)(L:TN):Prop:=∀j o,os[j]?=some o->L j=true->∀e∈o.after.toList,Region.binds .any e=true->L e.on=true
def uE{L:TN}(hc:nY os L)(O':∀j o,os[j]?=some o->∀e∈o.after.toList,Region.binds .any e=true->e.on<j):∀n j,j<n->∀o,os[j]?=some o->(∀e∈o.after.toList,Region.binds .any e=true->L e.on=true)->∀i∈(kD os).getD j [],L i=true:=by
 intro n;induction n with
 |zero=>intro j hj;omega
 |succ n ih=>
  intro j hj o ho hL i hi;rw[Iq ho,CL]at hi;obtain⟨e,he,hi⟩:=List.mem_flatMap.1 hi;obtain⟨Wn,Yv⟩:=List.mem_filter.1 he;have Yw:=hL e Wn Yv;rcases List.mem_cons.1 hi with rfl|hi
  ·exact Yw
  ·rw[if_pos (O' j o ho e Wn Yv)]at hi;have hlt':=O' j o ho e Wn Yv;have hjlen:=(List.getElem?_eq_some_iff.1 ho).1;have VQ:os[e.on]?=some (os[e.on]' jB):=List.getElem?_eq_getElem jB;exact ih e.on jB _ VQ (fun e' h1 h2=>hc _ _ VQ Yw e' h1 h2) i hi
theorem Bw(o:Oper)(os:List Oper)(r:AV)(rs:TE)(F:TE):∀m,FL (o::os) (r::rs) (fun _=>true) F (m+1)=FL os rs (fun _=>true) (cL F o.dst r) m
 |0=>by simp[FL]
 |m+1=>by have ih:=Bw o os r rs F m;rw[FL,if_pos rfl,ih,FL,if_pos rfl];simp
theorem Jn{K:TE->Prop}:∀(l:List Oper) (F:TE) (rs:TE),yn P ops H K l F rs->(∀i o,l[i]?=some o->QV P ops o (FL l rs (fun _=>true) F i) H (rs.getD i .any))/\K (FL l rs (fun _=>true) F l.length)
 |[],F,rs,h=>⟨fun i o hi=>by simp at hi,h.2⟩
 |o::l,F,rs,h=>by
  obtain⟨r,UH,rfl,h1,h2⟩:=h;obtain⟨g1,g2⟩:=Jn l _ UH h2;refine⟨fun i o' hi=>?_,by rw[List.length_cons,Bw];exact g2⟩;cases i with
  |zero=> simp only[List.getElem?_cons_zero,Option.some.injEq]at hi;subst hi;exact h1
  |succ i=> rw[Bw];exact g1 i o' (by simpa using hi)
def vO(h:uA os=true):(∀j o,os[j]?=some o->∀e∈o.after.toList,Region.binds .any e=true->e.on<j)/\
  ∀i j a b,i<j->os[i]?=some a->os[j]?=some b->uz os a b=true->i∈(kD os).getD j []:=by
 simp only[uA,List.all_eq_true,List.mem_range]at h;constructor
 ·intro j o ho e he hb;have:=h j (List.getElem?_eq_some_iff.1 ho).1;rw[ho]at this;simp only[Bool.and_eq_true,List.all_eq_true]at this;have:=this.1 e he;simpa[hb]using this
 ·intro i j a b ZM ha hb hc;have:=h j (List.getElem?_eq_some_iff.1 hb).1;rw[hb]at this;simp only[Bool.and_eq_true,List.all_eq_true,List.mem_range]at this;have:=this.2 i ZM;rw[ha]at this;simp only[hc,Bool.not_true,Bool.false_or]at this;simpa using this
theorem Gh{os:List Oper}{rs F:TE}{L:TN}{i s:Nat}(hw:∀k o,os[k]?=some o->o.dst=some s->L k=decide (k<i)):∀m,ll os rs L F s m=ll os rs (fun _=>true) F s (min m i)
 |0=>by simp[ll]
 |m+1=>by
  have ih:=Gh (rs:=rs) (F:=F) hw m;rw[ll];by_cases hd:(os[m]?).bind (·.dst)=some s
  ·obtain⟨o,ho,hs⟩:=Option.bind_eq_some_iff.1 hd;have hL:=hw m o ho hs;by_cases hm:m<i
   ·rw[if_pos ⟨by rw[hL];simpa using hm,hd⟩,show min (m+1) i=m+1 from jB,ll,if_pos ⟨rfl,hd⟩]
   ·rw[if_neg (by rw[hL];simp[hm]),ih,show min (m+1) i=min m i from jB]
  ·rw[if_neg (by simp[hd]),ih];by_cases hm:m<i
   ·rw[show min (m+1) i=m+1 from jB,show min m i=m from jB,ll,if_neg (by simp[hd])]
   ·rw[show min (m+1) i=min m i from jB]
theorem AU{os:List Oper}{rs F:TE}{L L':TN}{i s:Nat}{o:Oper}(ho:os[i]?=some o)(VR:∀k,L' k=(L k || k == i))(hw:∀k o',os[k]?=some o'->o'.dst=some s->L k=decide (k<i))(hs:o.dst=some s):∀m,i<m->ll os rs L' F s m=rs.getD i .any
 |0,h=>by omega
 |m+1,h=>by
  rw[ll];by_cases hm:m=i
  ·subst hm;rw[if_pos ⟨by rw[VR];simp,by rw[ho];exact hs⟩]
  ·rw[if_neg]
   ·exact AU ho VR hw hs m jB
   ·rintro⟨h1,h2⟩;obtain⟨o',VQ,W0⟩:=Option.bind_eq_some_iff.1 h2;rw[VR,hw m o' VQ W0]at h1;simp at h1;omega
theorem BH{os:List Oper}{rs F:TE}{L L':TN}{i s:Nat}{o:Oper}(ho:os[i]?=some o)(VR:∀k,L' k=(L k || k == i))(hs:o.dst≠some s):∀m,ll os rs L' F s m=ll os rs L F s m
 |0=>rfl
 |m+1=>by
  have ih:=BH (rs:=rs) (F:=F) ho VR hs m;rw[ll,ll,ih,VR];by_cases hm:m=i
  ·subst hm;rw[ho];simp[hs]
  ·simp[hm]
def NL{t:Nat}(h:Operand.tmp t∈o.op.operands.toList):t∈looks os o:=
 List.mem_append_left _ (List.mem_filterMap.2 ⟨_,h,rfl⟩)
def HE(hl:F.length=G.length)(h:∀s∈looks os o,s<F.length->G.getD s .any=F.getD s .any):xk os.toArray o F G:=by
 have Uw:∀s∈looks os o,G[s]?=F[s]?:=fun s hs=>by
  rcases Nat.lt_or_ge s F.length with h1|h1
  ·have:=h s hs h1;have e1:G[s]?=some (G.getD s .any):=by simp[<-hl,h1]
   have e2:F[s]?=some (F.getD s .any):=by simp[h1]
   rw[e1,e2,this]
  ·rw[List.getElem?_eq_none jB,List.getElem?_eq_none h1]
 constructor
 ·intro x hx;cases x with
  |tmp t=>simp only[cn,List.getD_eq_getElem?_getD,Uw t (NL hx)]
  |const v=>rfl
  |global g=>rfl
  |func f=>rfl
 ·intro j b hg;unfold lS;cases hd:(os.toArray[j]?).bind (·.dst)with
  |none=>rfl
  |some d=> simp only;rw[Uw d (List.mem_append_right _ (by rw[hg];simp at hd ⊢;simpa using hd))]
variable{Q:Exit->TA}
def PH{l:List Oper}{rs:TE}(hok:uA l=true)(YU:∀i o,l[i]?=some o->QV P l.toArray o (FL l rs (fun _=>true) F i) H (rs.getD i .any))(hK:Q .normal (FL l rs (fun _=>true) F l.length) H)(w0:NW) :
  ∀(fuel:Nat) (listed:Array Bool),listed.size=l.length->nY l (fun i=>listed.getD i false)->(List.range l.length).countP (fun i=>!listed.getD i false)=fuel->
   ∀(w:NW) tm,aJ w H->bs w (FL l rs (fun i=>listed.getD i false) F l.length) tm->Ext w0 H w H->wpAny P .any l.toArray (gS Q w0 H) fuel listed ⟨tm,[]⟩ w.toWorld:=by
 obtain⟨O',Tx⟩:=vO hok
 -- when all are done
 have fin:∀(listed:Array Bool),(∀i,i<l.length->listed.getD i false=true)->∀(w:NW) tm,aJ w H->bs w (FL l rs (fun i=>listed.getD i false) F l.length) tm->Ext w0 H w H->gS Q w0 H .normal ⟨tm,[]⟩ w.toWorld:=by
  intro listed T7 w tm h1 h2 h3;have e:FL l rs (fun i=>listed.getD i false) F l.length=FL l rs (fun _=>true) F l.length:=by
   have gen:∀m,m<=l.length->FL l rs (fun i=>listed.getD i false) F m=FL l rs (fun _=>true) F m:=by
    intro m;induction m with
    |zero=>intro _;rfl
    |succ m ih=>intro hm;rw[FL,FL,ih jB,T7 m jB]
   exact gen _ jl
  rw[e]at h2;exact⟨tm,_,H,w,rfl,rfl,hK,h1,h2,h3.pG⟩
 intro fuel;induction fuel with
 |zero=>
  intro listed TU V6 Xz w tm h1 h2 h3;have T7:∀i,i<l.length->listed.getD i false=true:=fun i hi=>by have:=(List.countP_eq_zero.1 Xz) i (List.mem_range.2 hi);simpa using this
  refine⟨?_,fin listed T7 w tm h1 h2 h3⟩;rw[List.eq_nil_iff_forall_not_mem];intro j hj;obtain⟨YV,o,ho,_⟩:=mem_ready.1 hj;have XA:j<l.length:=by have:=(Array.getElem?_eq_some_iff.1 ho).1;simpa using this
  have:=T7 j XA;simp[TU,XA]at this YV;rw[this]at YV;cases YV
 |succ fuel ih=>
  intro listed TU V6 Xz w tm h1 h2 h3;refine⟨fun YW=>?_,fun i hi=>?_⟩
  ·-- some operation is ready
   exfalso;have hex:∃i,i<l.length/\listed.getD i false=false:=by have U2:0<(List.range l.length).countP (fun i=>!listed.getD i false):=jB;obtain⟨i,hi,hp⟩:=List.countP_pos_iff.1 U2;exact⟨i,List.mem_range.1 hi,by simpa using hp⟩
   obtain⟨i,⟨hi,hf⟩,Wx⟩:=exists_least hex;have ho:l[i]?=some l[i]:=List.getElem?_eq_getElem hi;have:i∈Region.ready .any l.toArray listed:=mem_ready.2 ⟨by simp[TU,hi]at hf ⊢;exact hf,l[i],by simp[hi],fun e he hb=>by
    have h4:=O' i _ ho e (by simpa using he) hb;cases hv:listed.getD e.on false with
    |true=>rfl
    |false=>have:=Wx e.on ⟨jB,hv⟩;omega⟩
   rw[YW]at this;cases this
  ·obtain⟨VY,o,ho,UY⟩:=mem_ready.1 hi;have VQ:l[i]?=some o:=by simpa using ho
   have Vh:=(List.getElem?_eq_some_iff.1 VQ).1;have W8:listed.getD i false=false:=by simp[TU,Vh]at VY ⊢;exact VY
   have Va:∀e∈o.after.toList,Region.binds .any e=true->listed.getD e.on false=true:=fun e he hb=>UY e (by simpa using he) hb
   have Uj:=uE V6 O' (i+1) i jB o VQ Va
   -- who writes where o touches
   have hwr:∀k o' s,l[k]?=some o'->o'.dst=some s->(s∈looks l o\/o.dst=some s)->listed.getD k false=decide (k<i):=by
    intro k o' s hk hs Ur;rcases Nat.lt_trichotomy k i with h|h|h
    ·rw[decide_eq_true h];refine Uj k (Tx k i o' o h hk VQ ?_);unfold uz;rw[hs];rcases Ur with h5|h5
     ·simp[h5]
     ·simp[h5]
    ·subst h;simpa using W8
    ·rw[decide_eq_false jB];cases hv:listed.getD k false with
     |false=>rfl
     |true=>
      have Vl:i∈(kD l).getD k []:=Tx i k o o' h VQ hk (by
       unfold uz;rw[hs];rcases Ur with h5|h5
       ·simp[h5]
       ·simp[h5])
      have:=uE V6 O' (k+1) k jB o' hk (fun e he hb=>V6 k o' hk hv e he hb) i Vl;rw[W8]at this;cases this
   have Vn:xk l.toArray o (FL l rs (fun _=>true) F i) (FL l rs (fun i=>listed.getD i false) F l.length):=by
    refine HE (by rw[lj,lj]) fun s hs I'=>?_
    rw[lj]at I';rw[sF _ _ _ _ I',sF _ _ _ _ I',Gh (fun k o' hk hd=>hwr k o' s hk hd (.inl hs)),show min l.length i=i from jB]
   have VL:=YU i o VQ _ Vn;have VR:∀k,(listed.setIfInBounds i true).getD k false=(listed.getD k false || k == i):=fun k=>by
    by_cases hk:k=i
    ·subst hk;simp[TU,Vh]
    ·simp[Array.getElem?_setIfInBounds_ne (Ne.symm hk),hk]
   have WL:cL (FL l rs (fun i=>listed.getD i false) F l.length) o.dst (rs.getD i .any)=FL l rs (fun k=>(listed.setIfInBounds i true).getD k false) F l.length:=by
    refine Eu (m':=0) (L':=fun _=>true) (by cases o.dst<;>simp[cL,lj]) fun s hs=>?_
    by_cases hd:o.dst=some s
    ·rw[AU (L:=fun i=>listed.getD i false) VQ VR (fun k o' hk YX=>hwr k o' s hk YX (.inr hd)) hd _ Vh,hd];simp[cL,lj,hs]
    ·rw[BH (L:=fun i=>listed.getD i false) VQ VR hd,<-sF _ _ _ _ hs];cases YX:o.dst with
     |none=>rfl
     |some d=>
      have:d≠s:=fun e=>hd (by rw[YX,e])
      simp[cL,List.getElem?_set,this]
   have:=VL w tm (gS Q w0 H) (wpAny P .any l.toArray (gS Q w0 H) fuel (listed.setIfInBounds i true)) h1 h2 (by
    rintro Us w' F' H' ⟨rfl,rfl⟩ g1 g2 g3;refine ih (listed.setIfInBounds i true) (by simpa using TU) ?_ ?_ w' Us g1 (by rw[<-WL];exact g2) (h3.trans g3)
    ·intro j o' hj VD e he hb;simp only[VR]at VD ⊢;rcases Bool.or_eq_true_iff.1 VD with h6|h6
     ·have h7:listed.getD e.on false=true:=V6 j o' hj h6 e he hb;rw[h7];rfl
     ·obtain rfl:j=i:=by simpa using h6
      rw[VQ]at hj;cases hj;rw[Va e he hb];rfl
    ·have:∀(n:Nat),i<n->(List.range n).countP (fun k=>!(listed.setIfInBounds i true).getD k false)+1=(List.range n).countP (fun k=>!listed.getD k false):=by
      intro n;induction n with
      |zero=>intro h;omega
      |succ n ihn=>
       intro h;rw[List.range_succ,List.countP_append,List.countP_append];by_cases hn:n=i
       ·subst hn;have:(List.range n).countP (fun k=>!(listed.setIfInBounds n true).getD k false)=(List.range n).countP (fun k=>!listed.getD k false):=by
         refine List.countP_congr fun k hk=>?_
         rw[VR];have:k≠n:=by have:=List.mem_range.1 hk;omega
         simp[this]
        rw[this];simp only[List.countP_singleton,VR,W8];simp
       ·rw[<-ihn jB];simp only[List.countP_singleton,VR];have:(n == i)=false:=by simpa using hn
        rw[this,Bool.or_false];omega
     have:=this l.length Vh;omega)
   unfold wpOp;rw[ho];exact this
def JT{id:Nat}{l:List Oper}(hm:P.follows .mixedOrders=true)(hok:uA l=true)(h:pY P l.toArray H (fun F'=>Q .normal F' H) l F):dF P (.region id l.toArray true) Q F H:=fun w tm h1 h2=>by
 obtain⟨rs,B'⟩:=D6 l F h;obtain⟨YU,hK⟩:=Jn l F rs B';have hz:∀i,(Array.replicate l.toArray.size false).getD i false=false:=fun i=>by by_cases hi:i<l.length<;>simp[Array.getElem?_replicate,hi]
 refine wp_region_any hm ?_;have e0:FL l rs (fun i=>(Array.replicate l.toArray.size false).getD i false) F l.length=F:=by
  have gen:∀m,FL l rs (fun i=>(Array.replicate l.toArray.size false).getD i false) F m=F:=by
   intro m;induction m with
   |zero=>rfl
   |succ m ih=>rw[FL,hz,if_neg jE,ih]
  exact gen _
 exact PH hok YU hK w l.toArray.size (Array.replicate l.toArray.size false) jE (fun j o _ hj=>by have:=(hz j).symm.trans hj;cases this) (by rw[List.countP_eq_length.2 (fun i _=>by rw[hz];rfl)];simp) (w.to w.drew) tm h1.drew (by rw[e0];exact h2.ext (Ext.drew w H)) (Ext.drew w H)
end
end Go.Gd