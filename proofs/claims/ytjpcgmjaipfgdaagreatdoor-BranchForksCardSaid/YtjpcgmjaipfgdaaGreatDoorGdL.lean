/- Lemmas. No conditions. -/
import Derived.Test.YtjpcgmjaipfgdaaGreatDoorGdE
import Derived.Deep.RegionWith
import Derived.Laws.Append
set_option linter.all false
namespace Go.Gd
open Go
section
variable {P:U6}{w:NW}{H:Hp}
variable{a:Option AV}{v:Option Value}
def mj{i:Option Int}(ha:rO a=some i)(hr:∀x y,a=some x->v=some y->ay w x y)(hs:a.isSome=v.isSome):(i=none/\v=none)\/∃k n,i=some n/\v=some (.int k n):=by
 cases a with
 |none=>
  simp[rO]at ha;cases v with
  |none=>exact .inl ⟨ha.symm,rfl⟩
  |some _=>simp at hs
 |some x=>
  cases v with
  |none=>simp at hs
  |some y=>
   unfold rO at ha;split at ha<;>try cases ha
   ·rename_i h;cases h
   ·rename_i k n h;cases h;have:=di (hr _ _ rfl rfl);subst this;exact .inr ⟨k,n,rfl,rfl⟩
variable{vlo vhi:Option Value}{lo:Option Int}
def tP{isSlice:Bool}{len cap:Nat}{hi:Option Int}(U9:(lo=none/\vlo=none)\/∃k n,lo=some n/\vlo=some (.int k n))(XX:(hi=none/\vhi=none)\/∃k n,hi=some n/\vhi=some (.int k n))
  (h0:0<=lo.getD 0) (h1:lo.getD 0<=hi.getD len) (h2:hi.getD len<=cap):(Instr.sliceBounds isSlice len cap vlo vhi none).run P w=.ok ((lo.getD 0).toNat,(hi.getD len).toNat,cap) w:=by
 rcases U9 with⟨rfl,rfl⟩|⟨k,n,rfl,rfl⟩<;>rcases XX with⟨rfl,rfl⟩|⟨k',m,rfl,rfl⟩<;>simp only[Option.getD_some,Option.getD_none]at*
 ·simp[Instr.sliceBounds]
 ·simp[Instr.sliceBounds,run_sliceBound w _ _ _ _ (show 0<=m from jB) h2]
 ·simp[Instr.sliceBounds,run_sliceBound w _ _ _ _ h0 h1]
 ·simp[Instr.sliceBounds,run_sliceBound w _ _ _ _ (show 0<=m from jB) h2,run_sliceBound w _ _ _ _ h0 (show n<=((m.toNat:Nat):Int) from jB)]
def Hm{len cap:Nat}{k k2:IntKind}{m q:Int}(U9:(lo=none/\vlo=none)\/∃k n,lo=some n/\vlo=some (.int k n))
  (h0:0<=lo.getD 0) (h1:lo.getD 0<=q) (h2:q<=m) (h3:m<=cap):(Instr.sliceBounds true len cap vlo (some (.int k2 q)) (some (.int k m))).run P w.toWorld=.ok ((lo.getD 0).toNat,q.toNat,m.toNat) w.toWorld:=by
 rcases U9 with⟨rfl,rfl⟩|⟨k1,n,rfl,rfl⟩<;>simp only[Option.getD_some,Option.getD_none]at*
 ·simp[Instr.sliceBounds,run_sliceBound w.toWorld _ _ _ _ (show 0<=m from jB) h3,run_sliceBound w.toWorld _ _ _ _ (show 0<=q from jB) (show q<=((m.toNat:Nat):Int) from jB)]
 ·simp[Instr.sliceBounds,run_sliceBound w.toWorld _ _ _ _ (show 0<=m from jB) h3,run_sliceBound w.toWorld _ _ _ _ (show 0<=q from jB) (show q<=((m.toNat:Nat):Int) from jB),run_sliceBound w.toWorld _ _ _ _ h0 (show n<=((q.toNat:Nat):Int) from jB)]
variable{vmx:Option Value}
def oR{t e:U1}{sz:Nat}(hu:P.underlying t=some (.slice e))(hs:dc P e=some sz){A:Option Addr}{n c lo hi mx:Nat}(hb:(Instr.sliceBounds true n c vlo vhi vmx).run P w.toWorld=.ok (lo,hi,mx) w.toWorld) :
  ∃A',(Instr.sliceAt t (.slice A n c) vlo vhi vmx).run P w.toWorld=.ok (.slice A' (hi-lo) (mx-lo)) w.toWorld/\((A=none/\A'=none)\/∃ad,A=some ad/\A'=some (if mx=lo then ad else ad.add (lo*sz))):=by
 cases A with
 |none=>exact⟨none,by simp[Instr.sliceAt,run_underlying hu,Instr.slice,hb,lR hs],.inl ⟨rfl,rfl⟩⟩
 |some ad=>exact⟨some (if mx=lo then ad else ad.add (lo*sz)),by simp only[Instr.sliceAt,run_underlying hu,Instr.slice,hb,lR hs,Sem.run_bind,Result.andThen_ok,Sem.run_pure,Option.map_some];split<;>rfl,.inr ⟨ad,rfl,rfl⟩⟩
def zA{i:Int}(ha:rO a=some (some i))(hr:∀x y,a=some x->v=some y->ay w x y)(hs:a.isSome=v.isSome):∃k,v=some (.int k i):=by
 rcases mj ha hr hs with⟨h,_⟩|⟨k,n,h,rfl⟩
 ·cases h
 ·cases h;exact⟨k,rfl⟩
def qW(ha:rO a=some none)(hr:∀x y,a=some x->v=some y->ay w x y)(hs:a.isSome=v.isSome):v=none:=by
 rcases mj ha hr hs with⟨_,h⟩|⟨k,n,h,rfl⟩
 ·exact h
 ·cases h
def Se(t:U1){a:AV}{lo hi mx:Option AV}{va:Value}(ha:ay w a va)(U9:∀x y,lo=some x->vlo=some y->ay w x y)(slo:lo.isSome=vlo.isSome)
  (XX:∀x y,hi=some x->vhi=some y->ay w x y) (shi:hi.isSome=vhi.isSome) (XY:∀x y,mx=some x->vmx=some y->ay w x y) (smx:mx.isSome=vmx.isSome):kD P w (Instr.sliceAt t va vlo vhi vmx) (th P t a lo hi mx):=by
 intro hq;unfold th at*;split at hq<;>try exact hq.elim
 ·rename_i s l h e1 e2 e3;obtain rfl:=qW e3 XY smx;have:=di ha;subst this;have ht:=zh hq.1;obtain⟨h0,h1,h2⟩:=hq.2;have hb:=tP (P:=P) (w:=w) (isSlice:=false) (mj e1 U9 slo) (mj e2 XX shi) h0 h1 h2;exact⟨_,by simp[Instr.sliceAt,run_underlying ht,Instr.slice,hb],.raw _⟩
 ·rename_i x sz css d l h e1 e2 e3;obtain rfl:=qW e3 XY smx;obtain⟨e,hu,hs⟩:=pg hq.1;obtain⟨h0,h1,h2⟩:=hq.2;have key:∀n c:Nat,n=css.length->n<=c->(Instr.sliceBounds true n c vlo vhi none).run P w.toWorld=.ok ((l.getD 0).toNat,(h.getD css.length).toNat,c) w.toWorld:=fun n c hn hc=>by
   subst hn;exact tP (P:=P) (w:=w) (isSlice:=true) (mj e1 U9 slo) (mj e2 XX shi) h0 h1 jB
  generalize hL:l.getD 0=L at*;generalize hh:h.getD (css.length:Int)=Hh at*;obtain⟨Ln,rfl⟩:=Int.eq_ofNat_of_zero_le h0;obtain⟨Hn,rfl⟩:=Int.eq_ofNat_of_zero_le (show(0:Int)<=Hh from jB);simp only[Int.toNat_natCast]at key ⊢;have O':((css.drop Ln).take (Hn-Ln)).length=Hn-Ln:=by simp;omega
  cases ha with
  |gH _ _ A c hx=>
   obtain⟨A',B',_⟩:=oR hu hs (A:=A) (key 0 c rfl (Nat.zero_le _));obtain rfl:Hn=0:=by simp at h2;omega
   refine⟨_,B',?_⟩;simp only[Nat.zero_sub,List.take_zero];exact .gH _ _ _ _ (fun h=>by cases h)
  |sl _ _ _ ad c vs hn hc hx Vi VJ hH I' hr=>
   obtain⟨A',B',hA⟩:=oR hu hs (A:=some ad) (key _ c rfl hc);refine⟨_,B',?_⟩;by_cases hz:Hn-Ln=0
   ·rw[hz,List.take_zero];exact .gH _ _ _ _ (fun h=>by cases h)
   ·rcases hA with⟨h,_⟩|⟨ad',h,rfl⟩
    ·cases h
    cases h;rw[jN];have hg:∀i,i<Hn-Ln->((css.drop Ln).take (Hn-Ln)).getD i []=css.getD (Ln+i) []:=fun i hi=>by simp[List.getElem?_take,hi]
    have:=ay.sl (w:=w) (d:=d) false sz ((css.drop Ln).take (Hn-Ln)) (ad.add (Ln*sz)) (c-Ln) (fun j=>vs (Ln*sz+j)) jB jB (fun h=>by cases h) (fun cs V3=>Vi _ (List.mem_of_mem_drop (List.mem_of_mem_take V3))) (by rw[pT];exact VJ) (by rw[pT];exact hH)
     (fun i j hi hj=>by
      rw[ye,show Ln*sz+(i*sz+j)=(Ln+i)*sz+j by rw[Nat.add_mul];omega];exact I' _ j jB hj) (fun i j u hi hu=>by
      rw[hg i jB]at hu;rw[show Ln*sz+(i*sz+j)=(Ln+i)*sz+j by rw[Nat.add_mul];omega];exact hr _ j u jB hu)
    rw[O']at this;exact this
 ·rename_i d m sz n h e1 e2 e3;obtain rfl:=qW e3 XY smx;obtain rfl:=qW e1 U9 slo;obtain⟨e,hu,hs⟩:=pg hq.1;obtain⟨h1,h2⟩:=hq.2;have key:∀c:Nat,n<=c->(Instr.sliceBounds true n c none vhi none).run P w.toWorld=.ok (0,(h.getD n).toNat,c) w.toWorld:=fun c hc=>by
   have:=tP (P:=P) (w:=w) (isSlice:=true) (len:=n) (cap:=c) (lo:=none) (vlo:=none) (.inl ⟨rfl,rfl⟩) (mj e2 XX shi) jE (by simpa using h1) jB;simpa using this
  cases ha with
  |iO _ _ _ A hn=>
   obtain⟨A',B',_⟩:=oR hu hs (A:=A) (key 0 (Nat.zero_le _));have h0:(h.getD 0).toNat=0:=by simp at h2;omega
   refine⟨_,B',?_⟩;simp only[Nat.sub_zero,Int.ofNat_zero];rw[h0];exact .iO d m sz A' hn
  |rs _ _ _ _ b t c hn hc Vd Wy=>
   obtain⟨A',B',hA⟩:=oR hu hs (A:=some ⟨b,0,none⟩) (key c Vd);refine⟨_,B',?_⟩;rcases hA with⟨h',_⟩|⟨ad',h',rfl⟩
   ·cases h'
   cases h';have:(if c=0 then(⟨b,0,none⟩:Addr)else(⟨b,0,none⟩:Addr).add (0*sz))=⟨b,0,none⟩:=by rw[Nat.zero_mul,Dg];simp
   rw[this];simp only[Nat.sub_zero];exact .rs d m sz _ b t c hn hc jB Wy
 ·rename_i d m sz n l h e1 e2 e3;obtain rfl:=qW e3 XY smx;obtain⟨e,hu,hs⟩:=pg hq.1;obtain⟨h0,h1,h2⟩:=hq.2;have key:∀c:Nat,n<=c->(Instr.sliceBounds true n c vlo vhi none).run P w.toWorld=.ok (l.toNat,(h.getD n).toNat,c) w.toWorld:=fun c hc=>
   tP (P:=P) (w:=w) (isSlice:=true) (len:=n) (cap:=c) (lo:=some l) (mj e1 U9 slo) (mj e2 XX shi) h0 h1 jB
  cases ha with
  |iO _ _ _ A hn=>
   obtain⟨A',B',_⟩:=oR hu hs (A:=A) (key 0 (Nat.zero_le _));refine⟨_,B',?_⟩;have:(h.getD (0:Nat)).toNat-l.toNat=0:=by simp at h1 h2 ⊢;omega
   rw[this];exact .jx d m sz _ _ _
  |rs _ _ _ _ b t c hn hc Vd Wy=>
   obtain⟨A',B',hA⟩:=oR hu hs (A:=some ⟨b,0,none⟩) (key c Vd);refine⟨_,B',?_⟩;by_cases hz:(h.getD n).toNat-l.toNat=0
   ·rw[hz];exact .jx d m sz _ _ _
   ·rcases hA with⟨h',_⟩|⟨ad',h',rfl⟩
    ·cases h'
    cases h';rw[jN,j6,Nat.zero_add];exact .rv d m sz _ _ b t _ hn jB
 ·rename_i d m sz n h e1 e2 e3;obtain rfl:=qW e3 XY smx;obtain rfl:=qW e1 U9 slo;obtain⟨e,hu,hs⟩:=pg hq.1;obtain⟨h1,h2⟩:=hq.2;cases ha with
  |rc _ _ _ _ b t hn hc Vd Wy=>
   have key:(Instr.sliceBounds true n m none vhi none).run P w.toWorld=.ok (0,(h.getD n).toNat,m) w.toWorld:=by have:=tP (P:=P) (w:=w) (isSlice:=true) (len:=n) (cap:=m) (lo:=none) (vlo:=none) (.inl ⟨rfl,rfl⟩) (mj e2 XX shi) jE (by simpa using h1) jB;simpa using this
   obtain⟨A',B',hA⟩:=oR hu hs (A:=some ⟨b,0,none⟩) key;refine⟨_,B',?_⟩;rcases hA with⟨h',_⟩|⟨ad',h',rfl⟩
   ·cases h'
   cases h';have:(if m=0 then(⟨b,0,none⟩:Addr)else(⟨b,0,none⟩:Addr).add (0*sz))=⟨b,0,none⟩:=by rw[Nat.zero_mul,Dg];simp
   rw[this];simp only[Nat.sub_zero];exact .rc d m sz _ b t hn hc jB Wy
 ·rename_i d m sz n l h e1 e2 e3;obtain rfl:=qW e3 XY smx;obtain⟨e,hu,hs⟩:=pg hq.1;obtain⟨h0,h1,h2⟩:=hq.2;cases ha with
  |rc _ _ _ _ b t hn hc Vd Wy=>
   have key:(Instr.sliceBounds true n m vlo vhi none).run P w.toWorld=.ok (l.toNat,(h.getD n).toNat,m) w.toWorld:=
    tP (P:=P) (w:=w) (isSlice:=true) (len:=n) (cap:=m) (lo:=some l) (mj e1 U9 slo) (mj e2 XX shi) h0 h1 jB
   obtain⟨A',B',hA⟩:=oR hu hs (A:=some ⟨b,0,none⟩) key;refine⟨_,B',?_⟩;by_cases hz:(h.getD n).toNat-l.toNat=0
   ·rw[hz];exact .jx d m sz _ _ _
   ·rcases hA with⟨h',_⟩|⟨ad',h',rfl⟩
    ·cases h'
    cases h';rw[jN,j6,Nat.zero_add];exact .rv d m sz _ _ b t _ hn jB
 ·rename_i d m sz n l h x e1 e2 e3;obtain⟨kx,rfl⟩:=zA e3 XY smx;obtain⟨kh,rfl⟩:=zA e2 XX shi;obtain⟨e,hu,hs⟩:=pg hq.1;obtain⟨h0,h1,h2,h3⟩:=hq.2;cases ha with
  |rc _ _ _ _ b t hn hc Vd Wy=>
   have key:(Instr.sliceBounds true n m vlo (some (.int kh h)) (some (.int kx x))).run P w.toWorld=.ok ((l.getD 0).toNat,h.toNat,x.toNat) w.toWorld:=
    Hm (P:=P) (w:=w) (len:=n) (cap:=m) (mj e1 U9 slo) h0 h1 h2 jB
   obtain⟨A',B',hA⟩:=oR hu hs (A:=some ⟨b,0,none⟩) key;refine⟨_,B',?_⟩;by_cases hz:h.toNat-(l.getD 0).toNat=0
   ·rw[hz];exact .jx d m sz _ _ _
   ·rcases hA with⟨h',_⟩|⟨ad',h',rfl⟩
    ·cases h'
    cases h';rw[jN,j6,Nat.zero_add];exact .rv d m sz _ _ b t _ hn jB
 ·rename_i d m sz o n l h e1 e2 e3;obtain rfl:=qW e3 XY smx;obtain⟨e,hu,hs⟩:=pg hq.1;obtain⟨h0,h1,h2⟩:=hq.2;have key:∀c:Nat,n<=c->(Instr.sliceBounds true n c vlo vhi none).run P w.toWorld=.ok ((l.getD 0).toNat,(h.getD n).toNat,c) w.toWorld:=fun c hc=>
   tP (P:=P) (w:=w) (isSlice:=true) (len:=n) (cap:=c) (mj e1 U9 slo) (mj e2 XX shi) h0 h1 jB
  cases ha with
  |jx _ _ _ _ c A=>
   obtain⟨A',B',_⟩:=oR hu hs (A:=A) (key c (Nat.zero_le _));refine⟨_,B',?_⟩;have:(h.getD (0:Nat)).toNat-(l.getD 0).toNat=0:=by simp at h1 h2 ⊢;omega
   rw[this];exact .jx d m sz _ _ _
  |rv _ _ _ _ _ b t c hn Vd=>
   obtain⟨A',B',hA⟩:=oR hu hs (A:=some ⟨b,o*sz,none⟩) (key c Vd);refine⟨_,B',?_⟩;by_cases hz:(h.getD n).toNat-(l.getD 0).toNat=0
   ·rw[hz];exact .jx d m sz _ _ _
   ·rcases hA with⟨h',_⟩|⟨ad',h',rfl⟩
    ·cases h'
    cases h';rw[jN,j6,<-Nat.add_mul];exact .rv d m sz _ _ b t _ hn jB
 ·rename_i d m sz n l h x e1 e2 e3;obtain⟨kx,rfl⟩:=zA e3 XY smx;obtain⟨kh,rfl⟩:=zA e2 XX shi;obtain⟨e,hu,hs⟩:=pg hq.1;obtain⟨h0,h1,h2,h3⟩:=hq.2;have key:∀c:Nat,n<=c->(Instr.sliceBounds true n c vlo (some (.int kh h)) (some (.int kx x))).run P w.toWorld=.ok ((l.getD 0).toNat,h.toNat,x.toNat) w.toWorld:=fun c hc=>
   Hm (P:=P) (w:=w) (len:=n) (cap:=c) (mj e1 U9 slo) h0 h1 h2 jB
  cases ha with
  |iO _ _ _ A hn=>
   obtain⟨A',B',_⟩:=oR hu hs (A:=A) (key 0 (Nat.zero_le _));refine⟨_,B',?_⟩;have:h.toNat-(l.getD 0).toNat=0:=by simp at h1 h2 h3 ⊢;omega
   rw[this];exact .jx d m sz _ _ _
  |rs _ _ _ _ b t c hn hc Vd Wy=>
   obtain⟨A',B',hA⟩:=oR hu hs (A:=some ⟨b,0,none⟩) (key c Vd);refine⟨_,B',?_⟩;by_cases hz:h.toNat-(l.getD 0).toNat=0
   ·rw[hz];exact .jx d m sz _ _ _
   ·rcases hA with⟨h',_⟩|⟨ad',h',rfl⟩
    ·cases h'
    cases h';rw[jN,j6,Nat.zero_add];exact .rv d m sz _ _ b t _ hn jB
 ·rename_i l h e1 e2 e3;obtain rfl:=qW e3 XY smx;have:=di ha;subst this;obtain⟨_,Vi,h0,h1⟩:=hq;obtain⟨sz,Vi⟩:=Option.isSome_iff_exists.1 Vi;obtain⟨e,hu,hs⟩:=pg Vi;have hb:=tP (P:=P) (w:=w) (isSlice:=true) (len:=0) (cap:=0) (mj e1 U9 slo) (mj e2 XX shi) jB jF jF;simp only[h0,Int.toNat_zero,h1,Int.ofNat_zero]at hb;exact⟨_,by simp[Instr.sliceAt,run_underlying hu,Instr.slice,hb,lR hs],.raw _⟩
def M8(s d:U1){a:AV}{v:Value}(h:ay w a v):kD P w (convert s d v) (zg P s d a):=by
 intro hq;unfold zg at*;split at hq<;>try exact hq.elim
 ·rename_i k' n k e;have:=di h;subst this;have hd:P.underlying d=some (.int k):=by unfold Gg at e;split at e<;>simp_all
  obtain⟨ds,hs⟩:=Option.isSome_iff_exists.1 hq;refine⟨.int k (k.wrap n),?_,.raw _⟩;cases ds<;>simp[convert,run_underlying hs,run_underlying hd,Conv.intToInt]
 ·rename_i s' e;have:=di h;subst this;have hd:=zh hq.2;obtain⟨ds,hs⟩:=Option.isSome_iff_exists.1 hq.1;refine⟨.string s',?_,.raw _⟩;cases ds<;>simp[convert,run_underlying hs,run_underlying hd]
def EC(mx:Bool)(ts:Array U1)(ty:U1){l:UU}{vs:U4}(h:cn w l vs):kD P w (if mx then Builtin.max_ ts ty vs.toArray else Builtin.min_ ts ty vs.toArray) (xA mx l):=by
 intro hq;unfold xA at*;split at hq<;>try exact hq.elim
 rename_i k a k' b;obtain⟨hl,hr⟩:=h;match vs,hl with
 |[x,y],_=> obtain rfl:k=k':=hq;obtain rfl:=di (hr 0 _ _ rfl rfl);obtain rfl:=di (hr 1 _ _ rfl rfl);cases mx<;>exact⟨_,by simp[Builtin.max_,Builtin.min_,Builtin.max2,Builtin.min2];rfl,by simpa using ay.raw _⟩
theorem CX{pl:Nat->Option (Nat×Nat)}:∀{parts:List (Nat×AV)} {vparts:List (Nat×Value)} {cells:UU} {cur:U3} {out:UU},
  sx pl cells parts=some out->parts.map (·.1)=vparts.map (·.1)->(∀(i:Nat) a v,parts[i]?=some a->vparts[i]?=some v->cn w a.2.cells v.2.cells.toList)->cn w cells cur.toList->
  ∃vs,Instr.fill pl cur vparts=some vs/\cn w out vs.toList
 |[],[],cells,cur,out,h,_,_,hc=>by simp only[sx,Option.some.injEq]at h;subst h;exact⟨cur,rfl,hc⟩
 |[],_::_,_,_,_,_,he,_,_=>by simp at he
 |_::_,[],_,_,_,_,he,_,_=>by simp at he
 |(i,a)::parts,(i',v)::vparts,cells,cur,out,h,he,hr,hc=>by
  simp only[List.map_cons,List.cons.injEq]at he;obtain⟨rfl,he⟩:=he;simp only[sx]at h;split at h
  ·rename_i off k hp;split at h
   ·rename_i hk;have hv:=hr 0 _ _ rfl rfl;simp only at hv;have O':v.cells.size=k:=by have:=hv.1;simp at this;omega
    have XU:cells.length=cur.size:=by simpa using hc.1
    have Va:∀(l:U4) (o:Nat) (c:U3),(l.toArray.zipIdx.foldl (fun cs (x,j)=>cs.setIfInBounds (o+j) x) c)=(c.toList.take o++l++c.toList.drop (o+l.length)).toArray\/c.size<o+l.length:=by
     intro l o c;by_cases hb:c.size<o+l.length
     ·exact .inr hb
     ·refine .inl ?_;have gen:∀(l:U4) (s:Nat) (c:U3),o+s+l.length<=c.size->((l.zipIdx s).foldl (fun(cs:U3) (p:Value×Nat)=>cs.setIfInBounds (o+p.2) p.1) c)=(c.toList.take (o+s)++l++c.toList.drop (o+s+l.length)).toArray:=by
       intro l;induction l with
       |nil=>intro s c _;simp
       |cons x l ih=>
        intro s c hb;simp only[List.zipIdx_cons,List.foldl_cons];rw[ih (s+1) _ (by simp at hb ⊢;omega)];apply Array.ext';simp only[Array.toList_setIfInBounds];apply List.ext_getElem?;intro m;simp only[List.length_cons]at hb;rcases Nat.lt_or_ge m (o+s)with h1|h1
        ·rw[List.append_assoc,List.getElem?_append_left jF,List.append_assoc,List.getElem?_append_left jF];simp only[List.getElem?_take,List.getElem?_set];rw[jP,jN,if_pos h1]
        ·rcases Nat.lt_or_ge m (o+s+1)with h2|h2
         ·obtain rfl:m=o+s:=jB;rw[List.append_assoc,List.getElem?_append_left jF,List.append_assoc,List.getElem?_append_right jF];simp only[List.getElem?_take,List.getElem?_set,List.length_take,Array.length_toList];rw[jP];simp only[Nat.add_assoc,if_true];rw[jP,show o+s-min (o+s) c.size=0 from jB];rfl
         ·rw[List.append_assoc,List.append_assoc,List.cons_append,List.getElem?_append_right (l₁:=List.take (o+(s+1)) _) jF,List.getElem?_append_right (l₁:=List.take (o+s) _) jF];simp only[List.length_take,List.length_set,Array.length_toList];rw[show m-min (o+s) c.size=(m-min (o+(s+1)) c.size)+1 from jB,List.getElem?_cons_succ];rcases Nat.lt_or_ge (m-min (o+(s+1)) c.size) l.length with h3|h3
          ·rw[List.getElem?_append_left h3,List.getElem?_append_left h3]
          ·rw[List.getElem?_append_right h3,List.getElem?_append_right h3];simp only[List.getElem?_drop,List.getElem?_set,List.length_cons];rw[jN];congr 1
           omega
      have:=gen l 0 c jB;simp only[Nat.add_zero]at this;rw[<-this,<-Array.foldl_toList];simp
    have VU:¬(cur.size<off+v.cells.toList.length):=by simp;omega
    have hs:=(Va v.cells.toList off cur).resolve_right VU;rw[Array.toArray_toList]at hs;obtain⟨vs,h1,h2⟩:=CX (cur:=(cur.toList.take off++v.cells.toList++cur.toList.drop (off+v.cells.toList.length)).toArray) h he (fun i a v ha hv=>hr (i+1) a v (by simpa using ha) (by simpa using hv)) (by
     refine⟨by simp[kN];omega,fun m x y hx hy=>?_⟩;simp only[kN]at hx;rcases Nat.lt_or_ge m off with g1|g1
     ·rw[List.append_assoc,List.getElem?_append_left jF,List.getElem?_take,if_pos g1]at hx hy;exact hc.2 m x y hx hy
     ·rcases Nat.lt_or_ge m (off+a.cells.length)with g2|g2
      ·rw[List.append_assoc,List.getElem?_append_right jF,List.getElem?_append_left jF]at hx hy;simp only[List.length_take,Array.length_toList]at hx hy;rw[show m-min off cells.length=m-off from jB]at hx;rw[show m-min off cur.size=m-off from jB]at hy;exact hv.2 _ x y hx hy
      ·rw[List.getElem?_append_right jF]at hx hy;simp only[List.length_append,List.length_take,Array.length_toList,List.getElem?_drop]at hx hy;rw[show off+a.cells.length+(m-(min off cells.length+a.cells.length))=m from jB]at hx;rw[show off+v.cells.size+(m-(min off cur.size+v.cells.size))=m from jB]at hy;exact hc.2 m x y hx hy)
    refine⟨vs,?_,h2⟩;simp only[Instr.fill,hp];rw[if_neg jF,hs];exact h1
   ·cases h
  ·cases h
def QD{t:U1}{pl:List (Nat×Nat)}(h:iH P t=some pl):∃fs:Array Field,P.underlying t=some (.struct fs)/\(fs.mapM (m:=Sem) fun f=>do pure (f.offset,<-sizeOf f.type)).run P w.toWorld=.ok pl.toArray w.toWorld:=by
 unfold iH at h;split at h
 ·rename_i fs hu;refine⟨fs,hu,?_⟩;rw[Array.mapM_eq_mapM_toList];have gen:∀(l:List Field) (pl:List (Nat×Nat)),l.mapM (fun f=>(dc P f.type).map fun k=>(f.offset,k))=some pl->(l.mapM (m:=Sem) fun f=>do pure (f.offset,<-sizeOf f.type)).run P w.toWorld=.ok pl w.toWorld:=by
   intro l;induction l with
   |nil=>intro pl h;simp at h;subst h;simp
   |cons f l ih=> intro pl h;rw[List.mapM_cons]at h;simp only[Option.bind_eq_bind,Option.bind_eq_some_iff,Option.map_eq_some_iff,Option.pure_def,Option.some.injEq]at h;obtain⟨p,⟨k,hk,rfl⟩,rest,Vr,rfl⟩:=h;rw[List.mapM_cons];simp only[Sem.run_bind,lR hk,Result.andThen_ok,Sem.run_pure,ih rest Vr]
  simp only[Sem.run_map,gen fs.toList pl h,Result.andThen_ok]
 ·cases h
def P3(t:U1){parts:List (Nat×AV)}{vparts:Array (Nat×Value)}(h1:parts.map (·.1)=vparts.toList.map (·.1))(h2:∀(i:Nat) a v,parts[i]?=some a->vparts.toList[i]?=some v->ay w a.2 v.2):kD P w (Instr.build t vparts) (vp P t parts):=by
 intro hq;unfold vp at*;split at hq<;>try exact hq.elim
 rename_i zs pl e1 e2;split at hq<;>try exact hq.elim
 rename_i out hf;obtain⟨z,hz,rfl⟩:=zW (w:=w) e1;obtain⟨fs,hu,hp⟩:=QD (w:=w) e2;simp only[cZ,List.all_eq_true]at hq;have Xg:∀(i:Nat) a,parts[i]?=some a->cZ a.2.cells=true:=fun i a ha=>by simp only[cZ,List.all_eq_true];intro x hx;exact hq x (List.mem_flatten.2 ⟨_,List.mem_map.2 ⟨a,List.mem_of_getElem? ha,rfl⟩,hx⟩)
 obtain⟨vs,g1,g2⟩:=CX (w:=w) (cur:=z.cells) hf h1 (fun i a v ha hv=>(h2 i a v ha hv).ie (Xg i a ha))
  ⟨jE,fun i a v ha hv=>by simp only[List.getElem?_map,Option.map_eq_some_iff]at ha;obtain⟨x,hx,rfl⟩:=ha;rw[hx]at hv;cases hv;exact .raw _⟩
 refine⟨.agg vs,?_,.agg _ _ (by have:=g2.1;simpa using this) fun i a v ha hv=>g2.2 i a v ha (by simpa using hv)⟩;have e:(fun i:Nat=>pl.toArray[i]?)=(fun i:Nat=>pl[i]?):=by funext i;simp
 simp only[Instr.build,Sem.run_bind,hz,Result.andThen_ok,run_underlying hu,hp,e,g1,Sem.run_pure]
end
section
variable {P:U6}{w:NW}{H:Hp}{ρ:Operand->Value}{ev:U2}
def vn(hr:∀x,ay w (ev x) (ρ x))(l:List Operand):cn w (l.map ev) (l.map ρ):=
 ⟨jE,fun i a v ha hv=>by simp only[List.getElem?_map,Option.map_eq_some_iff]at ha hv;obtain⟨x,hx,rfl⟩:=ha;obtain⟨y,hy,rfl⟩:=hv;rw[hx]at hy;cases hy;exact hr x⟩
def Dn(hr:∀x,ay w (ev x) (ρ x))(o:Option Operand):∀x y,o.map ev=some x->o.map ρ=some y->ay w x y:=by
 intro x y hx hy;cases o with
 |none=>cases hx
 |some z=>cases hx;cases hy;exact hr z
def mC{s:Sem Value}{q:PA}(hq:q.1)(h:kD P w s q):∃v,(do pure (Next.value (<-s)):Sem Next).run P w.toWorld=.ok (.value v) w.toWorld/\ay w q.2 v:=by obtain⟨v,h1,h2⟩:=h hq;exact⟨v,by simp[h1],h2⟩
def IL{c a b:Operand}{x y z:AV}{dst:Option Tmp}{ty:U1}{pos:String}{after:Array Edge}{guard:Option (Nat×Bool)}(hc:ay w x (ρ c))(ha:ay w y (ρ a))(hb:ay w z (ρ b))(hq:(oo x y z).1) :
  ∃v,(execOp ρ ⟨dst,.pick c a b,ty,pos,after,guard⟩).run P w.toWorld=.ok (.value v) w.toWorld/\ay w (oo x y z).2 v:=by
 obtain⟨v,h1,h2⟩:=D9 (P:=P) hc ha hb hq;refine⟨v,?_,h2⟩;simp only[execOp,Sem.run_bind,Sem.run_pure]at h1 ⊢;cases hb:(asBool (ρ c)).run P w with
 |ok x w'=>rw[hb]at h1;simp only[Result.andThen_ok,Result.ok.injEq]at h1 ⊢;exact⟨by rw[h1.1],h1.2⟩
 |halt e w'=>rw[hb]at h1;simp at h1
def zF(o:Oper)(hw:aL w H)(hr:∀x,ay w (ev x) (ρ x))(hq:(vq P ev H o.op).1):∃v,(execOp ρ o).run P w.toWorld=.ok (.value v) w.toWorld/\ay w (vq P ev H o.op).2 v:=by
 obtain⟨dst,op,ty,pos,after,guard⟩:=o;cases op
 case move x=>exact⟨_,rfl,hr x⟩
 case assign x=>exact⟨_,rfl,hr x⟩
 case pick c a b=>
  obtain⟨v,h1,h2⟩:=D9 (P:=P) (hr c) (hr a) (hr b) hq;refine⟨v,?_,h2⟩;simp only[execOp,Sem.run_bind,Sem.run_pure]at h1 ⊢;cases hb:(asBool (ρ c)).run P w with
  |ok x w'=>rw[hb]at h1;simp only[Result.andThen_ok,Result.ok.injEq]at h1 ⊢;exact⟨by rw[h1.1],h1.2⟩
  |halt e w'=>rw[hb]at h1;simp at h1
 case nilCheck x=>exact L5 x rfl (hr x) _ rfl hq
 case binOp op t x y t'=>exact mC hq (Ja op t x y (hr x) (hr y))
 case unOp op t x=>exact mC hq (Sb op (hr x))
 case load t a=>exact mC hq (Tp t (hr a) hw)
 case fieldAddr t a f=>exact mC hq (Pe t f (hr a))
 case field t a f=>exact mC hq (SY t f (hr a))
 case indexAddr t a i=>exact mC hq (L4 t (hr a) (hr i))
 case index t a i=>exact mC hq (Q9 t (hr a) (hr i))
 case extract a i=>exact mC hq (Ts (hr a) i)
 case slice t a lo hi mx=>exact mC hq (Se t (hr a) (Dn hr lo) (by cases lo<;>rfl) (Dn hr hi) (by cases hi<;>rfl) (Dn hr mx) (by cases mx<;>rfl))
 case makeFunc fn first captured=>
  have:=ND (P:=P) fn (vn hr first.toList) (vn hr captured.toList);have e1:(first.toList.map ρ).toArray=first.map ρ:=by rw[<-Array.toList_map,Array.toArray_toList]
  have e2:(captured.toList.map ρ).toArray=captured.map ρ:=by rw[<-Array.toList_map,Array.toArray_toList]
  rw[e1,e2]at this;exact mC hq this
 case makeInterface t x=>exact mC hq (RX t (hr x))
 case convert s d x=>exact mC hq (M8 s d (hr x))
 case build t parts=> refine mC hq (P3 t jE fun i a v ha hv=>?_);simp only[List.getElem?_map,Option.map_eq_some_iff,Array.toList_map,Array.getElem?_toList]at ha hv;obtain⟨x,hx,rfl⟩:=ha;obtain⟨y,hy,rfl⟩:=hv;rw[hx]at hy;cases hy;exact hr x.2
 case call c=>
  obtain⟨callee,args,argTypes⟩:=c;cases callee
  case builtin b=>
   simp only[vq]at hq ⊢;generalize hts:argTypes.toList=ts at*;obtain rfl:argTypes=ts.toArray:=by rw[<-hts]
   have WV:=vn hr args.toList;have Wo:args.map ρ=(args.toList.map ρ).toArray:=by rw[<-Array.toList_map,Array.toArray_toList]
   have B':∀s:Sem Value,(∀cs,builtin b ts.toArray ty cs (args.toList.map ρ).toArray=(do pure (Next.value (<-s))))->(execOp ρ ⟨dst,.call ⟨.builtin b,args,ts.toArray⟩,ty,pos,after,guard⟩)=(do pure (Next.value (<-s))):=by intro s hs;simp only[execOp,resolve,pure_bind,invoke,Wo];exact hs _
   generalize hus:args.toList.map ρ=us at*;generalize hals:args.toList.map ev=als at*;unfold mz at*;split at hq<;>try exact hq.elim
   ·rename_i t ts x als;cases us with
    |nil=>have:=WV.1;simp at this
    |cons u us=> rw[B' _ (fun _=>rfl)];exact mC hq (RF ty t ts us hw (WV.2 0 _ _ rfl rfl))
   ·rename_i t ts x als;cases us with
    |nil=>have:=WV.1;simp at this
    |cons u us=> rw[B' _ (fun _=>rfl)];exact mC hq (LC ty t ts us (WV.2 0 _ _ rfl rfl))
   ·rw[B' _ (fun _=>rfl)];have:=EC (P:=P) true ts.toArray ty WV;exact mC hq this
   ·rw[B' _ (fun _=>rfl)];have:=EC (P:=P) false ts.toArray ty WV;exact mC hq this
  all_goals exact hq.elim
 all_goals exact hq.elim
end
universe u
def aX(P:Program)(f:FuncId):Bool:=match P.funcs[f]? with
 | some fn => fn.body.isSome && !(fn.name == "runtime.NumGoroutine")
 |none=>false
def aD(P:U6)(f:FuncId)(args:UU)(r:AV):Prop:=af P f args [] fun r' l'=>r'=r/\l'=[]
def dm(P:U6)(f:FuncId)(args:UU)(H:Hp)(K:UR):Prop:=
 ∀(w:NW) (vs:U3),aL w H->bu w args vs->Calls P f vs w.toWorld fun e W=>∃v r H' w',W=NW.toWorld w'/\e=.returned v/\K r H'/\aL w' H'/\ay w' r v/\Ext w H w' H'
theorem dm.mono{P:U6}{f:FuncId}{args:UU}{H:Hp}{K K':UR}(h:dm P f args H K)(hk:∀r H,K r H->K' r H):dm P f args H K':=
 fun w vs h1 h2=>(h w vs h1 h2).mono fun _ _ ⟨v,r,H',w',e0,e,k,g⟩=>⟨v,r,H',w',e0,e,hk _ _ k,g⟩
def BQ:AV->Option (FuncId×UU×UU)
 |.raw (.func (.func f) first captured)=>some (f,first.toList.map .raw,captured.toList.map .raw)
 |.eW f cs=>some (f,[],cs)
 |.bd f fs=>some (f,fs,[])
 |_=>none
-- what follows is hidden from simp: an argument that a later one's type hangs on is held fixed
inductive ir{α:Sort u}(a:α):Type
 |mk
def wB(H:Hp)(A:Nat->Prop)(_:ir A):Prop:=∃i,H.get i=none/\A i
def vM(P:U6)(H:Hp)(t:U1)(a x:AV)(K:UR):Prop:=match a,dc P t with
 |.pt i m k j,some n=>match H.get i with
  |some r=>(cZ x.cells=true/\x.cells.length=n/\B1 r m k j n)/\K .any (H.put i (yx r k j x.cells))
  |none=>False
 |_,_=>False
def nX(P:U6)(H:Hp)(t:U1)(K:UR):Prop:=match dM P t with
 |some zs=>wB H (fun i=>K (.pt i 0 0 0) (H.put i (.var t (zs.map .raw)))) .mk
 |none=>False
def sq(H:Hp)(t:U1)(x:AV)(K:UR):Prop:=cZ x.cells=true/\wB H (fun i=>K (.pt i 0 0 0) (H.put i (.var t x.cells))) .mk
def xK(sz:Nat):Nat->List (Nat×AV)->Prop
 |_,[]=>True
 |k,(i,a)::rest=>(i=k/\cZ a.cells=true/\a.cells.length=sz)/\xK sz (k+1) rest
theorem GD{sz:Nat}:∀{k:Nat} {l:List (Nat×AV)},xK sz k l->l.map (·.1)=List.range' k l.length/\∀p∈l,cZ p.2.cells=true/\p.2.cells.length=sz
 |_,[],_=>⟨rfl,fun p hp=>by simp at hp⟩
 |k,(i,a)::rest,h=>by
  obtain⟨⟨rfl,h1,h2⟩,h3⟩:=h;obtain⟨g1,g2⟩:=GD h3;refine⟨by simp[g1,List.range'_succ],fun p hp=>?_⟩;rcases List.mem_cons.1 hp with rfl|hp
  ·exact⟨h1,h2⟩
  ·exact g2 p hp
def mM(parts:List (Nat×AV)):US:=parts.map (·.2.cells)
def sT(e:U1)(sz:Nat)(css:US)(H:Hp)(K:UR):Prop:=
 (aY eJ css.flatten=true/\K (.sl true sz css []) H)\/(0<sz/\∃i,H.get i=none/\K (.rs i css.length sz css.length) (H.put i (.aJ e sz css)))
def oI(P:U6)(H:Hp)(t:U1)(n:Nat)(parts:List (Nat×AV))(K:UR):Prop:=match io P t with
 |some e=>match dc P e with
  |some sz=>(parts.length=n/\xK sz 0 parts/\n*sz<=16777216/\(n*sz=0\/(dM P e).isSome=true))/\
   sT e sz (mM parts) H K
  |none=>False
 |none=>False
def qA(P:U6)(ne:Bool)(t:U1)(x y:AV)(H:Hp)(K:UR):Prop:=match x,y with
 |.sl _ _ css _,.raw (.slice none 0 0)=>ij P t=true/\∀b:Bool,(b=true->css=[])->K (.raw (.bool (ne ^^ b))) H
 |.rs _ _ _ n,.raw (.slice none 0 0)=>ij P t=true/\∀b:Bool,(b=true->n=0)->K (.raw (.bool (ne ^^ b))) H
 |x,y=>(fG P (if ne then .neq else .eql) t x y).1/\K (fG P (if ne then .neq else .eql) t x y).2 H
def tE(H:Hp):AV->Option (Prop×US)
 |.sl _ _ css _=>some (True,css)
 |.rs i m sz n=>match H.get i with
  |some (.aJ _ sz' css)=>some (sz'=sz/\m=css.length/\n<=m,css.take n)
  |_=>none
 |.rv i m sz o n=>match H.get i with
  |some (.aJ _ sz' css)=>some (sz'=sz/\m=css.length/\o+n<=m,(css.drop o).take n)
  |_=>none
 |.raw (.slice none 0 0)=>some (True,[])
 |_=>none
def jr(P:U6)(t:U1):Nat:=((P.info? t).map (·.bytes)).getD 0
def room(by_ n:Nat):Prop:=n*by_<=140737488355328/\n<=9223372036854775807
def eH(css:US)(n:Nat)(ys:US):US:=css.take n++ys++css.drop (n+ys.length)
def uJ(i:Nat)(e:U1)(m sz n:Nat)(css ys:US)(H:Hp)(K:UR):Prop:=if n=m then K (.rs i (m+ys.length) sz (n+ys.length)) (H.put i (.aJ e sz (css++ys)))else K (.rs i (max m (n+ys.length)) sz (n+ys.length)) (H.put i (.aJ e sz (eH css n ys)))
def NG(css ys:US):eH css css.length ys=css++ys:=by simp[eH]
variable{css:US}{n:Nat}
def vw(ys:US)(h:n<=css.length):(eH css n ys).length=max css.length (n+ys.length):=by simp[eH];omega
variable{sz:Nat}{H:Hp}{K:UR}
def UH{i:Nat}{e:U1}{ys:US}(h:uJ i e css.length sz n css ys H K):K (.rs i (max css.length (n+ys.length)) sz (n+ys.length)) (H.put i (.aJ e sz (eH css n ys))):=by
 unfold uJ at h;split at h
 ·rename_i e;subst e;rw[NG,Nat.max_eq_right jB];exact h
 ·exact h
def CK(by_:Nat)(e:U1)(sz:Nat)(ys:US)(a:AV)(H:Hp)(K:UR):Prop:=match a with
 |.rs i m sz' n=>match H.get i with
  |some (.aJ e' sz'' css)=>(e'=e/\sz'=sz/\sz''=sz/\m=css.length/\n<=m/\room by_ (n+ys.length))/\uJ i e m sz n css ys H K
  |_=>False
 |.raw (.slice none 0 0)=>room by_ ys.length/\wB H (fun i=>K (.rs i ys.length sz ys.length) (H.put i (.aJ e sz ys))) .mk
 |.sl true sz' css _=>(sz'=sz/\room by_ (css.length+ys.length)/\(css.length=0\/0<ys.length))/\wB H (fun i=>K (.rs i (css.length+ys.length) sz (css.length+ys.length)) (H.put i (.aJ e sz (css++ys)))) .mk
 |_=>False
def xo(P:U6)(t:U1)(a x:AV)(H:Hp)(K:UR):Prop:=match io P t with
 |some e=>match dc P e,dM P e,tE H x with
  |some sz,some zs,some (c,ys)=>(zs.length=sz/\0<sz/\c/\Good sz ys)/\CK (jr P e) e sz ys a H K
  |_,_,_=>False
 |none=>False
def pz(P:U6)(t t':U1)(a x:AV)(H:Hp)(K:UR):Prop:=
 ∀(w:NW) va vx ty,aL w H->ay w a va->ay w x vx->∃(w':NW) (H':Hp) (r:AV) (v:Value),(Builtin.append_ #[t,t'] ty #[va,vx]).run P w.toWorld=.ok v w'.toWorld/\K r H'/\aL w' H'/\ay w' r v/\Ext w H w' H'
def qg(P:U6)(b:Builtin)(ts:List U1)(args:UU)(H:Hp)(K:UR):Prop:=
 ∀(w:NW) vs ty cs,aL w H->cn w args vs->∃(w':NW) (H':Hp) (r:AV) (v:Value),(builtin b ts.toArray ty cs vs.toArray).run P w.toWorld=.ok (.value v) w'.toWorld/\K r H'/\aL w' H'/\ay w' r v/\Ext w H w' H'
def jo(P:U6)(o:Op)(ty:U1)(ev:U2)(H:Hp)(K:UR):Prop:=
 ∀(w:NW) ρ dst pos after guard,aL w H->(∀x∈o.operands.toList,ay w (ev x) (ρ x))->∃(w':NW) (H':Hp) (r:AV),K r H'/\aL w' H'/\Ext w H w' H'/\
  ((∃v,(execOp ρ ⟨dst,o,ty,pos,after,guard⟩).run P w.toWorld=.ok (.value v) w'.toWorld/\ay w' r v)\/((execOp ρ ⟨dst,o,ty,pos,after,guard⟩).run P w.toWorld=.ok .skip w'.toWorld/\r=.any))
def uf(P:U6)(f:FuncId)(args:UU)(H:Hp)(K:UR):Prop:=
 ∀(w:NW) vs,aL w H->bu w args vs->∃(v:Value) (w':NW) (r:AV) (H':Hp),(callFunc f vs).run P w.toWorld=.ok (.value v) w'.toWorld/\K r H'/\aL w' H'/\ay w' r v/\Ext w H w' H'
def fi(P:U6)(f:AV)(args:UU)(H:Hp)(K:UR):Prop:=match BQ f with
 |some (f,first,captured)=>(aX P f=true/\dm P f (first++args++captured) H K)\/uf P f (first++args++captured) H K
 |none=>False
def qt(P:U6)(a:AV)(m:String)(args:UU)(H:Hp)(K:UR):Prop:=match a with
 |.iZ t v=>match o0 P t m with
  |some f=>fi P (.raw (.func (.func f) #[] #[])) (v::args) H K
  |none=>False
 |_=>False
def du:Op->Bool
 |.box .. |.alloc _|.store .. |.buildSlice .. |.makeMap .. |.makeSlice .. |.mapUpdate .. |.insert .. |.lookup .. |.range .. |.next .. |.entry .. |.typeAssert ..=>false
 |.binOp .eql .. |.binOp .neq ..=>false
 |.call { callee:=.builtin b,.. }=>match b with
  |.len|.cap|.max|.min=>true
  |_=>false
 |.call _=>false
 |_=>true
def vc(P:U6)(ev:U2)(H:Hp)(ty:U1)(K:UR):Op->Prop
 |.box t x=>sq H t (ev x) K
 |.alloc t=>nX P H t K
 |.store t a x=>vM P H t (ev a) (ev x) K
 |.buildSlice t n parts=>oI P H t n (parts.toList.map fun p=>(p.1,ev p.2)) K
 |.binOp .eql t x y _=>qA P false t (ev x) (ev y) H K
 |.binOp .neq t x y _=>qA P true t (ev x) (ev y) H K
 |.call { callee:=.value f,args,.. }=>fi P (ev f) (args.toList.map ev) H K
 |.call { callee:=.invoke r m,args,.. }=>qt P (ev r) m (args.toList.map ev) H K
 |.call { callee:=.builtin .append,args,argTypes }=>match argTypes.toList,args.toList with
  |[t,t'],[a,x]=>pz P t t' (ev a) (ev x) H K
  |_,_=>False
 |.call { callee:=.builtin b,args,argTypes }=>if du (.call ⟨.builtin b,args,argTypes⟩)then(vq P ev H (.call ⟨.builtin b,args,argTypes⟩)).1/\K (vq P ev H (.call ⟨.builtin b,args,argTypes⟩)).2 H else qg P b argTypes.toList (args.toList.map ev) H K
 |o=>if du o then(vq P ev H o).1/\K (vq P ev H o).2 H else jo P o ty ev H K
section
variable {P:U6}{ops:Array Oper}{F:UU}{H:Hp}
variable{K:UR}
def TA{o:Oper}(hq:(vq P (cw F) H o.op).1)(hk:K (vq P (cw F) H o.op).2 H):D0 P o F H K:=fun w tm h1 h2=>by obtain⟨v,hr,hv⟩:=zF o h1 (fun x=>h2.eval [] x) hq;exact⟨w,H,_,hk,h1,Ext.refl w H,.inl ⟨v,hr,hv⟩⟩
theorem J9{sz:Nat}:∀(parts:List (Nat×AV)) (k:Nat) (pre zs:UU),parts.map (·.1)=List.range' k parts.length->(∀p∈parts,p.2.cells.length=sz)->pre.length=k*sz->zs.length=parts.length*sz->
  sx (fun i=>some (i*sz,sz)) (pre++zs) parts=some (pre++(parts.map (·.2.cells)).flatten)
 |[],k,pre,zs,_,_,_,hz=>by
  have:zs=[]:=by simpa using hz
  simp[sx,this]
 |(i,a)::parts,k,pre,zs,hp,hs,hk,hz=>by
  simp only[List.map_cons,List.length_cons,List.range'_succ,List.cons.injEq]at hp;obtain⟨rfl,hp⟩:=hp;have ha:a.cells.length=sz:=hs (i,a) jE;have VR:zs.length=parts.length*sz+sz:=by rw[hz,List.length_cons,Nat.add_mul,Nat.one_mul]
  simp only[sx];rw[if_pos ⟨ha,by simp;omega⟩];have e:kN (pre++zs) (i*sz) a.cells=(pre++a.cells)++zs.drop sz:=by
   unfold kN;rw[<-hk,List.take_left',List.drop_append,ha]
   ·simp
   ·rfl
  rw[e,J9 parts (i+1) (pre++a.cells) (zs.drop sz) hp (fun p hp=>hs p (by simp[hp])) (by simp[hk,ha,Nat.add_mul]) jF];simp[List.append_assoc]
variable{w:NW}
def PB{l:UU}{vs:U4}(h:cn w l vs){k:Nat}{u:AV}(hu:l[k]?=some u):ay w u (vs.toArray.getD k undef):=by
 have hk:k<vs.length:=by rw[<-h.1];exact(List.getElem?_eq_some_iff.1 hu).1
 refine h.2 k u _ hu ?_;simp[hk]
variable{t:U1}
def Tm{n:Nat}{parts:List (Nat×AV)}{vparts:Array (Nat×Value)}(hw:aL w H)(h1:parts.map (·.1)=vparts.toList.map (·.1))(h2:∀(i:Nat) a v,parts[i]?=some a->vparts.toList[i]?=some v->ay w a.2 v.2)
  (hv:oI P H t n parts K):∃(w':NW) (H':Hp) (r:AV) (v:Value),(Instr.buildSlice t n vparts).run P w.toWorld=.ok v w'.toWorld/\K r H'/\aL w' H'/\ay w' r v/\Ext w H w' H':=by
 unfold oI at hv;split at hv;rotate_left
 ·exact hv.elim
 rename_i e he;split at hv;rotate_left
 ·exact hv.elim
 rename_i sz WH;obtain⟨⟨O',hok,hn,hz⟩,hk⟩:=hv;have hu:P.underlying t=some (.slice e):=by unfold io at he;split at he<;>simp_all
 obtain⟨hp,hs⟩:=GD hok;rw[O',<-List.range_eq_range']at hp;have hzr:∃z:U3,(n*sz=0/\z=#[])\/(n*sz≠0/\∃v,(zeroValue e).run P w.toWorld=.ok v w.toWorld/\v.cells=z):=by
  by_cases h0:n*sz=0
  ·exact⟨#[],.inl ⟨h0,rfl⟩⟩
  ·have VR:=hz.resolve_left h0;obtain⟨zs,Y0⟩:=Option.isSome_iff_exists.1 VR;obtain⟨z,VT,_⟩:=zW (w:=w.toWorld) Y0;exact⟨z.cells,.inr ⟨h0,z,VT,rfl⟩⟩
 obtain⟨z,hz⟩:=hzr;generalize XU:(Array.range (n*sz)).map (z[· % z.size]!)=cur;have V3:cur.size=n*sz:=by subst XU;simp
 have hf:=J9 (sz:=sz) parts 0 [] (cur.toList.map .raw) (by rw[hp,O',List.range_eq_range']) (fun p hp=>(hs p hp).2) jE (by simp[V3,O']);simp only[List.nil_append]at hf;obtain⟨vs,g1,g2⟩:=CX (w:=w) (cur:=cur) hf h1 (fun i a v ha hv=>(h2 i a v ha hv).ie (hs _ (List.mem_of_getElem? ha)).1)
  ⟨jE,fun i a v ha hv=>by simp only[List.getElem?_map,Option.map_eq_some_iff]at ha;obtain⟨x,hx,rfl⟩:=ha;rw[hx]at hv;cases hv;exact .raw _⟩
 have B':(Instr.buildSlice t n vparts).run P w.toWorld=.ok (.slice (some ⟨w.heap.size,0,none⟩) n n) (w.alloc (.cells vs e)):=by
  have WN:¬(n*sz>2 ^ 24):=jB;rcases hz with⟨h0,rfl⟩|⟨h0,v,hv,rfl⟩
  ·simp only[Instr.buildSlice,Sem.run_bind,run_underlying hu,Result.andThen_ok,lR WH,if_neg WN,if_pos h0,Sem.run_pure,XU,g1,newRow,run_newObj];rfl
  ·simp only[Instr.buildSlice,Sem.run_bind,run_underlying hu,Result.andThen_ok,lR WH,if_neg WN,if_neg h0,hv,Sem.run_pure,XU,g1,newRow,run_newObj];rfl
 have V8:(mM parts).length=n:=by simp[mM,O']
 have qL:∀cs∈mM parts,cs.length=sz:=fun cs V3=>by obtain⟨p,hp,rfl⟩:=List.mem_map.1 V3;exact(hs p hp).2
 have Wp:(mM parts).flatten.length=n*sz:=by rw[gX qL,V8]
 have WI:vs.size=n*sz:=by have:=g2.1;simp only[Array.length_toList]at this;rw[<-this];exact Wp
 rcases hk with⟨Vj,hk⟩|⟨h0,i,hi,hk⟩
 ·have ex:=Ext.fv hw (.cells vs e);refine⟨_,H,_,_,B',hk,hw.fv _,?_,ex⟩;by_cases h0:n=0
  ·have:mM parts=[]:=List.length_eq_zero_iff.1 jB;rw[this,h0];exact .gH true sz _ 0 (fun _=>rfl)
  ·have:=ay.sl (w:=w.to (w.alloc (.cells vs e))) (d:=[]) true sz (mM parts) ⟨w.heap.size,0,none⟩ n (fun j=>vs.getD j undef) jB jB (fun _=>⟨V8.symm,vs,e,heap_alloc_new w.toWorld _⟩) qL jE (fun h=>by have:=hw.fin _ h;simp at this) (fun i j hi hj=>by
    rw[j6,tq w.heap.size _ vs e (0,0) (heap_alloc_new w.toWorld _)];have:=Ax hi hj;rw[V8]at this;simp[show i*sz+j<vs.size from jB]) (fun i j u hi hu=>by
    have hj:j<sz:=by have:=(List.getElem?_eq_some_iff.1 hu).1;rwa [u0 qL hi]at this
    have hx:=PB g2 (k:=i*sz+j) (u:=u) (by rw[<-hu];exact qz qL hi hj);rw[Array.toArray_toList]at hx;refine(hx.lm (mg Vj (i:=i*sz+j) (by rw[<-hu];exact qz qL hi hj))).aW ex.toKeep.bare (ny u))
   rw[V8]at this;exact this
 ·obtain⟨q1,q2⟩:=wi (row:=.aJ e sz (mM parts)) hw (hw.none hi _) (fun r' hr=>by rw[hi]at hr;cases hr) ⟨h0,qL⟩ vs ⟨rfl,by show(mM parts).flatten.length<=_;omega⟩ (fun k a v ha hv=>g2.2 k a v ha (by simpa using hv));refine⟨_,_,_,_,B',hk,q1,?_,q2⟩;have:=ay.rs (w:=((w.to (w.alloc ((Row.aJ e sz (mM parts)).obj vs))).gp w.heap.size).name i (Row.aJ e sz (mM parts)).fZ (.at w.heap.size vs.size (Row.aJ e sz (mM parts)).bE)) i (mM parts).length sz (mM parts).length w.heap.size vs.size n (NW.cA _ _ _ _) WI.symm jB h0;rw[V8]at this ⊢;exact this
def IE(ne:Bool)(t:U1){a b:AV}{va vb:Value}(x y:Operand)(ha:ay w a va)(hb:ay w b vb)(hv:qA P ne t a b H K) :
  ∃r v,(do eqGuard (if ne then .neq else .eql) t x y va vb;binOp (if ne then .neq else .eql) t va vb:Sem Value).run P w.toWorld=.ok v w.toWorld/\K r H/\ay w r v:=by
 have key:∀{n:Nat},ij P t=true->(∀b:Bool,(b=true->n=0)->K (.raw (.bool (ne ^^ b))) H)->(∃A c,va=.slice A n c/\(A=none->n=0))->vb=.slice none 0 0->
   ∃r v,(do eqGuard (if ne then .neq else .eql) t x y va vb;binOp (if ne then .neq else .eql) t va vb:Sem Value).run P w.toWorld=.ok v w.toWorld/\K r H/\ay w r v:=fun{n} h1 h2 h3 h4=>by
  obtain⟨e,hu⟩:=pu h1;obtain⟨A,c,rfl,hA⟩:=h3;subst h4;have he:(Op.equal t (.slice A n c) (.slice none 0 0)).run P w.toWorld=.ok A.isNone w.toWorld:=by refine rX (fun d=>?_);cases A<;>simp[Op.equalIn,run_underlying hu]
  obtain⟨v,h1,h3⟩:=si (P:=P) (w:=w) (ne:=ne) (t:=t) (x:=x) (y:=y) (fun op=>eqGuard_at_slice _ _ _ _ _ _ _ _) rfl rfl he;exact⟨_,v,h1,h2 A.isNone (fun h=>hA (by simpa using h)),h3⟩
 unfold qA at hv;split at hv
 ·rename_i z sz css _;refine key (n:=css.length) hv.1 (fun b hb=>hv.2 b fun h=>List.length_eq_zero_iff.1 (hb h)) ?_ (di hb);cases ha with
  |gH _ _ A c _=>exact⟨A,c,rfl,fun _=>rfl⟩
  |sl _ _ _ ad c _ _ _ _ _ _ _ _ _=>exact⟨some ad,c,rfl,fun h=>by cases h⟩
 ·rename_i i m sz n;refine key (n:=n) hv.1 hv.2 ?_ (di hb);cases ha with
  |iO _ _ _ A _=>exact⟨A,0,rfl,fun _=>rfl⟩
  |rs _ _ _ _ b t c _ _ _ _=>exact⟨some ⟨b,0,none⟩,c,rfl,fun h=>by cases h⟩
 ·obtain⟨v,h1,h2⟩:=Ja (P:=P) (if ne then .neq else .eql) t x y ha hb hv.1;exact⟨_,v,h1,hv.2,h2⟩
-- appends
def cn.append{a b:UU}{x y:U4}(h:cn w a x)(k:cn w b y):cn w (a++b) (x++y):=by
 refine⟨by simp[h.1,k.1],fun i u v hu hv=>?_⟩;rcases Nat.lt_or_ge i a.length with h1|h1
 ·rw[List.getElem?_append_left h1]at hu;rw[List.getElem?_append_left (by rw[<-h.1];exact h1)]at hv;exact h.2 i u v hu hv
 ·rw[List.getElem?_append_right h1]at hu;rw[List.getElem?_append_right (by rw[<-h.1];exact h1),<-h.1]at hv;exact k.2 _ u v hu hv
def A9(w:NW)(sz:Nat)(v:Value)(ys:US):Prop:=∃A c news,v=.slice A ys.length c/\cn w ys.flatten news/\(0<ys.length->∃ad,A=some ad/\∀(j:Nat) v,news[j]?=some v->w.cell? (ad.add j)=some v)
variable{sz:Nat}
def vo(A:Option Addr)(c:Nat):A9 w sz (.slice A 0 c) []:=⟨A,c,[],rfl,⟨rfl,fun i a v h=>by simp at h⟩,fun h=>by simp at h⟩
variable{ys:US}
def Aj{c:Nat}{ad:Addr}(hl:∀y∈ys,y.length=sz)(h:∀i j,i<ys.length->j<sz->∃v,w.cell? (ad.add (i*sz+j))=some v/\∀u,(ys.getD i [])[j]?=some u->ay w u v):A9 w sz (.slice (some ad) ys.length c) ys:=by
 have Wp:=gX hl;refine⟨some ad,c,(List.range (ys.length*sz)).map fun k=>(w.cell? (ad.add k)).getD undef,rfl,⟨by simp[Wp],fun k a v ha hv=>?_⟩,fun _=>⟨ad,rfl,fun k v hv=>?_⟩⟩
 ·have hk:k<ys.length*sz:=by have:=(List.getElem?_eq_some_iff.1 ha).1;omega
  obtain⟨i,j,hi,hj,rfl⟩:=u6 hk;rw[qz hl hi hj]at ha;obtain⟨v',h1,h2⟩:=h i j hi hj;simp only[List.getElem?_map,List.getElem?_range hk,Option.map_some,Option.some.injEq,h1,Option.getD_some]at hv;subst hv;exact h2 a ha
 ·have hk:k<ys.length*sz:=by have:=(List.getElem?_eq_some_iff.1 hv).1;simpa using this
  obtain⟨i,j,hi,hj,rfl⟩:=u6 hk;obtain⟨v',h1,h2⟩:=h i j hi hj;simp only[List.getElem?_map,List.getElem?_range hk,Option.map_some,Option.some.injEq,h1,Option.getD_some]at hv;subst hv;exact h1
variable{css:US}
def rP(hw:aL w H){i:Nat}{e:U1}{b t s:Nat}(hi:H.get i=some (.aJ e sz css))(hn:w.nm i css.length=some (.at b t s)){k j:Nat}(hk:k<css.length)(hj:j<sz) :
  s=sz/\(∀cs∈css,cs.length=sz)/\css.length*sz<=t/\∃v,w.cell? ⟨b,k*sz+j,none⟩=some v/\∀u,(css.getD k [])[j]?=some u->ay w u v:=by
 obtain⟨hok,z,hz,Vq⟩:=hw.rows i _ hi;have:z=.at b t s:=by have hz:w.nm i css.length=some z:=hz;rw[hn]at hz;cases hz;rfl
 subst this;obtain⟨hs_,cur,hh,⟨hs,hl⟩,hr⟩:=Vq;have hs_:sz=s:=hs_.symm;subst hs_;have Wp:(Row.aJ e sz css).cells.length=css.length*sz:=gX hok.2;have h3:=Ax hk hj;have h4:k*sz+j<cur.size:=jB;refine⟨rfl,hok.2,jB,cur[k*sz+j],?_,fun u hu=>?_⟩
 ·rw[tq b _ cur _ (0,0) hh];simp[h4]
 ·refine hr (k*sz+j) u _ ?_ (by simp[h4]);show css.flatten[k*sz+j]?=some u;rw[qz hok.2 hk hj];exact hu
def Cy(hw:aL w H){x:AV}{vx:Value}(hx:ay w x vx){c:Prop}(h:tE H x=some (c,ys))(hc:c)(hg:Good sz ys):A9 w sz vx ys:=by
 unfold tE at h;split at h
 ·rename_i xx sz' css _;cases h;cases hx with
  |gH=>exact vo _ _
  |sl _ _ _ ad c vs hn Wk hx Vi hb hH I' hr=>
   have hz:sz'=sz:=by rw[<-Vi (ys[0]) (List.getElem_mem hn),(hg _ (List.getElem_mem hn)).1]
   subst hz;exact Aj Vi fun i j hi hj=>⟨_,I' i j hi hj,fun u hu=>(hr i j u hi hu).mm⟩
 ·rename_i i m sz' n;split at h
  ·rename_i e sz2 css hi;cases h;obtain⟨rfl,rfl,hn⟩:=hc;cases hx with
   |iO _ _ _ A Vm=>rw[List.take_zero];exact vo _ _
   |rs _ _ _ _ b t c Vm Wk Vd Wy=>
    have O':(css.take n).length=n:=by simp;omega
    by_cases h0:n=0
    ·subst h0;rw[List.take_zero];exact vo _ _
    have hz:sz2=sz:=by obtain⟨_,Ve,_⟩:=rP hw hi Vm (k:=0) (j:=0) jB Wy;have h1:(css.take n)[0]' jB∈css.take n:=List.getElem_mem _;rw[<-Ve _ (List.mem_of_mem_take h1),(hg _ h1).1]
    subst hz;have:=Aj (w:=w) (sz:=sz2) (c:=c) (ys:=css.take n) (ad:=⟨b,0,none⟩) (fun y hy=>(hg y hy).1) fun i' j V4 hj=>by obtain⟨_,_,_,v,h1,h2⟩:=rP hw hi Vm (k:=i') (j:=j) jB hj;refine⟨v,by rw[j6,Nat.zero_add];exact h1,fun u hu=>h2 u ?_⟩;rw[<-hu];simp[List.getElem?_take,show i'<n from jB]
    rw[O']at this;exact this
  ·cases h
 ·rename_i i m sz' o n;split at h
  ·rename_i e sz2 css hi;cases h;obtain⟨rfl,rfl,hn⟩:=hc;have O':((css.drop o).take n).length=n:=by simp;omega
   cases hx with
   |jx _ _ _ _ A=>rw[List.take_zero];exact vo _ _
   |rv _ _ _ _ _ b t c Vm Vd=>
    by_cases h0:n=0
    ·subst h0;rw[List.take_zero];exact vo _ _
    have h1:((css.drop o).take n)[0]' jB∈(css.drop o).take n:=List.getElem_mem _;obtain⟨hok,_⟩:=hw.rows i _ hi;have hz:sz2=sz:=by rw[<-hok.2 _ (List.mem_of_mem_drop (List.mem_of_mem_take h1)),(hg _ h1).1]
    subst hz;have:=Aj (w:=w) (sz:=sz2) (c:=c) (ys:=(css.drop o).take n) (ad:=⟨b,o*sz2,none⟩) (fun y hy=>(hg y hy).1) fun i' j V4 hj=>by obtain⟨_,_,_,v,h1,h2⟩:=rP hw hi Vm (k:=o+i') (j:=j) jB hj;refine⟨v,by rw[j6,<-Nat.add_assoc,<-Nat.add_mul];exact h1,fun u hu=>h2 u ?_⟩;rw[<-hu];simp[List.getElem?_take,show i'<n from jB]
    rw[O']at this;exact this
  ·cases h
 ·cases h;have:=di hx;subst this;exact vo _ _
 ·cases h
def uw{e:U1}(he:io P t=some e):P.underlying t=some (.slice e):=by unfold io at he;split at he<;>simp_all
def wa{e:U1}{zs:U4}(Vi:dc P e=some sz)(hz:dM P e=some zs)(hl:zs.length=sz):∃i z,P.info? e=some i/\i.size=sz/\i.zero=some z/\z.cells.size=sz/\jr P e=i.bytes:=by
 unfold dc at Vi;cases hi:P.info? e with
 |none=>rw[hi]at Vi;cases Vi
 |some i=> rw[hi]at Vi;unfold dM at hz;rw[hi]at hz;simp only[Option.bind_some,Option.map_eq_some_iff]at hz;obtain⟨z,VT,Y1⟩:=hz;refine⟨i,z,rfl,by simpa using Vi,VT,?_,by simp[jr,hi]⟩;rw[<-hl,<-Y1];simp
def sH(hw:aL w H){i:Nat}{e:U1}{cap:Nat}{cO:U4}{rest:U3}(h0:0<sz)(O':∀cs∈css,cs.length=sz)(Vt:cn w css.flatten cO)(XZ:css.length<=cap)(Vr:rest.size=(cap-css.length)*sz)
  (YW:w.nm i css.length=none) (XS:∀r,H.get i=some r->r.fZ<=css.length) :
  ∃w':NW,w'.toWorld=w.drew.alloc (.cells (cO.toArray++rest) e)/\aL w' (H.put i (.aJ e sz css))/\Ext w H w' (H.put i (.aJ e sz css))/\ay w' (.rs i css.length sz css.length) (.slice (some ⟨w.heap.size,0,none⟩) css.length cap):=by
 have Wp:=gX O';have YL:cO.length=css.length*sz:=by rw[<-Vt.1,Wp]
 have Vi:(cO.toArray++rest).size=cap*sz:=by simp only[Array.size_append,List.size_toArray,YL,Vr];rw[<-Nat.add_mul];congr 1;omega
 have Vd:=Nat.mul_le_mul_right sz XZ;obtain⟨g1,g2⟩:=wi (row:=.aJ e sz css) hw.drew YW XS ⟨h0,O'⟩ (cO.toArray++rest) ⟨rfl,by show css.flatten.length<=_;omega⟩ (fun k a v ha hv=>by
  have hi:k<cO.length:=by rw[<-Vt.1];exact(List.getElem?_eq_some_iff.1 ha).1
  rw[Array.getElem?_append_left (by simpa using hi)]at hv;exact(Vt.2 k a v ha (by simpa using hv)).ext (Ext.drew w H))
 refine⟨_,rfl,g1,(Ext.drew w H).trans g2,?_⟩;exact ay.rs i css.length sz css.length w.heap.size (cO.toArray++rest).size cap (NW.cA _ _ _ _) Vi.symm XZ h0
def D3{a x:AV}(h:xo P t a x H K):pz P t t a x H K:=by
 intro w va vx ty hw Xm hrx;unfold xo at h;split at h;rotate_left
 ·exact h.elim
 rename_i e he;split at h;rotate_left
 ·exact h.elim
 rename_i sz zs c ys WH Y2 Y3;obtain⟨⟨W7,h0,hc,hg⟩,h⟩:=h;have hu:=uw he;obtain⟨i,z,hi,VC,Xn,Y0,Zs⟩:=wa WH Y2 W7;obtain⟨A,cx,news,rfl,VF,Ww⟩:=Cy hw hrx Y3 hc hg;have Wp:ys.flatten.length=ys.length*sz:=gX fun y hy=>(hg y hy).1
 have W8:news.length=ys.length*sz:=by rw[<-VF.1,Wp]
 have Ye:∀m,(Builtin.zeroCells z.cells m).size=m*sz:=fun m=>by simp[Builtin.zeroCells,Y0]
 have W9:∀need old,need<=grownCap w.toWorld need old e:=fun need old=>by unfold grownCap Question.cut;simp
 have W0:cZ ys.flatten=true:=by simp only[cZ,List.all_eq_true];intro u Y4;obtain⟨y,hy,ZZ⟩:=List.mem_flatten.1 Y4;have:=(hg y hy).2;simp only[cZ,List.all_eq_true]at this;exact this u ZZ
 have hf0:∀A:Option Addr,ys.length=0->(Builtin.firstCells i.size 0 (.slice A 0 cx)).run P w.toWorld=.ok #[] w.toWorld:=fun A _=>by cases A<;>simp[Builtin.firstCells,loadCells,loadCellsFrom]
 rw[Zs]at h;unfold CK at h;split at h
 ·-- a row of one's own
  rename_i d m sz' n;split at h;rotate_left
  ·exact h.elim
  rename_i e' sz2 css hd;obtain⟨⟨rfl,rfl,rfl,rfl,haJ,Wi,h63⟩,hk⟩:=h;have hk:=UH hk;have hok:=(hw.rows d _ hd).1;have Vu:∀cs∈eH css n ys,cs.length=sz2:=fun cs h=>by
   unfold eH at h;rcases List.mem_append.1 h with h|h
   ·rcases List.mem_append.1 h with h|h
    ·exact hok.2 _ (List.mem_of_mem_take h)
    ·exact(hg cs h).1
   ·exact hok.2 _ (List.mem_of_mem_drop h)
  have W2:=gX hok.2;have Vn:=vw ys haJ;cases Xm with
  |iO _ _ _ A Vm=>
   -- nowhere yet
   obtain⟨_,z',VR,Vq⟩:=hw.rows d _ hd;have:z'=.nil:=by have VR:w.nm d css.length=some z':=VR;rw[Vm]at VR;cases VR;rfl
   subst this;obtain⟨e2,sz3,Vq⟩:=Vq;cases Vq;simp only[eH,List.take_nil,List.drop_nil,List.append_nil,List.nil_append,List.length_nil,Nat.zero_add,Nat.zero_max]at hk Vn;by_cases hy:ys.length=0
   ·have:ys=[]:=List.length_eq_zero_iff.1 hy;subst this;refine⟨w,_,_,.slice A 0 0,?_,hk,?_,.iO _ _ _ _ Vm,?_⟩
    ·cases A<;>simp[Builtin.append_,run_underlying hu,sizeOf,typeInfo,hi,Builtin.lenOf,hf0,storeCells]
    ·refine{ hw with rows:=fun j r hj=>?_,dn:=fun j q z hz=>?_ }
     ·rw[Hp.bn]at hj;split at hj
      ·rename_i e;subst e;exact hw.rows j r (by rw[hd];exact hj)
      ·exact hw.rows j r hj
     ·rw[Hp.bn];split
      ·rename_i e;subst e;obtain⟨r,g1,g2⟩:=hw.dn j q z hz;rw[hd]at g1;cases g1;exact⟨_,rfl,g2⟩
      ·exact hw.dn j q z hz
    ·exact{ Ext.refl w H with base:=rfl }
   ·obtain⟨ad,rfl,I'⟩:=Ww jB;obtain⟨w',e1,g1,g2,g3⟩:=sH (i:=d) (e:=e') (cap:=grownCap w.toWorld ys.length 0 e') (css:=ys) (rest:=Builtin.zeroCells z.cells (grownCap w.toWorld ys.length 0 e'-ys.length)) hw h0 (fun y hy=>(hg y hy).1) VF (W9 _ _) (Ye _) (hw.later hd (by show([]:US).length<_;simp;omega)) (fun r hr=>by rw[hd]at hr;cases hr;exact Nat.zero_le _);refine⟨w',_,_,_,?_,hk,by simpa using g1,by simpa using g3,by simpa using g2⟩;rw[e1];cases A with
    |none=> have:=run_append_nil w.toWorld t ty e' i z hu hi Xn ad ys.length cx news (by rw[VC];exact W8) I' jB (by simp at h63;omega) (by simp at Wi;omega);exact this
    |some b=>
     have:=run_append_grow (P:=P) w.toWorld t ty e' i z hu hi Xn b 0 0 [] jE (fun j v h=>by simp at h) ad ys.length cx news (by rw[VC];exact W8) I' jB (by simp at h63;simp;omega) (by rw[Nat.zero_add,nextslicecap_zero jB];simp at Wi;omega)
     simpa using this
  |rs _ _ _ _ b t' cap Vm WK Vd Wy=>
   obtain⟨_,z',VR,Vq⟩:=hw.rows d _ hd;have:z'=.at b t' sz2:=by have VR:w.nm d css.length=some z':=VR;rw[Vm]at VR;cases VR;rfl
   subst this;obtain⟨_,cur,hh,⟨V3,Vf⟩,Xy⟩:=Vq;have hh:w.heap[b]?=some (.cells cur e' (0,0)):=hh;have Vf:css.flatten.length<=t':=Vf;have XZ:css.length<=cap:=by rw[W2,<-WK]at Vf;exact Nat.le_of_mul_le_mul_right Vf h0
   have WS:(css.take n).flatten.length=n*sz2:=by rw[gX fun c hc=>hok.2 c (List.mem_of_mem_take hc),List.length_take,Nat.min_eq_left haJ]
   have haK:(css.take n).flatten=css.flatten.take (n*sz2):=by
    have:css.flatten=(css.take n).flatten++(css.drop n).flatten:=by rw[<-List.flatten_append,List.take_append_drop]
    rw[this,<-WS,List.take_left'];rfl
   by_cases VU:n+ys.length<=cap
   ·-- in place
    have WR:n*sz2+ys.flatten.length<=t':=by rw[Wp,<-Nat.add_mul,<-WK];exact Nat.mul_le_mul_right _ VU
    obtain⟨w',B',g1,g2,g3⟩:=ub (P:=P) (off:=n*sz2) (r':=.aJ e' sz2 (eH css n ys)) hw hd Vm VF W0 WR rfl rfl rfl rfl (by show css.length<=(eH css n ys).length;rw[Vn];omega) ⟨h0,Vu⟩ (by show(eH css n ys).flatten.length<=t';rw[gX Vu,Vn,<-WK];exact Nat.mul_le_mul_right _ (Nat.max_le.2 ⟨XZ,VU⟩)) (fun p u hp=>by
     have hp:(eH css n ys).flatten[p]?=some u:=hp;unfold eH at hp;rw[List.flatten_append,List.flatten_append]at hp;show if _ then _ else css.flatten[p]?=some u
     rcases Nat.lt_or_ge p (n*sz2)with h|h
     ·rw[jN];rw[List.getElem?_append_left (by simp only[List.length_append];omega),List.getElem?_append_left jB,haK,List.getElem?_take,if_pos h]at hp;exact hp
     ·rcases Nat.lt_or_ge p (n*sz2+ys.flatten.length)with h'|h'
      ·rw[if_pos ⟨h,h'⟩];rw[List.getElem?_append_left (by simp only[List.length_append];omega),List.getElem?_append_right jB,WS]at hp;exact hp
      ·rw[jN];rw[List.getElem?_append_right (by simp only[List.length_append];omega)]at hp;have e2:css.flatten=(css.take (n+ys.length)).flatten++(css.drop (n+ys.length)).flatten:=by rw[<-List.flatten_append,List.take_append_drop]
       have D':=(List.getElem?_eq_some_iff.1 hp).1;have hnk:n+ys.length<=css.length:=by
        rcases Nat.lt_or_ge css.length (n+ys.length)with h6|h6
        ·rw[List.drop_eq_nil_of_le jB]at D';simp at D'
        ·exact h6
       have e3:(css.take (n+ys.length)).flatten.length=n*sz2+ys.flatten.length:=by rw[gX fun c hc=>hok.2 c (List.mem_of_mem_take hc),List.length_take,Nat.min_eq_left hnk,Wp,Nat.add_mul]
       rw[e2,List.getElem?_append_right jB,e3];simp only[List.length_append,WS]at hp;exact hp)
    refine⟨w',_,_,.slice (some ⟨b,0,none⟩) (n+ys.length) cap,?_,hk,g1,?_,g2⟩
    ·have hf:(Builtin.firstCells i.size ys.length (.slice A ys.length cx)).run P w.toWorld=.ok news.toArray w.toWorld:=by
      by_cases h0:ys.length=0
      ·have:news=[]:=by have:=W8;rw[h0,Nat.zero_mul]at this;simpa using this
       subst this;rw[h0];cases A<;>simp[Builtin.firstCells,loadCells,loadCellsFrom]
      ·obtain⟨ad,rfl,I'⟩:=Ww jB;exact run_firstCells_some (P:=P) w.toWorld i.size ys.length ad ys.length cx news (by rw[VC];exact W8) I'
     have ZE:(⟨b,0,none⟩:Addr).add (n*sz2)=⟨b,n*sz2,none⟩:=by rw[j6];simp
     rw[VC]at hf;simp[Builtin.append_,run_underlying hu,sizeOf,typeInfo,hi,Builtin.lenOf,VU,hf,VC,ZE,B']
    ·have g3:w'.nm d (max css.length (n+ys.length))=some (.at b t' sz2):=by rw[<-Vn];exact g3
     exact .rs d _ sz2 _ b t' cap g3 WK VU Wy
   ·-- a new row
    have VV:0<ys.length:=jB;obtain⟨ad,rfl,I'⟩:=Ww VV;have Yf:eH css n ys=css.take n++ys:=by unfold eH;rw[List.drop_eq_nil_of_le jB,List.append_nil]
    have XY:max css.length (n+ys.length)=n+ys.length:=Nat.max_eq_right jB;rw[Yf]at hk Vu Vn;rw[XY]at hk Vn;have hold:cn w (css.take n).flatten (cur.toList.take (n*sz2)):=by
     refine⟨by simp only[List.length_take,Array.length_toList];have:=Nat.mul_le_mul_right sz2 Vd;omega,fun k a v Z0 hv=>?_⟩;rw[List.getElem?_take]at hv;split at hv
     ·rename_i hkn;rw[haK,List.getElem?_take,if_pos hkn]at Z0;exact Xy k a v Z0 (by simpa using hv)
     ·cases hv
    have Ve:=hold.append VF;rw[<-List.flatten_append]at Ve;obtain⟨w',e1,g1,g2,g3⟩:=sH (i:=d) (e:=e') (cap:=grownCap w.toWorld (n+ys.length) cap e') (css:=css.take n++ys) (rest:=Builtin.zeroCells z.cells (grownCap w.toWorld (n+ys.length) cap e'-(n+ys.length))) hw h0 Vu Ve (by rw[Vn];exact W9 _ _) (by rw[Vn];exact Ye _) (hw.later hd (by show css.length<_;rw[Vn];omega)) (fun r hr=>by rw[hd]at hr;cases hr;show css.length<=_;rw[Vn];omega);rw[Vn]at g3;refine⟨w',_,_,_,?_,hk,g1,g3,g2⟩;rw[e1];have:=run_append_grow (P:=P) w.toWorld t ty e' i z hu hi Xn ⟨b,0,none⟩ n cap (cur.toList.take (n*sz2)) (by rw[<-hold.1,WS,VC]) (fun k v hv=>by
     rw[List.getElem?_take]at hv;split at hv
     ·rw[j6,tq b _ cur e' (0,0) hh,Nat.zero_add];simpa using hv
     ·cases hv) ad ys.length cx news (by rw[VC];exact W8) I' jB jB (growslice_fits jB jB)
    rw[this];congr 3
    apply Array.ext';simp
 ·-- nothing
  obtain⟨⟨Wi,h63⟩,d,hd,hk⟩:=h;have:=di Xm;subst this;by_cases hy:ys.length=0
  ·have:ys=[]:=List.length_eq_zero_iff.1 hy;subst this;obtain⟨g1,g2⟩:=yh hw hd e h0;refine⟨_,_,_,.slice none 0 0,?_,hk,g1,.iO _ _ _ _ (NW.cA _ _ _ _),g2⟩;have:(Builtin.append_ #[t,t] ty #[.slice none 0 0,.slice A 0 cx]).run P w.toWorld=.ok (.slice none 0 0) w.toWorld:=by
    simp[Builtin.append_,run_underlying hu,sizeOf,typeInfo,hi,Builtin.lenOf,hf0,storeCells]
   exact this
  ·obtain⟨ad,rfl,I'⟩:=Ww jB;obtain⟨w',e1,g1,g2,g3⟩:=sH (i:=d) (e:=e) (cap:=grownCap w.toWorld ys.length 0 e) (css:=ys) (rest:=Builtin.zeroCells z.cells (grownCap w.toWorld ys.length 0 e-ys.length)) hw h0 (fun y hy=>(hg y hy).1) VF (W9 _ _) (Ye _) (hw.none hd _) (fun r hr=>by rw[hd]at hr;cases hr);refine⟨w',_,_,_,?_,hk,g1,g3,g2⟩;rw[e1];exact run_append_nil w.toWorld t ty e i z hu hi Xn ad ys.length cx news (by rw[VC];exact W8) I' jB jB jB
 ·-- a literal
  rename_i sz' css _;obtain⟨⟨rfl,⟨Wi,h63⟩,hor⟩,d,hd,hk⟩:=h;have Vn:(css++ys).length=css.length+ys.length:=List.length_append;cases Xm with
  |gH _ _ A' c' hx=>
   have ZF:=hx rfl;subst ZF;by_cases hy:ys.length=0
   ·have:ys=[]:=List.length_eq_zero_iff.1 hy;subst this;obtain⟨g1,g2⟩:=yh hw hd e h0;refine⟨_,_,_,.slice A' 0 0,?_,hk,g1,.iO _ _ _ _ (NW.cA _ _ _ _),g2⟩;have:(Builtin.append_ #[t,t] ty #[.slice A' 0 0,.slice A 0 cx]).run P w.toWorld=.ok (.slice A' 0 0) w.toWorld:=by
     cases A'<;>simp[Builtin.append_,run_underlying hu,sizeOf,typeInfo,hi,Builtin.lenOf,hf0,storeCells]
    exact this
   ·obtain⟨ad,rfl,I'⟩:=Ww jB;obtain⟨w',e1,g1,g2,g3⟩:=sH (i:=d) (e:=e) (cap:=grownCap w.toWorld ys.length 0 e) (css:=ys) (rest:=Builtin.zeroCells z.cells (grownCap w.toWorld ys.length 0 e-ys.length)) hw h0 (fun y hy=>(hg y hy).1) VF (W9 _ _) (Ye _) (hw.none hd _) (fun r hr=>by rw[hd]at hr;cases hr);refine⟨w',_,_,_,?_,hk,by simpa using g1,by simpa using g3,by simpa using g2⟩;rw[e1];cases A' with
    |none=>exact run_append_nil w.toWorld t ty e i z hu hi Xn ad ys.length cx news (by rw[VC];exact W8) I' jB (by simp at h63;omega) (by simp at Wi;omega)
    |some b=>
     have:=run_append_grow (P:=P) w.toWorld t ty e i z hu hi Xn b 0 0 [] jE (fun j v h=>by simp at h) ad ys.length cx news (by rw[VC];exact W8) I' jB (by simp at h63;simp;omega) (by rw[Nat.zero_add,nextslicecap_zero jB];simp at Wi;omega)
     simpa using this
  |sl _ _ _ b c' vs hn Wk hx Vi hb hH hao hr=>
   have Vu:∀cs∈css++ys,cs.length=sz':=fun cs h=>by
    rcases List.mem_append.1 h with h|h
    ·exact Vi _ h
    ·exact(hg cs h).1
   obtain⟨hcn,cur,el,WM⟩:=hx rfl;subst hcn;have W2:=gX Vi;have hold:cn w css.flatten ((List.range (css.length*sz')).map vs):=by
    refine⟨by simp[W2],fun k a v Z0 hv=>?_⟩;have hk:k<css.length*sz':=by have:=(List.getElem?_eq_some_iff.1 Z0).1;omega
    obtain⟨i',j,V4,hj,rfl⟩:=u6 hk;rw[qz Vi V4 hj]at Z0;simp only[List.getElem?_map,List.getElem?_range hk,Option.map_some,Option.some.injEq]at hv;subst hv;exact(hr i' j a V4 Z0).mm
   by_cases hy:ys.length=0
   ·
    omega
   ·obtain⟨ad,rfl,I'⟩:=Ww jB;have Ve:=hold.append VF;rw[<-List.flatten_append]at Ve;obtain⟨w',e1,g1,g2,g3⟩:=sH (i:=d) (e:=e) (cap:=grownCap w.toWorld (css.length+ys.length) css.length e) (css:=css++ys) (rest:=Builtin.zeroCells z.cells (grownCap w.toWorld (css.length+ys.length) css.length e-(css.length+ys.length))) hw h0 Vu Ve (by rw[Vn];exact W9 _ _) (by rw[Vn];exact Ye _) (hw.none hd _) (fun r hr=>by rw[hd]at hr;cases hr);rw[Vn]at g3;refine⟨w',_,_,_,?_,hk,g1,g3,g2⟩;rw[e1];have:=run_append_grow (P:=P) w.toWorld t ty e i z hu hi Xn b css.length css.length ((List.range (css.length*sz')).map vs) (by rw[<-hold.1,W2,VC]) (fun k v hv=>by
     have hk:k<css.length*sz':=by have:=(List.getElem?_eq_some_iff.1 hv).1;simpa using this
     obtain⟨i',j,V4,hj,rfl⟩:=u6 hk;simp only[List.getElem?_map,List.getElem?_range hk,Option.map_some,Option.some.injEq]at hv;subst hv;exact hao i' j V4 hj) ad ys.length cx news (by rw[VC];exact W8) I' jB jB (growslice_fits jB jB)
    rw[this];congr 3
    apply Array.ext';simp
 ·exact h.elim
end
section
variable {P:U6}{H:Hp}
variable{w:NW}
def yK(l:U4):cn w (l.map .raw) l:=⟨jE,fun i a v ha hv=>by simp only[List.getElem?_map,Option.map_eq_some_iff]at ha;obtain⟨x,hx,rfl⟩:=ha;rw[hx]at hv;cases hv;exact .raw _⟩
variable{f:FuncId}
def RG{a:AV}{v:Value}{first captured:UU}(h:ay w a v)(hf:BQ a=some (f,first,captured)):∃x y:U3,v=.func (.func f) x y/\cn w first x.toList/\cn w captured y.toList:=by
 unfold BQ at hf;split at hf
 ·rename_i f x y;simp only[Option.some.injEq,Prod.mk.injEq]at hf;obtain⟨rfl,rfl,rfl⟩:=hf;exact⟨x,y,di h,yK _,yK _⟩
 ·simp only[Option.some.injEq,Prod.mk.injEq]at hf;obtain⟨rfl,rfl,rfl⟩:=hf;cases h with
  |eW _ _ vs hl hr=>exact⟨#[],vs,rfl,⟨rfl,fun i a v h=>by simp at h⟩,⟨by simpa using hl,fun i a v h1 h2=>hr i a v h1 (by simpa using h2)⟩⟩
 ·simp only[Option.some.injEq,Prod.mk.injEq]at hf;obtain⟨rfl,rfl,rfl⟩:=hf;cases h with
  |bd _ _ vs hl hr=>exact⟨vs,#[],rfl,⟨by simpa using hl,fun i a v h1 h2=>hr i a v h1 (by simpa using h2)⟩,⟨rfl,fun i a v h=>by simp at h⟩⟩
 ·cases hf
def Im{l:UU}{vs:U4}(h:cn w l vs):bu w l vs.toArray:=⟨by simpa using h.1,fun i a v ha hv=>h.2 i a v ha (by simpa using hv)⟩
def OD  (h : aX P f = true) : ∃ fn, P.funcs[f]? = some fn ∧ fn.body.isSome = true ∧ (fn.name == "runtime.NumGoroutine") = false := by
 unfold aX at h;split at h
 ·rename_i fn hf;simp only[Bool.and_eq_true,Bool.not_eq_true']at h;exact⟨fn,hf,h.1,h.2⟩
 ·cases h
variable{R:UR}
def FH{xs:U3}{l:UU}{o:Oper}(h:(aX P f=true/\dm P f l H R)\/uf P f l H R){a:Act}{next:Act->World->Prop}{Q:Exit->Act->World->Prop}(hcf:(execOp a.eval o).run P w.toWorld=(callFunc f xs).run P w.toWorld)(hw:aL w H)(Vt:bu w l xs)
  (hn:∀(v:Value) (r:AV) (w':NW) (H':Hp),R r H'->aL w' H'->ay w' r v->Ext w H w' H'->next (a.put o.dst v) w'.toWorld):Oper.wp P o a w.toWorld next Q:=by
 rcases h with⟨VG,hc⟩|Vx
 ·obtain⟨fn,VD,hb,XF⟩:=OD VG;have B':(execOp a.eval o).run P w.toWorld=.ok (.enter f xs) w.toWorld:=by
   have VJ:fn.body.isNone=false:=by cases YM:fn.body<;>simp_all
   rw[hcf];simp only[callFunc,Sem.run_bind,run_program,Result.andThen_ok,VD,XF,VJ,Bool.false_eq_true,if_false,Sem.run_pure]
  simp only[Oper.wp,B',Oper.upon_enter];refine(hc w _ hw Vt).mono ?_;rintro e W ⟨v,r,H',w',rfl,rfl,hR,g1,g2,g3⟩;exact hn v r w' H' hR g1 g2 g3
 ·obtain⟨v,w',r,H',B',hR,g1,g2,g3⟩:=Vx w _ hw Vt;rw[<-hcf]at B';simp only[Oper.wp,B',Oper.upon];exact hn v r w' H' hR g1 g2 g3
variable{as:Array Operand}{ts:Array U1}{dst:Option Tmp}{after:Array Edge}{guard:Option (Nat×Bool)}
def xU{f:AV}{args:UU}{fo:Operand}{ty:U1}{pos:String}{ev:U2}(XG:ev fo=f)(Z1:as.toList.map ev=args)
  (h:fi P f args H R) {w:NW} {a:Act} {next:Act->World->Prop} {Q:Exit->Act->World->Prop} (hw:aL w H) (hr:∀x,ay w (ev x) (a.eval x))
  (hn:∀(v:Value) (r:AV) (w':NW) (H':Hp),R r H'->aL w' H'->ay w' r v->Ext w H w' H'->next (a.put dst v) w'.toWorld):Oper.wp P ⟨dst,.call ⟨.value fo,as,ts⟩,ty,pos,after,guard⟩ a w.toWorld next Q:=by
 unfold fi at h;split at h
 ·rename_i f first captured hf
  obtain⟨x,y,hv,hx,hy⟩:=RG (XG ▸ hr fo) hf;have Wo:as.map a.eval=(as.toList.map a.eval).toArray:=by rw[<-Array.toList_map,Array.toArray_toList]
  refine FH h ?_ hw (Im ((hx.append (Z1 ▸ vn hr as.toList)).append hy)) hn;have e:x++(as.toList.map a.eval).toArray++y=(x.toList++as.toList.map a.eval++y.toList).toArray:=by apply Array.ext';simp
  simp only[execOp,resolve,hv,Deferred.ofValue,pure_bind,invoke,Wo,e]
 ·exact h.elim
def T7{t:U1}{m:String}(h:o0 P t m=some f)(v:Value)(W:World):(method (P.types.size+Made.depth) t v m).run P W=.ok (f,v) W:=by
 unfold o0 at h;split at h;rotate_left
 ·cases h
 rename_i ti e ht hu;split at h;rotate_left
 ·cases h
 rename_i r hr;split at h;rotate_left
 ·cases h
 rename_i hp;split at h;rotate_left
 ·cases h
 rename_i g hf;cases h;have WM:r.path.toList=[]:=by have:=Array.isEmpty_iff.1 hp;rw[this]
 obtain⟨n,hn⟩:∃n,P.types.size+Made.depth=n+1:=⟨P.types.size+Made.depth-1,by have hd:=(by decide:Made.depth≠0);omega⟩;rw[hn];unfold method;simp only[Sem.run_bind,run_typeInfo W ht,Result.andThen_ok,hr,WM,follow,Sem.run_pure,hf,receiverAt,run_underlying hu,Place.get]
def Bf{x:AV}{m:String}{args:UU}{fo:Operand}{ty:U1}{pos:String}{ev:U2}(XG:ev fo=x)(Z1:as.toList.map ev=args)
  (h:qt P x m args H R) {w:NW} {a:Act} {next:Act->World->Prop} {Q:Exit->Act->World->Prop} (hw:aL w H) (hr:∀x,ay w (ev x) (a.eval x))
  (hn:∀(v:Value) (r:AV) (w':NW) (H':Hp),R r H'->aL w' H'->ay w' r v->Ext w H w' H'->next (a.put dst v) w'.toWorld):Oper.wp P ⟨dst,.call ⟨.invoke fo m,as,ts⟩,ty,pos,after,guard⟩ a w.toWorld next Q:=by
 unfold qt at h;split at h;rotate_left
 ·exact h.elim
 rename_i t b;split at h;rotate_left
 ·exact h.elim
 rename_i f hf;have hx:=hr fo;rw[XG]at hx;generalize hv:a.eval fo=v at hx;cases hx with
 |iZ _ _ u hu=>
  have Wo:as.map a.eval=(as.toList.map a.eval).toArray:=by rw[<-Array.toList_map,Array.toArray_toList]
  have h':(aX P f=true/\dm P f (b::args) H R)\/uf P f (b::args) H R:=by
   have:fi P (.raw (.func (.func f) #[] #[])) (b::args) H R=((aX P f=true/\dm P f (b::args) H R)\/uf P f (b::args) H R):=by show((aX P f=true/\dm P f ([]++(b::args)++[]) H R)\/uf P f ([]++(b::args)++[]) H R)=_;rw[List.nil_append,List.append_nil]
   rw[<-this];exact h
  have hl:cn w (b::args) (u::as.toList.map a.eval):=cn.append (a:=[b]) (x:=[u]) ⟨rfl,fun i p q hp hq=>by
   match i with
   |0=>cases hp;cases hq;exact hu
   |i+1=>simp at hp⟩ (Z1 ▸ vn hr as.toList)
  refine FH h' (xs:=(u::as.toList.map a.eval).toArray) ?_ hw (Im hl) hn;have e0:(#[Value.iface t u]++as.map a.eval)[0]?=some (.iface t u):=by rw[Array.getElem?_append_left (by show 0<1;decide)];rfl
  have e1:(#[Value.iface t u]++as.map a.eval).extract 1 (#[Value.iface t u]++as.map a.eval).size=as.map a.eval:=jE;have e2:#[u]++as.map a.eval=(u::as.toList.map a.eval).toArray:=by apply Array.ext';simp
  simp only[execOp,resolve,pure_bind,invoke,hv,e0,e1,callMethod,Sem.run_bind,run_program,Result.andThen_ok,T7 hf,e2]
end
variable{P:U6}{args':UU}
@[congr] theorem j2e{f f':AV}{args:UU}(h1:f=f')(h2:args=args'):fi P f args H K=fi P f' args' H K:=by rw[h1,h2]
variable{a':AV}
@[congr] theorem jyk{a:AV}{m:String}{args:UU}(h1:a=a')(h2:args=args'):qt P a m args H K=qt P a' m args' H K:=by rw[h1,h2]
variable{t:U1}
@[congr] theorem jzt:nX P H t K=nX P H t K:=rfl
@[congr] theorem j3t{x x':AV}(h:x=x'):sq H t x K=sq H t x' K:=by rw[h]
@[congr] theorem jv1{t':U1}{a x x':AV}(h1:a=a')(h2:x=x'):pz P t t' a x H K=pz P t t' a' x' H K:=by rw[h1,h2]
@[congr] theorem jtg{b:Builtin}{ts ts':List U1}{as as':UU}(h1:ts=ts')(h2:as=as'):qg P b ts as H K=qg P b ts' as' H K:=by rw[h1,h2]
def l9(ops:Array Oper)(F:UU)(j:Nat)(want:Bool):Option Bool:=match (ops[j]?).bind (·.dst)with
 |some d=>match F[d]? with
  |some (.raw (.bool b))=>some (b == want)
  |some (.gd g (.raw (.bool b)))=>some (g && (b == want))
  |_=>none
 |none=>none
def bJ(F:UU)(x:Operand):AV:=(jZ (cw F x)).2
def gw(F:UU)(o:Op):Bool:=o.operands.toList.all fun x=>(jZ (cw F x)).1
def iM:Op->Bool
 |.call { callee:=.invoke ..,.. }=>true
 |.binOp .eql ..=>true
 |.binOp .neq ..=>true
 |o=>du o
def eR(P:U6)(F:UU)(H:Hp)(g:Bool)(K:AV->Prop):Op->Prop
 |.call { callee:=.value f,args,argTypes }=>∃r,(g=true->gw F (.call ⟨.value f,args,argTypes⟩)=true/\fi P (bJ F f) (args.toList.map (bJ F)) H fun r' H'=>r'=r/\H'=H)/\K (.gd g r)
 |.call { callee:=.invoke f m,args,argTypes }=>∃r,(g=true->gw F (.call ⟨.invoke f m,args,argTypes⟩)=true/\qt P (bJ F f) m (args.toList.map (bJ F)) H fun r' H'=>r'=r/\H'=H)/\K (.gd g r)
 |.pick c a b=>(g=true->(jZ (cw F c)).1=true/\(oo (bJ F c) (cw F a) (cw F b)).1)/\K (.gd g (oo (bJ F c) (cw F a) (cw F b)).2)
 |o=>if iM o then(g=true->gw F o=true/\(vq P (bJ F) H o).1)/\K (.gd g (vq P (bJ F) H o).2)else False
def jw:Op->Bool
 |.call { callee:=.value _,.. }=>true
 |_=>false
def lE(P:U6)(ops:Array Oper)(K:UQ):List Oper->UQ
 |[],F,H=>K F H
 |o::rest,F,H=>match o.guard with
  |none=>vc P (cw F) H o.type (fun r H'=>lE P ops K rest (cQ F o.dst r) H') o.op
  |some (j,want)=>match l9 ops F j want with
   |some b=>if jw o.op || iM o.op then eR P F H b (fun r=>lE P ops K rest (cQ F o.dst r) H) o.op
    else(b=true->vc P (cw F) H o.type (fun r H'=>lE P ops K rest (cQ F o.dst r) H') o.op)/\(b=false->lE P ops K rest (cQ F o.dst .any) H)
   |none=>False
section
variable {P:U6}{ops:Array Oper}{F:UU}{H:Hp}
variable{K:UQ}{w:NW}{tm:U3}
def Cv{o:Oper}{ev:U2}(h:vc P ev H o.type (fun r H'=>K (cQ F o.dst r) H') o.op){Q:Exit->Act->World->Prop}{next:Act->World->Prop}
  (h1:aL w H) (h2:bu w F tm) (hr:∀x,ay w (ev x) ((Act.mk tm []).eval x))
  (hn:∀VQ (w':NW) F' H',K F' H'->aL w' H'->bu w' F' VQ->Ext w H w' H'->next ⟨VQ,[]⟩ w'.toWorld):o.wp P ⟨tm,[]⟩ w.toWorld next Q:=by
 have quiet:((vq P ev H o.op).1/\K (cQ F o.dst (vq P ev H o.op).2) H)->o.wp P ⟨tm,[]⟩ w.toWorld next Q:=fun hq=>by obtain⟨v,B',hv⟩:=zF o h1 hr hq.1;simp only[Oper.wp,B',Oper.upon];rw[Act.put_eq];exact hn _ w _ H hq.2 h1 (h2.put o.dst hv []) (Ext.refl w H)
 have val:∀{w':NW} {H':Hp} {r:AV} {v:Value},(execOp (Act.mk tm []).eval o).run P w.toWorld=.ok (.value v) w'.toWorld->K (cQ F o.dst r) H'->aL w' H'->ay w' r v->Ext w H w' H'->o.wp P ⟨tm,[]⟩ w.toWorld next Q:=fun{w' H' r v} B' hk g1 g2 g3=>by simp only[Oper.wp,B',Oper.upon];rw[Act.put_eq];exact hn _ w' _ H' hk g1 ((h2.ext g3).put o.dst g2 []) g3
 have skip:∀{w':NW} {H':Hp},(execOp (Act.mk tm []).eval o).run P w.toWorld=.ok .skip w'.toWorld->K (cQ F o.dst .any) H'->aL w' H'->Ext w H w' H'->o.wp P ⟨tm,[]⟩ w.toWorld next Q:=fun{w' H'} B' hk g1 g3=>by simp only[Oper.wp,B',Oper.upon];rw[Act.put_eq];exact hn _ w' _ H' hk g1 ((h2.ext g3).put o.dst (.any _) []) g3
 have other:jo P o.op o.type ev H (fun r H'=>K (cQ F o.dst r) H')->o.wp P ⟨tm,[]⟩ w.toWorld next Q:=fun ho=>by
  obtain⟨w',H',r,hk,g1,g2,g3⟩:=ho w (Act.mk tm []).eval o.dst o.pos o.after o.guard h1 (fun x _=>hr x);rcases g3 with⟨v,B',hv⟩|⟨B',rfl⟩
  ·exact val B' hk g1 hv g2
  ·exact skip B' hk g1 g2
 obtain⟨dst,op,ty,pos,after,guard⟩:=o;have vrun:∀{s:Sem Value} {v:Value} {W:World},s.run P w.toWorld=.ok v W->(do pure (Next.value (<-s)):Sem Next).run P w.toWorld=.ok (.value v) W:=fun hs=>by simp[hs]
 cases op
 case box t x=> obtain⟨ho,i,hi,hk⟩:=h;obtain⟨u,w',B',g0,g1,g2⟩:=Oh (P:=P) (t:=t) h1 hi (hr x) ho;exact val (vrun B') hk g1 g0 g2
 case alloc t=>
  simp only[vc,nX]at h;split at h
  ·rename_i zs hz;obtain⟨i,hi,hk⟩:=h;obtain⟨u,w',B',g0,g1,g2⟩:=RL (P:=P) (t:=t) h1 hi hz;exact val (vrun B') hk g1 g0 g2
  ·exact h.elim
 case store t a x=>
  simp only[vc,vM]at h;split at h
  ·rename_i i m k j n ha hk;split at h
   ·rename_i r hb;obtain⟨⟨s1,s2,s3⟩,Vv⟩:=h;have hva:=hr a;rw[ha]at hva;obtain⟨w',B',g1,g2⟩:=Rt (P:=P) h1 hva hb (hr x) s1 hk s2 s3;refine skip ?_ Vv g1 g2;simp only[execOp,Sem.run_bind,B',Result.andThen_ok,Sem.run_pure]
   ·exact h.elim
  ·exact h.elim
 case buildSlice t n parts=>
  have h':oI P H t n (parts.toList.map fun p=>(p.1,ev p.2)) (fun r H'=>K (cQ F dst r) H'):=h;obtain⟨w',H',r,v,B',hk,g1,g2,g3⟩:=Tm (P:=P) (parts:=parts.toList.map fun p=>(p.1,ev p.2)) (vparts:=parts.map fun p=>(p.1,(Act.mk tm []).eval p.2)) h1 jE (fun i a v ha hv=>by simp only[List.getElem?_map,Option.map_eq_some_iff,Array.toList_map,Array.getElem?_toList]at ha hv;obtain⟨x,hx,rfl⟩:=ha;obtain⟨y,hy,rfl⟩:=hv;rw[hx]at hy;cases hy;exact hr x.2) h'
  exact val (vrun B') hk g1 g2 g3
 case binOp op t x y t'=>
  cases op
  case eql=> obtain⟨r,v,B',hk,hv⟩:=IE (P:=P) (K:=fun r H'=>K (cQ F dst r) H') false t x y (hr x) (hr y) h;exact val (vrun B') hk h1 hv (Ext.refl w H)
  case neq=> obtain⟨r,v,B',hk,hv⟩:=IE (P:=P) (K:=fun r H'=>K (cQ F dst r) H') true t x y (hr x) (hr y) h;exact val (vrun B') hk h1 hv (Ext.refl w H)
  all_goals exact quiet h
 case call c=>
  obtain⟨callee,args,argTypes⟩:=c;cases callee
  case value f=>
   refine xU rfl rfl h h1 hr fun v r w' H' hk g1 g2 g3=>?_
   rw[Act.put_eq];exact hn _ w' _ H' hk g1 ((h2.ext g3).put dst g2 []) g3
  case invoke r m=>
   refine Bf rfl rfl h h1 hr fun v r w' H' hk g1 g2 g3=>?_
   rw[Act.put_eq];exact hn _ w' _ H' hk g1 ((h2.ext g3).put dst g2 []) g3
  case builtin b=>
   have Wo:args.map (Act.mk tm []).eval=(args.toList.map (Act.mk tm []).eval).toArray:=by rw[<-Array.toList_map,Array.toArray_toList]
   have bvc:qg P b argTypes.toList (args.toList.map ev) H (fun r H'=>K (cQ F dst r) H')->Oper.wp P ⟨dst,.call ⟨.builtin b,args,argTypes⟩,ty,pos,after,guard⟩ ⟨tm,[]⟩ w next Q:=fun hb=>by obtain⟨w',H',r,v,B',hk,g1,g2,g3⟩:=hb w _ ty (args.map fun|.const _=>true|_=>false) h1 (vn hr args.toList);refine val (w':=w') (v:=v) ?_ hk g1 g2 g3;simp only[execOp,resolve,pure_bind,invoke,Wo];exact B'
   cases b
   case append=>
    simp only[vc]at h;split at h
    ·rename_i t t' a x ht ha;obtain⟨w',H',r,v,B',hk,g1,g2,g3⟩:=h w _ _ ty h1 (hr a) (hr x);refine val (w':=w') (v:=v) ?_ hk g1 g2 g3;have e1:argTypes=#[t,t']:=by rw[<-Array.toArray_toList (xs:=argTypes),ht]
     have e2:args=#[a,x]:=by rw[<-Array.toArray_toList (xs:=args),ha]
     subst e1 e2;simp only[execOp,resolve,pure_bind,invoke,builtin,Sem.run_bind];have:(#[a,x].map (Act.mk tm []).eval)=#[(Act.mk tm []).eval a,(Act.mk tm []).eval x]:=jE;rw[this,B'];rfl
    ·exact h.elim
   case len=>exact quiet h
   case cap=>exact quiet h
   case max=>exact quiet h
   case min=>exact quiet h
   all_goals exact bvc h
 case move=>exact quiet h
 case assign=>exact quiet h
 case pick=>exact quiet h
 case nilCheck=>exact quiet h
 case unOp=>exact quiet h
 case load=>exact quiet h
 case fieldAddr=>exact quiet h
 case field=>exact quiet h
 case indexAddr=>exact quiet h
 case index=>exact quiet h
 case extract=>exact quiet h
 case slice=>exact quiet h
 case makeFunc=>exact quiet h
 case makeInterface=>exact quiet h
 case convert=>exact quiet h
 case build=>exact quiet h
 all_goals first|exact other h|exact(quiet h)
def qF{o:Oper}(hg:o.guard=none)(h:vc P (cw F) H o.type (fun r H'=>K (cQ F o.dst r) H') o.op):nq P ops o F H K:=fun w tm Q next h1 h2 hn=>by unfold tL;rw[if_pos (by simp[Region.wanted,hg])];exact .inl (Cv h h1 h2 (fun x=>h2.eval [] x) hn)
def Q3{j:Nat}{want b:Bool}(h:l9 ops F j want=some b)(h2:bu w F tm):(yielded ops tm j == some want)=b:=by
 unfold l9 at h;split at h
 ·rename_i d hd;split at h<;>try cases h
  ·rename_i b' hF;have D':d<tm.size:=by rw[<-h2.1];exact(List.getElem?_eq_some_iff.1 hF).1
   have:=di (h2.2 d _ _ hF (Array.getElem?_eq_getElem D'));unfold yielded;rw[hd,Option.bind_some,Array.getElem?_eq_getElem D',this];cases b'<;>cases want<;>rfl
  ·rename_i g b' hF;have D':d<tm.size:=by rw[<-h2.1];exact(List.getElem?_eq_some_iff.1 hF).1
   have hr:=h2.2 d _ _ hF (Array.getElem?_eq_getElem D');unfold yielded;rw[hd,Option.bind_some,Array.getElem?_eq_getElem D'];cases hr with
   |gd _ _ _ hh hu=>cases g with
    |true=> have:=di (hh rfl);rw[this];cases b'<;>cases want<;>rfl
    |false=>rw[hu rfl];rfl
 ·cases h
def CZ(h2:bu w F tm)(x:Operand)(ok:(jZ (cw F x)).1=true):ay w (bJ F x) ((Act.mk tm []).eval x):=xq (h2.eval [] x) ok
def kK(F:UU)(x:Operand):AV:=if(jZ (cw F x)).1=true then bJ F x else .any
def BA{f g:U2}{o:Option Operand}(h:∀x∈o.toList,f x=g x):o.map f=o.map g:=by
 cases o with
 |none=>rfl
 |some x=>simp[h x jE]
def uk{ev ev':U2}(o:Op)(h:∀x∈o.operands.toList,ev x=ev' x):vq P ev H o=vq P ev' H o:=by
 cases o
 case call c=>
  obtain⟨callee,args,ts⟩:=c;cases callee
  case builtin b=> simp only[vq];rw[List.map_congr_left (fun x hx=>h x (by simpa[Op.operands,Call.operands]using hx))]
  all_goals rfl
 case slice t a lo hi mx=> simp only[Op.operands]at h;simp only[vq];rw[h a jE,BA (o:=lo) (fun x hx=>h x (by simp at hx ⊢;simp[hx])),BA (o:=hi) (fun x hx=>h x (by simp at hx ⊢;simp[hx])),BA (o:=mx) (fun x hx=>h x (by simp at hx ⊢;simp[hx]))]
 case makeFunc fn a b=> simp only[Op.operands]at h;simp only[vq];rw[List.map_congr_left (l:=a.toList) (fun x hx=>h x (by simp at hx ⊢;simp[hx])),List.map_congr_left (l:=b.toList) (fun x hx=>h x (by simp at hx ⊢;simp[hx]))]
 case build t ps=> simp only[Op.operands]at h;simp only[vq];rw[List.map_congr_left (g:=fun p=>(p.1,ev' p.2)) (fun x hx=>by rw[h x.2 (by simp at hx ⊢;exact⟨_,hx⟩)])]
 all_goals first
  |rfl
  |(simp only[Op.operands]at h;simp only[vq];(repeat rw[h _ jE]))
def sK(h2:bu w F tm)(x:Operand):ay w (kK F x) ((Act.mk tm []).eval x):=by
 unfold kK;split
 ·rename_i h;exact CZ h2 x h
 ·exact .any _
def qC{o:Op}(h:gw F o=true):∀x∈o.operands.toList,kK F x=bJ F x:=fun x hx=>by unfold kK;rw[if_pos];simp only[gw,List.all_eq_true]at h;exact h x hx
def pr{o:Oper}{j:Nat}{want b:Bool}(hg:o.guard=some (j,want))(hb:l9 ops F j want=some b)
  (ht:b=true->∀w tm (Q:Exit->Act->World->Prop) (next:Act->World->Prop),aL w H->bu w F tm->(∀VQ w' F' H',K F' H'->aL w' H'->bu w' F' VQ->Ext w H w' H'->next ⟨VQ,[]⟩ w')->o.wp P ⟨tm,[]⟩ w.toWorld next Q)
  (hf:b=false->∃r,(∀w:NW,ay w r undef)/\K (cQ F o.dst r) H):nq P ops o F H K:=fun w tm Q next h1 h2 hn=>by
 have hy:=Q3 hb h2;unfold tL;have hw:Region.wanted o (yielded ops (Act.mk tm []).tmps)=b:=by unfold Region.wanted;rw[hg];exact hy
 cases b with
 |true=> rw[if_pos hw];exact .inl (ht rfl w tm Q next h1 h2 hn)
 |false=> rw[if_neg (by rw[hw];exact Bool.false_ne_true)];obtain⟨r,hr,hk⟩:=hf rfl;rw[Act.put_eq];exact hn _ w _ H hk h1 (h2.put o.dst (hr w) []) (Ext.refl w H)
def qZ{r:AV}{g:Bool}(hg:g=false)(w:NW):ay w (.gd g r) undef:=.gd _ _ _ (fun h=>by rw[hg]at h;cases h) (fun _=>rfl)
def tK{r:AV}{v:Value}{g:Bool}(hg:g=true)(h:ay w r v):ay w (.gd g r) v:=.gd _ _ _ (fun _=>h) (fun h=>by rw[hg]at h;cases h)
theorem xL{K:UQ}:∀(l:List Oper) (F:UU) (H:Hp),lE P ops K l F H->wq P ops K l F H
 |[],F,H,h=>Jo h
 |o::rest,F,H,h=>by
  refine KL ?_;simp only[lE]at h;split at h
  ·rename_i hg;exact(qF (K:=fun F' H'=>lE P ops K rest F' H') hg h).mono fun F' H' hk=>xL rest F' H' hk
  ·rename_i j want hg;split at h
   ·rename_i b hb;split at h
    ·refine nq.mono (K:=fun F' H'=>lE P ops K rest F' H') ?_ fun F' H' hk=>xL rest F' H' hk
     obtain⟨dst,op,ty,pos,after,guard⟩:=o;unfold eR at h;split at h
     ·rename_i f args argTypes XV;cases XV;obtain⟨r,hc,hk⟩:=h;refine pr hg hb (fun VK w tm Q next h1 h2 hn=>?_) (fun VK=>⟨_,qZ VK,hk⟩);obtain⟨ok,VG⟩:=hc VK;have XH:=qC ok;have e1:kK F f=bJ F f:=XH f (by simp[Op.operands,Call.operands]);have e2:args.toList.map (kK F)=args.toList.map (bJ F):=List.map_congr_left fun x hx=>XH x (by simp[Op.operands,Call.operands]at hx ⊢;exact .inr hx)
      refine xU (ev:=kK F) e1 e2 VG h1 (sK h2) fun v r' w' H' hR g1 g2 g3=>?_
      obtain⟨rfl,rfl⟩:=hR;rw[Act.put_eq];exact hn _ w' _ H' hk g1 ((h2.ext g3).put dst (tK VK g2) []) g3
     ·rename_i f m args argTypes XV;cases XV;obtain⟨r,hc,hk⟩:=h;refine pr hg hb (fun VK w tm Q next h1 h2 hn=>?_) (fun VK=>⟨_,qZ VK,hk⟩);obtain⟨ok,VG⟩:=hc VK;have XH:=qC ok;have e1:kK F f=bJ F f:=XH f (by simp[Op.operands,Call.operands]);have e2:args.toList.map (kK F)=args.toList.map (bJ F):=List.map_congr_left fun x hx=>XH x (by simp[Op.operands,Call.operands]at hx ⊢;exact .inr hx)
      refine Bf (ev:=kK F) e1 e2 VG h1 (sK h2) fun v r' w' H' hR g1 g2 g3=>?_
      obtain⟨rfl,rfl⟩:=hR;rw[Act.put_eq];exact hn _ w' _ H' hk g1 ((h2.ext g3).put dst (tK VK g2) []) g3
     ·rename_i c x y XV;simp only at XV;subst XV;obtain⟨hs,hk⟩:=h;refine pr hg hb (fun VK w tm Q next h1 h2 hn=>?_) (fun VK=>⟨_,qZ VK,hk⟩);obtain⟨ok,hq⟩:=hs VK;obtain⟨v,B',hv⟩:=IL (P:=P) (ρ:=(Act.mk tm []).eval) (dst:=dst) (ty:=ty) (pos:=pos) (after:=after) (guard:=guard) (CZ h2 c ok) (h2.eval [] x) (h2.eval [] y) hq;simp only[Oper.wp,B',Oper.upon];rw[Act.put_eq];exact hn _ w _ H hk h1 (h2.put dst (tK VK hv) []) (Ext.refl w H)
     ·split at h
      ·obtain⟨hs,hk⟩:=h;refine pr hg hb (fun VK w tm Q next h1 h2 hn=>?_) (fun VK=>⟨_,qZ VK,hk⟩);obtain⟨ok,hq⟩:=hs VK;rw[<-uk _ (qC ok)]at hq;obtain⟨v,B',hv⟩:=zF (ρ:=(Act.mk tm []).eval) ⟨dst,op,ty,pos,after,guard⟩ h1 (sK h2) hq;simp only[Oper.wp,B',Oper.upon];rw[Act.put_eq];rw[uk _ (qC ok)]at hv;exact hn _ w _ H hk h1 (h2.put dst (tK VK hv) []) (Ext.refl w H)
      ·exact h.elim
    ·refine nq.mono (K:=fun F' H'=>lE P ops K rest F' H') ?_ fun F' H' hk=>xL rest F' H' hk
     refine pr hg hb (fun VK w tm Q next h1 h2 hn=>?_) (fun VK=>⟨_,fun w=>.any _,h.2 VK⟩);exact Cv (h.1 VK) h1 h2 (fun x=>h2.eval [] x) hn
   ·exact h.elim
def Tg{id:Nat}{l:List Oper}{Q:Exit->UQ}(h:lE P l.toArray (Q .normal) l F H):dL P (.region id l.toArray false) Q F H:=
 Fs (by simpa using xL l F H h)
-- the results of a body
def jV(P:U6)(H:Hp)(F:UU):List ResultVar->Option UU
 |[]=>some []
 |.tmp t::rest=>(jV P H F rest).map (F.getD t .any::·)
 |.cell a t::rest=>match pQ H (F.getD a .any),dD P t,dc P t with
  |some (_,cs),some ag,some k=>(jV P H F rest).map (tY ag k cs::·)
  |_,_,_=>none
def kR(P:U6)(H:Hp)(F:UU):List ResultVar->Prop
 |[]=>True
 |.tmp _::rest=>kR P H F rest
 |.cell a t::rest=>match pQ H (F.getD a .any),dc P t with
  |some (c,cs),some k=>(c/\k<=cs.length/\1<=cs.length)/\kR P H F rest
  |_,_=>False
def kS:UU->AV
 |[r]=>r
 |rs=>.ba rs
def vt(tm:U3):ResultVar->Sem Value
 |.tmp t=>pure (tm.getD t undef)
 |.cell a t=>do loadVar t (<-asAddr (tm.getD a undef))
def Rg(fn:Func)(tm:U3):results fn tm=(do let vs <-fn.results.mapM (vt tm);pure (if h:vs.size=1 then vs[0]else .tuple vs)):=rfl
theorem BD{w:NW}{tm:U3}(hw:aL w H)(h2:bu w F tm):∀(rs:List ResultVar) (out:UU),kR P H F rs->jV P H F rs=some out->
  ∃vs:U4,cn w out vs/\(rs.mapM (vt tm)).run P w.toWorld=.ok vs w.toWorld
 |[],out,_,h=>by simp[jV]at h;subst h;exact⟨[],⟨rfl,fun i a v ha=>by simp at ha⟩,jE⟩
 |.tmp t::rest,out,hok,h=>by
  simp only[jV,Option.map_eq_some_iff]at h;obtain⟨l,hl,rfl⟩:=h;obtain⟨vs,Vt,B'⟩:=BD hw h2 rest l hok hl;refine⟨tm.getD t undef::vs,⟨by simp[Vt.1],fun i a v ha hv=>?_⟩,?_⟩
  ·cases i with
   |zero=> simp only[List.getElem?_cons_zero,Option.some.injEq]at ha hv;subst ha hv;exact h2.eval [] (.tmp t)
   |succ i=>exact Vt.2 i a v (by simpa using ha) (by simpa using hv)
  ·rw[List.mapM_cons];simp only[vt,Sem.run_bind,Sem.run_pure,Result.andThen_ok];rw[B'];rfl
 |.cell ad t::rest,out,hok,h=>by
  simp only[jV]at h;simp only[kR]at hok;split at h
  ·rename_i c cs ag k e1 e2 e3;rw[e1,e3]at hok;obtain⟨⟨hc,VA,Vk⟩,hok⟩:=hok;simp only[Option.map_eq_some_iff]at h;obtain⟨l,hl,rfl⟩:=h;obtain⟨vs,Vt,B'⟩:=BD hw h2 rest l hok hl;obtain⟨addr,us,hv,I',hr⟩:=IJ (h2.eval [] (.tmp ad)) hw e1 hc;obtain⟨v,haL,hvr⟩:=J4 (P:=P) e2 e3 VA Vk I' hr;have Vp:tm.getD ad undef=.pointer (some addr):=hv;refine⟨v::vs,⟨by simp[Vt.1],fun i a u ha hu=>?_⟩,?_⟩
   ·cases i with
    |zero=> simp only[List.getElem?_cons_zero,Option.some.injEq]at ha hu;subst ha hu;exact hvr
    |succ i=>exact Vt.2 i a u (by simpa using ha) (by simpa using hu)
   ·rw[List.mapM_cons];have ha:(asAddr (tm.getD ad undef)).run P w.toWorld=.ok addr w.toWorld:=by rw[Vp];rfl
    have hf:(vt tm (.cell ad t)).run P w.toWorld=.ok v w.toWorld:=by simp only[vt,Sem.run_bind,ha,haL,Result.andThen_ok]
    simp only[Sem.run_bind,hf,B',Sem.run_pure,Result.andThen_ok]
  ·cases h
def Ot{fn:Func}{out:UU}(hw:aL w H)(h2:bu w F tm)(hok:kR P H F fn.results.toList)(h:jV P H F fn.results.toList=some out):∃v,(results fn tm).run P w.toWorld=.ok v w.toWorld/\ay w (kS out) v:=by
 obtain⟨vs,Vt,B'⟩:=BD (P:=P) hw h2 _ out hok h;have hm:(fn.results.mapM (vt tm)).run P w.toWorld=.ok vs.toArray w.toWorld:=by rw[Array.mapM_eq_mapM_toList];simp only[Sem.run_map,B',Result.andThen_ok]
 have hr:(results fn tm).run P w.toWorld=.ok (if h:vs.toArray.size=1 then vs.toArray[0]else .tuple vs.toArray) w.toWorld:=by rw[Rg];simp only[Sem.run_bind,hm,Result.andThen_ok,Sem.run_pure]
 refine⟨_,hr,?_⟩;match vs,out,Vt with
 |[],[],Vt=>exact .ba _ _ rfl fun i a v ha=>by simp at ha
 |[v],[a],Vt=>exact Vt.2 0 _ _ rfl rfl
 |v::v'::vs,a::a'::out,Vt=>exact .ba _ _ (by have:=Vt.1;simpa using this) fun i x y hx hy=>Vt.2 i x y hx (by simpa using hy)
 |[],_::_,Vt=>have:=Vt.1;simp at this
 |_::_,[],Vt=>have:=Vt.1;simp at this
 |[_],_::_::_,Vt=>have:=Vt.1;simp at this
 |_::_::_,[_],Vt=>have:=Vt.1;simp at this
def lQ(P:U6)(fn:Func)(R:AV->List U8->Prop):Exit->UQ
 |.normal,F,H|.ret,F,H=>∃out r H',jV P H F fn.results.toList=some out/\kR P H F fn.results.toList/\iT (kS out) H r H'/\R r H'.l
 |_,_,_=>False
def EH{f:FuncId}{fn:Func}{c:Code}{args:UU}{l:UT}{R:AV->List U8->Prop}(hf:P.funcs[f]?=some fn)(hb:fn.body=some c)(h:dL P c (lQ P fn R) (args++List.replicate (fn.ntmps-args.length) .any) (entry l)) :
  af P f args l R:=fun w vs h1 h2=>by
 have O':args.length=vs.size:=h2.1;refine calls_of_wp hf hb (wp_mono (h w _ h1 ?_) ?_)
 ·refine⟨by simp[O'],fun i a v ha hv=>?_⟩;rcases Nat.lt_or_ge i args.length with hi|hi
  ·rw[List.getElem?_append_left hi]at ha;rw[Array.getElem?_append_left jB]at hv;exact h2.2 i a v ha hv
  ·rw[List.getElem?_append_right hi]at ha;rw[List.getElem?_replicate]at ha;split at ha<;>cases ha;exact .any _
 ·rintro e a W ⟨tm,F',H',w',rfl,rfl,hq,g1,g2,g3⟩;have fin:(∃out r V2,jV P H' F' fn.results.toList=some out/\kR P H' F' fn.results.toList/\iT (kS out) H' r V2/\R r V2.l)->
    ∃v,(results fn tm).run P w'.toWorld=.ok v w'.toWorld/\∃v' r V2 w'',w'.toWorld=NW.toWorld w''/\Ending.returned v=.returned v'/\R r (Hp.l V2)/\aL w'' V2/\ay w'' r v'/\fX w (entry l) w'' V2:=by
   rintro⟨out,r,V2,e1,e0,e2,e3⟩;obtain⟨v,B',hv⟩:=Ot g1 g2 e0 e1;obtain⟨w'',k0,k1,k2,k3⟩:=e2 w' v g1 hv;exact⟨v,B',v,r,V2,w'',k0.symm,rfl,e3,k1,k2,g3.trans k3⟩
  cases e with
  |normal=>exact⟨rfl,fin hq⟩
  |ret=>exact⟨rfl,fin hq⟩
  |exit id=>exact hq.elim
  |goto l=>exact hq.elim
  |panic ch=>exact hq.elim
  |outgrown=>exact hq.elim
end
-- encoders of Lean data
class bG{α:Type}(enc:α->List AV)(sz:outParam Nat):Prop where
 len:∀x,(enc x).length=sz
 cZ:∀x,cZ (enc x)=true
 free:∀x,aY eJ (enc x)=true
def QL(q:U5)(css:US):Prop:=∀cs∈css,aY q cs=true
def xi(q:U5):Row->Prop
 |.var _ cs=>aY q cs=true
 |.aJ _ _ css=>QL q css
 |.mp _ vs=>aY q vs=true
theorem yI{q:U5}:∀(a b:UU),aY q (a++b)=(aY q a && aY q b)
 |[],b=>by simp[aY]
 |x::a,b=>by simp[aY,yI a b,Bool.and_assoc]
theorem F9{q:U5}:∀{css:US},QL q css->aY q css.flatten=true
 |[],_=>rfl
 |cs::css,h=>by rw[List.flatten_cons,yI,h cs jE,F9 (css:=css) fun c hc=>h c (by simp[hc])];rfl
variable{q:U5}
def Eb{r:Row}(h:xi q r):aY q r.cells=true:=by
 cases r with
 |var t cs=>exact h
 |aJ e sz css=>exact F9 h
 |mp ks vs=>exact h
def TI(q:U5):QL q []:=fun _ h=>by simp at h
def Um{a b:US}(h:QL q a)(k:QL q b):QL q (a++b):=fun c hc=>(List.mem_append.1 hc).elim (h c) (k c)
variable{α:Type}
def ot{enc:α->UU}[e:bG enc sz](l:List α):QL q (l.map enc):=fun c hc=>by obtain⟨x,_,rfl⟩:=List.mem_map.1 hc;exact gf (fun _ h=>by cases h) _ (e.free x)
def Uk(sz:Nat):Good sz []:=fun _ h=>by simp at h
def Iu{enc:α->UU}[e:bG enc sz](l:List α):Good sz (l.map enc):=fun c hc=>by obtain⟨x,_,rfl⟩:=List.mem_map.1 hc;exact⟨e.len x,e.cZ x⟩
-- calls
def re:List U8->Hp->Prop
 |[],_=>True
 |(i,r)::l,H=>H.get i=some r/\re l H
theorem Cd:∀{l:UT} {H:Hp},re l H->∀i r,aC l i=some r->H.get i=some r
 |[],_,_,i,r,h=>by cases h
 |(j,s)::l,H,hf,i,r,h=>by
  simp only[aC]at h;split at h
  ·rename_i e;subst e;cases h;exact hf.1
  ·exact Cd hf.2 i r h
def rN(q:U5):List U8->Prop
 |[]=>True
 |(_,r)::l=>xi q r/\rN q l
theorem Ha{q:U5}:∀{l:UT},rN q l->∀i r,aC l i=some r->aY q r.cells=true
 |[],_,i,r,h=>by cases h
 |(j,s)::l,hf,i,r,h=>by
  simp only[aC]at h;split at h
  ·cases h;exact Eb hf.1
  ·exact Ha hf.2 i r h
def oN(L:UZ)(H:Hp):List U8->Prop
 |[]=>True
 |(i,_)::l=>(L.contains i=true\/H.get i=none)/\oN L H l
theorem Au{L:UZ}{H:Hp}:∀{l:UT},oN L H l->∀i r,aC l i=some r->L.contains i=true\/H.get i=none
 |[],_,i,r,h=>by cases h
 |(j,s)::l,hf,i,r,h=>by
  simp only[aC]at h;split at h
  ·rename_i e;subst e;exact hf.1
  ·exact Au hf.2 i r h
section
variable {P:U6}{f:FuncId}{args:UU}{H:Hp}{l:UT}{K:UR}
def MH{R:AV->List U8->Prop}(hc:af P f args l R)(h1:re l H)(h2:aY (fun i=>(ids l).contains i) args=true)(h3:rN (fun i=>(ids l).contains i) l)
  (hk:∀r l',R r l'->oN (ids l) H l'/\(ids l').Nodup/\K r ⟨H.B,gI H.l l'⟩):dm P f args H K:=fun _ _ hw hv=>
 zm hc (Cd h1) h2 (Ha h3) (fun r l' hR=>⟨Au (hk r l' hR).1,(hk r l' hR).2⟩) hw hv
def v6{r0:AV}{l0:UT}(hc:af P f args l fun r l'=>r=r0/\l'=l0)(h1:re l H)(h2:aY (fun i=>(ids l).contains i) args=true)(h3:rN (fun i=>(ids l).contains i) l)
  (h4:oN (ids l) H l0) (h5:(ids l0).Nodup) (hk:K r0 ⟨H.B,gI H.l l0⟩):dm P f args H K:=
 MH hc h1 h2 h3 fun r l' ⟨e1,e2⟩=>by rw[e1,e2];exact⟨h4,h5,hk⟩
def zX{r:AV}(hc:aD P f args r)(h2:aY eJ args=true)(hk:K r H):dm P f args H K:=
 v6 hc trivial (by simpa[ids]using h2) trivial trivial (by simp[ids]) hk
def nw{args:UU}(hc:aX P f=true)(h:dm P f args H K):fi P (.raw (.func (.func f) #[] #[])) args H K:=.inl ⟨hc,by simpa using h⟩
def OG{cs:UU}{args:UU}(hc:aX P f=true)(h:dm P f (args++cs) H K):fi P (.eW f cs) args H K:=.inl ⟨hc,by simpa using h⟩
def TN{args:UU}(h:uf P f args H K):fi P (.raw (.func (.func f) #[] #[])) args H K:=.inr (by simpa using h)
end
-- things of which D holds are let go of, and may be read from then on
def fB(D:U5):List U8->UT
 |[]=>[]
 |(j,s)::l=>bif D j then fB D l else(j,s)::fB D l
theorem AJ(D:U5):∀(l:UT) (i:Nat),aC (fB D l) i=if D i=true then none else aC l i
 |[],i=>by simp[fB,aC]
 |(k,s)::l,i=>by
  have ih:=AJ D l i;unfold fB;cases hk:D k
  ·simp only[cond_false,aC];split
   ·rename_i h;subst h;rw[hk];simp
   ·exact ih
  ·simp only[cond_true,aC];rw[ih];split
   ·rfl
   ·rename_i h;rw[if_neg];rintro rfl;exact h hk
def NW.cX(w:NW)(D:U5):NW:={ w with O:=fun b=>w.O b/\∀i m t s,D i=true->w.nm i m≠some (.at b t s),nm:=fun j n=>if D j=true then none else w.nm j n }
def iv(D:U5):U5:=fun i=>!(D i)
def iV(D:U5):List U8->Prop
 |[]=>True
 |(j,r)::l=>(D j=true\/xi (iv D) r)/\iV D l
theorem BJ{D:U5}:∀{l:UT},iV D l->∀{i:Nat} {r:Row},aC l i=some r->D i=false->aY (iv D) r.cells=true
 |[],_,i,r,h,_=>by cases h
 |(j,s)::l,hf,i,r,h,hd=>by
  simp only[aC]at h;split at h
  ·rename_i e;subst e;cases h;rcases hf.1 with h|h
   ·rw[hd]at h;cases h
   ·exact Eb h
  ·exact BJ hf.2 h hd
def qi(w:NW)(D:U5):Keep (iv D) w (w.cX D):=⟨Nat.le_refl _,fun b _ h=>⟨rfl,fun h'=>h h'.1⟩,fun j n z hq h=>by show(if D j=true then none else w.nm j n)=_;rw[if_neg (by unfold iv at hq;intro e;rw[e]at hq;cases hq)];exact h⟩
variable{D:U5}
def E4{w:NW}(r:aL w H)(hB:H.B.all (iv D)=true)(hl:iV D H.l):aL (w.cX D) ⟨H.B,fB D H.l⟩/\fX w H (w.cX D) ⟨H.B,fB D H.l⟩:=by
 have VW:∀j n,(w.cX D).nm j n=if D j=true then none else w.nm j n:=fun _ _=>rfl
 have gE:∀j,(Hp.mk H.B (fB D H.l)).get j=if D j=true then none else H.get j:=fun j=>AJ D H.l j
 refine⟨{ rows:=fun j s hj=>?_,dn:=fun j n z hz=>?_,inj:=fun j n j' n' b t s t' s' h1 h2=>?_,own:=fun j n b t s h=>?_,fin:=fun b hb=>r.fin b hb.1,bS:=r.bS.aW (qi w D) },{ qi w D with names:=fun j n z hq h=>?_,os:=rfl,tape:=rfl,output:=rfl,rest:=fun b hb hO Vj=>⟨rfl,⟨hO,fun i m t s _=>Vj _ _ _ _⟩,fun j n t s h=>?_⟩,base:=rfl }⟩
 ·rw[gE]at hj;split at hj
  ·cases hj
  ·rename_i e;obtain⟨h1,z,h2,h3⟩:=r.rows j s hj;refine⟨h1,z,by rw[VW,if_neg e];exact h2,?_⟩;cases z with
   |nil=>exact h3
   |«at» b t st=> obtain⟨g1,cur,g2,g3,g5⟩:=h3;exact⟨g1,cur,g2,g3,fun k a v ha hv=>(g5 k a v ha hv).aW (qi w D) (mg (BJ hl hj (by simpa using e)) ha)⟩
 ·rw[VW]at hz;split at hz
  ·cases hz
  ·rename_i e;obtain⟨r',h1,h2⟩:=r.dn j n z hz;exact⟨r',by rw[gE,if_neg e];exact h1,h2⟩
 ·rw[VW]at h1 h2;split at h1
  ·cases h1
  ·split at h2
   ·cases h2
   ·exact r.inj _ _ _ _ _ _ _ _ _ h1 h2
 ·rw[VW]at h;split at h
  ·cases h
  ·rename_i e;exact⟨r.own _ _ _ _ _ h,fun i m t' s' hd h'=>e (by rw[r.inj _ _ _ _ _ _ _ _ _ h h'];exact hd)⟩
 ·have hq:H.B.contains j=true:=hq;have:=List.all_eq_true.1 hB j (List.contains_iff_mem.1 hq);rw[VW,if_neg (by intro e;unfold iv at this;rw[e]at this;cases this)];exact h
 ·rw[VW]at h;split at h
  ·cases h
  ·exact Vj _ _ _ _ h
inductive db(D:Nat->Bool)(H:Hp):AV->AV->Prop
 |same (a:AV) (h:a.all (iv D)=true):db D H a a
 |drop (a:AV):db D H a .any
 |nil (sz:Nat) (d:List AV):db D H (.raw (.slice none 0 0)) (.sl false sz [] d)
 |lit (x:Bool) (sz:Nat) (css:List (List AV)) (d d':List AV):db D H (.sl x sz css d) (.sl false sz css d')
 |agg (cs ds:List AV) (hl:cs.length=ds.length) (h:∀(i:Nat) c d,cs[i]?=some c->ds[i]?=some d->db D H c d):db D H (.agg cs) (.agg ds)
 |ba (cs ds:List AV) (hl:cs.length=ds.length) (h:∀(i:Nat) c d,cs[i]?=some c->ds[i]?=some d->db D H c d):db D H (.ba cs) (.ba ds)
 |BL (dd:List AV) (i sz m n:Nat) (e:TypeId) (css:List (List AV)) (dss:List (List AV)) (hD:D i=true) (hi:H.get i=some (.aJ e sz css)) (hm:m=css.length) (hn:n<=m) (hd:dss.length=n) (Yx:∀ds∈dss,ds.length=sz) (Vj:QL eJ dss)
   (h:∀k (j:Nat) c d,k<n->(css.getD k [])[j]?=some c->(dss.getD k [])[j]?=some d->db D H c d):db D H (.rs i m sz n) (.sl false sz dss dd)
 |pt (i k j:Nat) (t:TypeId) (cs ds:List AV) (hD:D i=true) (hi:H.get i=some (.var t cs)) (hl:(cs.drop j).length=ds.length) (Vj:aY eJ ds=true) (h:∀(q:Nat) c d,(cs.drop j)[q]?=some c->ds[q]?=some d->db D H c d):db D H (.pt i 0 k j) (.ip ds)
def db.sound{w:NW}(hw:aL w H){a:AV}(h:db D H a a'):∀{v:Value},ay w a v->ay (w.cX D) a' v:=by
 induction h with
 |same a h=>intro v hv;exact hv.aW (qi w D) h
 |drop a=>intro v hv;exact .any v
 |nil sz d=>intro v hv;have:=di hv;subst this;exact .gH _ _ _ _ (fun e=>by cases e)
 |lit x sz css d d'=>
  intro v hv;have Vp:=hv.aW (qi w D) (by simp only[AV.all]);cases Vp with
  |gH _ _ A c _=>exact .gH _ _ _ _ (fun e=>by cases e)
  |sl _ _ _ a c vs hn hc hx Vi hb hH I' hr=>exact .sl _ _ _ a c vs hn hc (fun e=>by cases e) Vi hb hH I' hr
 |agg cs ds hl _ ih=>
  intro v hv;cases hv with
  |agg _ vs Wt hr=>
   refine .agg ds vs jB fun i d v hd hv=>?_
   have hi:i<cs.length:=by rw[hl];exact(List.getElem?_eq_some_iff.1 hd).1
   have hc:cs[i]?=some cs[i]:=List.getElem?_eq_getElem hi;exact ih i _ d hc hd (hr i _ v hc hv)
 |ba cs ds hl _ ih=>
  intro v hv;cases hv with
  |ba _ vs Wt hr=>
   refine .ba ds vs jB fun i d v hd hv=>?_
   have hi:i<cs.length:=by rw[hl];exact(List.getElem?_eq_some_iff.1 hd).1
   have hc:cs[i]?=some cs[i]:=List.getElem?_eq_getElem hi;exact ih i _ d hc hd (hr i _ v hc hv)
 |BL dd i sz m n e css dss hD hi hm hn hd Yx Vj _ ih=>
  intro v hv;subst hm;cases hv with
  |iO _ _ _ A Vm=> have:dss=[]:=List.length_eq_zero_iff.1 jB;rw[this];exact .gH _ _ _ _ (fun h=>by cases h)
  |rs _ _ _ _ b t c Vm hc Vd Wy=>
   by_cases h0:n=0
   ·have:dss=[]:=List.length_eq_zero_iff.1 jB;rw[this,h0];exact .gH _ _ _ _ (fun h=>by cases h)
   ·have hsz0:0<sz:=Wy;have:=ay.sl (w:=w.cX D) (d:=dd) false sz dss ⟨b,0,none⟩ c (fun k=>(w.cell? ⟨b,k,none⟩).getD undef) jB jB (fun h=>by cases h) Yx (hw.lt Vm) (fun h=>h.2 i _ t sz hD Vm) (fun k j hk hj=>by
     obtain⟨_,_,_,v,h1,h2⟩:=rP hw hi Vm (k:=k) (j:=j) jB hj;show w.cell? _=_;rw[j6,Nat.zero_add,h1];rfl) (fun k j u hk hu=>by
     have hj:j<sz:=by have:=(List.getElem?_eq_some_iff.1 hu).1;rwa [u0 Yx hk]at this
     obtain⟨_,Ve,_,v,h1,h2⟩:=rP hw hi Vm (k:=k) (j:=j) jB hj;have hlc:=u0 Ve (show k<css.length from jB);have hc:(css.getD k [])[j]?=some ((css.getD k [])[j]' jB):=List.getElem?_eq_getElem jB;rw[h1];have VX:dss.getD k []∈dss:=by
      have:dss.getD k []=dss[k]:=by simp[hk]
      rw[this];exact List.getElem_mem _
     exact(ih k j _ u jB hc hu (h2 _ hc)).lm (mg (Vj _ VX) hu))
    rw[hd]at this;exact this
 |pt i k j t cs ds hD hi hl Vj _ ih=>
  intro v hv;cases hv with
  |pt _ _ _ _ b t' s Vm=>
   obtain⟨hok,z,hz,Vq⟩:=hw.rows i _ hi;have:z=.at b t' s:=by have hz:w.nm i 0=some z:=hz;rw[Vm]at hz;cases hz;rfl
   subst this;obtain⟨rfl,cur,hh,⟨hs,Vd⟩,hr⟩:=Vq;have Wy:(Row.var t cs).bE=0:=rfl;have Vd:cs.length<=t':=Vd;have e0:k*(Row.var t cs).bE+j=j:=by rw[Wy];omega
   rw[e0];refine .ip ds ⟨b,j,none⟩ (fun q=>cur.getD (j+q) undef) (hw.lt Vm) (fun h=>h.2 i 0 _ _ hD Vm) (fun q hq=>?_) (fun q u hu=>?_)
   ·show w.cell? _=_;simp only[List.length_drop]at hl;have:j+q<cur.size:=jB;rw[j6,tq b _ cur _ (0,0) hh];simp[this]
   ·have Zt:q<(cs.drop j).length:=by rw[hl];exact(List.getElem?_eq_some_iff.1 hu).1
    have hc:(cs.drop j)[q]?=some (cs.drop j)[q]:=List.getElem?_eq_getElem Zt;simp only[List.length_drop]at Zt;have:j+q<cur.size:=jB;refine(ih q _ u hc hu (hr (j+q) _ _ (by rw[<-List.getElem?_drop];exact hc) ?_)).lm (mg Vj hu);simp[this]
theorem db.rs{D:U5}{H:Hp}(dd:UU)(i sz n:Nat)(e:U1)(css:US)(dss:US)(hD:D i=true)(hi:H.get i=some (.aJ e sz css))(hn:n=css.length)(hd:dss.length=css.length)(Yx:∀ds∈dss,ds.length=sz)(Vj:QL eJ dss)
  (h:∀k (j:Nat) c d,k<css.length->(css.getD k [])[j]?=some c->(dss.getD k [])[j]?=some d->db D H c d):db D H (.rs i n sz n) (.sl false sz dss dd):=
 .BL dd i sz n n e css dss hD hi hn jl jB Yx Vj fun k j c d hk=>h k j c d jB
def db.row{dd:UU}{i:Nat}{e:U1}{enc:α->UU}[he:bG enc sz](l:List α)(hD:D i=true)(hi:H.get i=some (.aJ e sz (l.map enc)))(hn:n=l.length):db D H (.rs i n sz n) (.sl false sz (l.map enc) dd):=
 .rs dd i sz n e _ _ hD hi (by simpa using hn) rfl (fun ds Yx=>by obtain⟨x,_,rfl⟩:=List.mem_map.1 Yx;exact he.len x) (ot l) fun k j c d hk h1 h2=>by
  rw[h1]at h2;cases h2;have Vv:k<l.length:=by simpa using hk
  have e1:(l.map enc).getD k []=enc l[k]:=by simp[Vv]
  rw[e1]at h1;exact .same c (rk (fun _ h=>by cases h) _ (mg (he.free _) h1))
def iT.free{r r':AV}(D:U5)(hB:H.B.all (iv D)=true)(hl:iV D H.l)(hv:db D H r r'):iT r H r' ⟨H.B,fB D H.l⟩:=fun w v h1 h2=>by obtain⟨a,b⟩:=E4 h1 hB hl;exact⟨w.cX D,rfl,a,hv.sound h1 h2,b⟩
def bD(D:U5)(H:Hp):UU->UU->Prop
 |[],[]=>True
 |a::l,b::m=>db D H a b/\bD D H l m
 |_,_=>False
theorem bD.get{D:U5}{H:Hp}:∀{l m:UU},bD D H l m->l.length=m.length/\∀(i:Nat) a b,l[i]?=some a->m[i]?=some b->db D H a b
 |[],[],_=>⟨rfl,fun i a b h=>by simp at h⟩
 |x::l,y::m,h=>by
  have ih:=bD.get h.2;refine⟨by simp[ih.1],fun i a b ha hb=>?_⟩;cases i with
  |zero=>simp at ha hb;subst ha hb;exact h.1
  |succ i=>exact ih.2 i a b (by simpa using ha) (by simpa using hb)
theorem bD.agg{D:U5}{H:Hp}{cs ds:UU}(h:bD D H cs ds):db D H (.agg cs) (.agg ds):=.agg cs ds h.get.1 h.get.2
theorem bD.ba{D:U5}{H:Hp}{cs ds:UU}(h:bD D H cs ds):db D H (.ba cs) (.ba ds):=.ba cs ds h.get.1 h.get.2
def dI.free{F F':UU}(D:U5)(hB:H.B.all (iv D)=true)(hl:iV D H.l)(hv:bD D H F F'):dI F H F' ⟨H.B,fB D H.l⟩:=fun w tm h1 h2=>by
 obtain⟨a,b⟩:=E4 h1 hB hl;obtain⟨Wt,hg⟩:=hv.get;refine⟨w.cX D,rfl,a,⟨by rw[<-Wt];exact h2.1,fun i c v hc hv=>?_⟩,b⟩;have hi:i<F.length:=by rw[Wt];exact(List.getElem?_eq_some_iff.1 hc).1
 exact(hg i F[i] c (List.getElem?_eq_getElem hi) hc).sound h1 (h2.2 i _ v (List.getElem?_eq_getElem hi) hv)
-- what is lent: a function that is hae nothing of one's own but to read
mutual
def AV.flat:AV->Bool
 |.raw _=>true
 |.any=>true
 |.agg cs=>zI cs
 |.ba cs=>zI cs
 |.gd _ v=>v.flat
 |_=>false
def zI:UU->Bool
 |[]=>true
 |a::l=>a.flat && zI l
end
-- a slot that holds nothing yet, as a row of one's own without elements
theorem dI.nil{F:UU}{H:Hp}(i slot:Nat)(e:U1){sz:Nat}(hi:H.get i=none)(h0:0<sz)(hs:F[slot]?=some (.raw (.slice none 0 0))\/∃x s d,F[slot]?=some (.sl true s x d)/\x=[]):dI F H (F.set slot (.rs i 0 sz 0)) (H.put i (.aJ e sz [])):=fun w tm h1 h2=>by
 obtain⟨a,b⟩:=yh h1 hi e h0;refine⟨w.name i 0 .nil,rfl,a,⟨by rw[List.length_set];exact h2.1,fun k c v hc hv=>?_⟩,b.pS⟩;rw[List.getElem?_set]at hc;by_cases hk:slot=k
 ·subst hk;rw[if_pos rfl]at hc;split at hc
  ·cases hc;have Vp:∃A,v=.slice A 0 0:=by
    rcases hs with hs|⟨x,s,d,hs,rfl⟩
    ·exact⟨none,by have:=h2.2 slot _ v hs hv;cases this;rfl⟩
    ·have:=h2.2 slot _ v hs hv;cases this with
     |gH _ _ A c hx=>have:=hx rfl;subst this;exact⟨A,rfl⟩
     |sl _ _ _ _ _ _ hn=>simp at hn
   obtain⟨A,rfl⟩:=Vp;exact .iO _ _ _ _ (NW.cA _ _ _ _)
  ·cases hc
 ·rw[if_neg hk]at hc;exact(h2.2 k c v hc hv).ext b
def nth{α:Type}[Inhabited α](l:List α)(i:Nat):α:=l.getD i default
variable{α:Type}{i:Nat}
def fA[Inhabited α]{l:List α}(h:i<l.length):nth l i=l[i]:=by simp[nth,h]
def pj[Inhabited α]{l:List α}(h:i<l.length):l.take (i+1)=l.take i++[nth l i]:=by rw[fA h,List.take_succ_eq_append_getElem h]
@[reducible] def aM{α:Type}[Inhabited α](enc:α->UU)(sz:Nat)(l:List α):AV:=.sl false sz (l.map enc) (enc default)
@[go_sem] def jyv:(∀(next:UQ) (Q:Exit->UQ) (F:UU) (H:Hp),uc next Q .normal F H=next F H)/\(∀(next:UQ) (Q:Exit->UQ) (F:UU) (H:Hp),uc next Q .ret F H=Q .ret F H)/\(∀(next:UQ) (Q:Exit->UQ) (id:Nat) (F:UU) (H:Hp),uc next Q (.exit id) F H=Q (.exit id) F H)/\(∀(id:Nat) (Q:Exit->UQ) (F:UU) (H:Hp),tG id Q .normal F H=Q .normal F H)/\(∀(id:Nat) (Q:Exit->UQ) (F:UU) (H:Hp),tG id Q .ret F H=Q .ret F H):=by and_intros<;>(intros;rfl)
@[go_sem] def jzK(id:Nat)(Q:Exit->UQ)(F:UU)(H:Hp):tG id Q (.exit id) F H=Q .normal F H:=by simp[tG]
def AP(K:UR)(_:ir K):UR:=K
def vj(K:AV->Prop)(_:ir K):AV->Prop:=K
@[go_sem] def j6I:(∀(K:UR) (d:ir K) (r:AV) (H:Hp),AP K d r H=K r H)/\(∀(K:AV->Prop) (d:ir K) (r:AV),vj K d r=K r):=by and_intros<;>(intros;rfl)
variable{r:AV}{H:Hp}
def L0{K:UR}{d:ir K}(h:K r H):AP K d r H:=h
def rF(o:Option Bool)(A:Bool->Prop)(_:ir A):Prop:=match o with
 |some b=>A b
 |none=>False
@[go_sem] def j2f(b:Bool)(A:Bool->Prop)(d:ir A):rF (some b) A d=A b:=(rfl)
def pI(q:Bool)(A B:Prop)(_:ir A)(_:ir B):Prop:=if q=true then A else B
@[go_sem] def j8k:(∀(A B:Prop) (d:ir A) (e:ir B),pI true A B d e=A)/\(∀(A B:Prop) (d:ir A) (e:ir B),pI false A B d e=B)/\(∀{P:U6} {ops:Array Oper} {K:UQ} (F:UU) (H:Hp),lE P ops K [] F H=K F H):=by and_intros<;>(intros;rfl)
variable{P:U6}{ops:Array Oper}{K:UQ}
@[go_sem] def j8D(dst:Option Tmp)(op:Op)(ty:U1)(pos:String)(after:Array Edge)(rest:List Oper)(F:UU)(H:Hp) :
  lE P ops K (⟨dst,op,ty,pos,after,none⟩::rest) F H=vc P (cw F) H ty (AP (fun r H'=>lE P ops K rest (cQ F dst r) H') .mk) op:=(rfl)
@[go_sem] def j6w(dst:Option Tmp)(op:Op)(ty:U1)(pos:String)(after:Array Edge)(j:Nat)(want:Bool)(rest:List Oper)(F:UU)(H:Hp) :
  lE P ops K (⟨dst,op,ty,pos,after,some (j,want)⟩::rest) F H=rF (l9 ops F j want) (fun b=>pI (jw op || iM op) (eR P F H b (vj (fun r=>lE P ops K rest (cQ F dst r) H) .mk) op)
    ((b=true->vc P (cw F) H ty (AP (fun r H'=>lE P ops K rest (cQ F dst r) H') .mk) op)/\(b=false->lE P ops K rest (cQ F dst .any) H)) .mk .mk) .mk:=by
 unfold rF pI;rfl
@[go_sem] def j3p(a:Nat):((a:Int)+1).toNat=a+1:=jB
@[go_sem] def j3q(a b:Nat):((a:Int)-(b:Int)).toNat=a-b:=jB
@[go_sem] def j3r(a:Nat):((a:Int)-1).toNat=a-1:=jB
attribute [go_sem] Int.cast_ofNat_Int
def ra{n:Int}(h:-9223372036854775808<=n/\n<=9223372036854775807):IntKind.i64.wrap n=n:=by have h1:(2:Int) ^ 64=18446744073709551616:=jC;have h2:(2:Int) ^ (64-1)=9223372036854775808:=jC;simp only[IntKind.wrap,IntKind.bits,IntKind.signed,Bool.true_and,h1,h2,decide_eq_true_eq];split<;>omega
variable{fn:Func}{F:UU}
def T8{f:FuncId}{c:Code}{args:UU}(hf:P.funcs[f]?=some fn)(hb:fn.body=some c)(hF:args++List.replicate (fn.ntmps-args.length) .any=F)
  (h:dL P c (lQ P fn fun r' l'=>r'=r/\l'=[]) F ⟨[],[]⟩):aD P f args r:=EH hf hb (by rw[hF];exact h)
variable{l:UT}{R:AV->List U8->Prop}
def R3{f:FuncId}{c:Code}{args:UU}(hf:P.funcs[f]?=some fn)(hb:fn.body=some c)(hF:args++List.replicate (fn.ntmps-args.length) .any=F){L:UZ}(hL:ids l=L)
  (h:dL P c (lQ P fn R) F ⟨L,l⟩):af P f args l R:=EH hf hb (by rw[hF];subst hL;exact h)
section
variable {P:U6}{ev:U2}{H:Hp}{ty:U1}{K:UR}
@[go_sem] def qae(x:Operand):vc P ev H ty K (.move x)=K (ev x) H:=by simp[vc,du,vq]
@[go_sem] def j6q(x:Operand):vc P ev H ty K (.assign x)=K (ev x) H:=by simp[vc,du,vq]
@[go_sem] def qaf(c a b:Operand):vc P ev H ty K (.pick c a b)=((oo (ev c) (ev a) (ev b)).1/\K (oo (ev c) (ev a) (ev b)).2 H):=by simp[vc,du,vq]
@[go_sem] def j2o(x:Operand):vc P ev H ty K (.nilCheck x)=((sy P (ev x)).1/\K (sy P (ev x)).2 H):=by simp[vc,du,vq]
@[go_sem] def qag(op:UnOp)(t:U1)(x:Operand):vc P ev H ty K (.unOp op t x)=((s9 op (ev x)).1/\K (s9 op (ev x)).2 H):=by simp[vc,du,vq]
@[go_sem] def qad(t:U1)(x:Operand):vc P ev H ty K (.load t x)=((pD P H t (ev x)).1/\K (pD P H t (ev x)).2 H):=by simp[vc,du,vq]
@[go_sem] def jzw(t:U1)(x:Operand)(f:Nat):vc P ev H ty K (.fieldAddr t x f)=((sJ P t (ev x) f).1/\K (sJ P t (ev x) f).2 H):=by simp[vc,du,vq]
@[go_sem] def j8x(t:U1)(x:Operand)(f:Nat):vc P ev H ty K (.field t x f)=((vD P t (ev x) f).1/\K (vD P t (ev x) f).2 H):=by simp[vc,du,vq]
@[go_sem] def jzx(t:U1)(x i:Operand):vc P ev H ty K (.indexAddr t x i)=((tc P t (ev x) (ev i)).1/\K (tc P t (ev x) (ev i)).2 H):=by simp[vc,du,vq]
@[go_sem] def j8y(t:U1)(x i:Operand):vc P ev H ty K (.index t x i)=((tS P t (ev x) (ev i)).1/\K (tS P t (ev x) (ev i)).2 H):=by simp[vc,du,vq]
@[go_sem] def j3y(x:Operand)(i:Nat):vc P ev H ty K (.extract x i)=((wF (ev x) i).1/\K (wF (ev x) i).2 H):=by simp[vc,du,vq]
@[go_sem] def j8z(t:U1)(a:Operand)(lo hi mx:Option Operand):vc P ev H ty K (.slice t a lo hi mx)=((th P t (ev a) (lo.map ev) (hi.map ev) (mx.map ev)).1/\K (th P t (ev a) (lo.map ev) (hi.map ev) (mx.map ev)).2 H):=by simp[vc,du,vq]
@[go_sem] def j2n(fn:Fn)(a b:Array Operand):vc P ev H ty K (.makeFunc fn a b)=((vW fn (a.toList.map ev) (b.toList.map ev)).1/\K (vW fn (a.toList.map ev) (b.toList.map ev)).2 H):=by simp[vc,du,vq]
@[go_sem] def jzy(t:U1)(x:Operand):vc P ev H ty K (.makeInterface t x)=((vE P t (ev x)).1/\K (vE P t (ev x)).2 H):=by simp[vc,du,vq]
@[go_sem] def j8v(t:U1)(ps:Array (Nat×Operand)):vc P ev H ty K (.build t ps)=((vp P t (ps.toList.map fun p=>(p.1,ev p.2))).1/\K (vp P t (ps.toList.map fun p=>(p.1,ev p.2))).2 H):=by simp[vc,du,vq]
@[go_sem] def qek(as:Array Operand)(ts:Array U1):vc P ev H ty K (.call ⟨.builtin .len,as,ts⟩)=((mz P H .len ts.toList (as.toList.map ev)).1/\K (mz P H .len ts.toList (as.toList.map ev)).2 H):=by simp[vc,du,vq]
@[go_sem] def qeg(as:Array Operand)(ts:Array U1):vc P ev H ty K (.call ⟨.builtin .cap,as,ts⟩)=((mz P H .cap ts.toList (as.toList.map ev)).1/\K (mz P H .cap ts.toList (as.toList.map ev)).2 H):=by simp[vc,du,vq]
@[go_sem] def qen(as:Array Operand)(ts:Array U1):vc P ev H ty K (.call ⟨.builtin .max,as,ts⟩)=((mz P H .max ts.toList (as.toList.map ev)).1/\K (mz P H .max ts.toList (as.toList.map ev)).2 H):=by simp[vc,du,vq]
@[go_sem] def qeo(as:Array Operand)(ts:Array U1):vc P ev H ty K (.call ⟨.builtin .min,as,ts⟩)=((mz P H .min ts.toList (as.toList.map ev)).1/\K (mz P H .min ts.toList (as.toList.map ev)).2 H):=by simp[vc,du,vq]
@[go_sem] def qee(t:U1)(x y:Operand)(t':U1):vc P ev H ty K (.binOp .add t x y t')=((fG P .add t (ev x) (ev y)).1/\K (fG P .add t (ev x) (ev y)).2 H):=by simp[vc,du,vq]
@[go_sem] def qet(t:U1)(x y:Operand)(t':U1):vc P ev H ty K (.binOp .sub t x y t')=((fG P .sub t (ev x) (ev y)).1/\K (fG P .sub t (ev x) (ev y)).2 H):=by simp[vc,du,vq]
@[go_sem] def qep(t:U1)(x y:Operand)(t':U1):vc P ev H ty K (.binOp .mul t x y t')=((fG P .mul t (ev x) (ev y)).1/\K (fG P .mul t (ev x) (ev y)).2 H):=by simp[vc,du,vq]
@[go_sem] def qer(t:U1)(x y:Operand)(t':U1):vc P ev H ty K (.binOp .quo t x y t')=((fG P .quo t (ev x) (ev y)).1/\K (fG P .quo t (ev x) (ev y)).2 H):=by simp[vc,du,vq]
@[go_sem] def qes(t:U1)(x y:Operand)(t':U1):vc P ev H ty K (.binOp .rem t x y t')=((fG P .rem t (ev x) (ev y)).1/\K (fG P .rem t (ev x) (ev y)).2 H):=by simp[vc,du,vq]
@[go_sem] def qem(t:U1)(x y:Operand)(t':U1):vc P ev H ty K (.binOp .lss t x y t')=((fG P .lss t (ev x) (ev y)).1/\K (fG P .lss t (ev x) (ev y)).2 H):=by simp[vc,du,vq]
@[go_sem] def qel(t:U1)(x y:Operand)(t':U1):vc P ev H ty K (.binOp .leq t x y t')=((fG P .leq t (ev x) (ev y)).1/\K (fG P .leq t (ev x) (ev y)).2 H):=by simp[vc,du,vq]
@[go_sem] def qej(t:U1)(x y:Operand)(t':U1):vc P ev H ty K (.binOp .gtr t x y t')=((fG P .gtr t (ev x) (ev y)).1/\K (fG P .gtr t (ev x) (ev y)).2 H):=by simp[vc,du,vq]
@[go_sem] def qei(t:U1)(x y:Operand)(t':U1):vc P ev H ty K (.binOp .geq t x y t')=((fG P .geq t (ev x) (ev y)).1/\K (fG P .geq t (ev x) (ev y)).2 H):=by simp[vc,du,vq]
@[go_sem] def qeh:(∀(t:U1) (x y:Operand) (t':U1),vc P ev H ty K (.binOp .eql t x y t')=qA P false t (ev x) (ev y) H K)/\(∀(t:U1) (x y:Operand) (t':U1),vc P ev H ty K (.binOp .neq t x y t')=qA P true t (ev x) (ev y) H K)/\(∀(t:U1) (x:Operand),vc P ev H ty K (.box t x)=sq H t (ev x) K)/\(∀(t:U1),vc P ev H ty K (.alloc t)=nX P H t K)/\(∀(t:U1) (a x:Operand),vc P ev H ty K (.store t a x)=vM P H t (ev a) (ev x) K)/\(∀(t:U1) (n:Nat) (ps:Array (Nat×Operand)),vc P ev H ty K (.buildSlice t n ps)=oI P H t n (ps.toList.map fun p=>(p.1,ev p.2)) K)/\(∀(f:Operand) (as:Array Operand) (ts:Array U1),vc P ev H ty K (.call ⟨.value f,as,ts⟩)=fi P (ev f) (as.toList.map ev) H K)/\(∀(f:Operand) (m:String) (as:Array Operand) (ts:Array U1),vc P ev H ty K (.call ⟨.invoke f m,as,ts⟩)=qt P (ev f) m (as.toList.map ev) H K):=by and_intros<;>(intros;rfl)
@[go_sem] def j2g(t:U1)(v:AV)(m:String)(args:UU):qt P (.iZ t v) m args H K=match o0 P t m with|some f=>fi P (.raw (.func (.func f) #[] #[])) (v::args) H K|none=>False:=(rfl)
@[go_sem] def j6p(t:U1)(a x:Operand):vc P ev H ty K (.call ⟨.builtin .append,#[a,x],#[t,t]⟩)=pz P t t (ev a) (ev x) H K:=by simp[vc]
@[go_sem] def j2m(t t':U1)(a x:Operand):vc P ev H ty K (.call ⟨.builtin .append,#[a,x],#[t,t']⟩)=pz P t t' (ev a) (ev x) H K:=by simp[vc]
@[go_sem] def qac(as:Array Operand)(ts:Array U1):vc P ev H ty K (.call ⟨.builtin .copy,as,ts⟩)=qg P .copy ts.toList (as.toList.map ev) H K:=by simp[vc,du]
@[go_sem] def j8w(as:Array Operand)(ts:Array U1):vc P ev H ty K (.call ⟨.builtin .clear,as,ts⟩)=qg P .clear ts.toList (as.toList.map ev) H K:=by simp[vc,du]
end
section
variable {P:U6}{F:UU}{H:Hp}{g:Bool}{K:AV->Prop}
@[go_sem] def qal(c a b:Operand):eR P F H g K (.pick c a b)=((g=true->(jZ (cw F c)).1=true/\(oo (bJ F c) (cw F a) (cw F b)).1)/\K (.gd g (oo (bJ F c) (cw F a) (cw F b)).2)):=(rfl)
@[go_sem] def j2r(x:Operand):eR P F H g K (.nilCheck x)=((g=true->gw F (.nilCheck x)=true/\(sy P (bJ F x)).1)/\K (.gd g (sy P (bJ F x)).2)):=by simp[eR,iM,du,vq]
@[go_sem] def qam(op:UnOp)(t:U1)(x:Operand):eR P F H g K (.unOp op t x)=((g=true->gw F (.unOp op t x)=true/\(s9 op (bJ F x)).1)/\K (.gd g (s9 op (bJ F x)).2)):=by simp[eR,iM,du,vq]
@[go_sem] def qaj(t:U1)(x:Operand):eR P F H g K (.load t x)=((g=true->gw F (.load t x)=true/\(pD P H t (bJ F x)).1)/\K (.gd g (pD P H t (bJ F x)).2)):=by simp[eR,iM,du,vq]
@[go_sem] def jzz(t:U1)(x:Operand)(f:Nat):eR P F H g K (.fieldAddr t x f)=((g=true->gw F (.fieldAddr t x f)=true/\(sJ P t (bJ F x) f).1)/\K (.gd g (sJ P t (bJ F x) f).2)):=by simp[eR,iM,du,vq]
@[go_sem] def jzA(t:U1)(x i:Operand):eR P F H g K (.indexAddr t x i)=((g=true->gw F (.indexAddr t x i)=true/\(tc P t (bJ F x) (bJ F i)).1)/\K (.gd g (tc P t (bJ F x) (bJ F i)).2)):=by simp[eR,iM,du,vq]
@[go_sem] def j8E(t:U1)(x i:Operand):eR P F H g K (.index t x i)=((g=true->gw F (.index t x i)=true/\(tS P t (bJ F x) (bJ F i)).1)/\K (.gd g (tS P t (bJ F x) (bJ F i)).2)):=by simp[eR,iM,du,vq]
@[go_sem] def j8F(t:U1)(a:Operand)(lo hi mx:Option Operand):eR P F H g K (.slice t a lo hi mx)=((g=true->gw F (.slice t a lo hi mx)=true/\(th P t (bJ F a) (lo.map (bJ F)) (hi.map (bJ F)) (mx.map (bJ F))).1)/\K (.gd g (th P t (bJ F a) (lo.map (bJ F)) (hi.map (bJ F)) (mx.map (bJ F))).2)):=by simp[eR,iM,du,vq]
@[go_sem] def qey(as:Array Operand)(ts:Array U1):eR P F H g K (.call ⟨.builtin .len,as,ts⟩)=((g=true->gw F (.call ⟨.builtin .len,as,ts⟩)=true/\(mz P H .len ts.toList (as.toList.map (bJ F))).1)/\K (.gd g (mz P H .len ts.toList (as.toList.map (bJ F))).2)):=by simp[eR,iM,du,vq]
@[go_sem] def qeu(t:U1)(x y:Operand)(t':U1):eR P F H g K (.binOp .add t x y t')=((g=true->gw F (.binOp .add t x y t')=true/\(fG P .add t (bJ F x) (bJ F y)).1)/\K (.gd g (fG P .add t (bJ F x) (bJ F y)).2)):=by simp[eR,iM,du,vq]
@[go_sem] def qeC(t:U1)(x y:Operand)(t':U1):eR P F H g K (.binOp .sub t x y t')=((g=true->gw F (.binOp .sub t x y t')=true/\(fG P .sub t (bJ F x) (bJ F y)).1)/\K (.gd g (fG P .sub t (bJ F x) (bJ F y)).2)):=by simp[eR,iM,du,vq]
@[go_sem] def qeA(t:U1)(x y:Operand)(t':U1):eR P F H g K (.binOp .lss t x y t')=((g=true->gw F (.binOp .lss t x y t')=true/\(fG P .lss t (bJ F x) (bJ F y)).1)/\K (.gd g (fG P .lss t (bJ F x) (bJ F y)).2)):=by simp[eR,iM,du,vq]
@[go_sem] def qez(t:U1)(x y:Operand)(t':U1):eR P F H g K (.binOp .leq t x y t')=((g=true->gw F (.binOp .leq t x y t')=true/\(fG P .leq t (bJ F x) (bJ F y)).1)/\K (.gd g (fG P .leq t (bJ F x) (bJ F y)).2)):=by simp[eR,iM,du,vq]
@[go_sem] def qex(t:U1)(x y:Operand)(t':U1):eR P F H g K (.binOp .gtr t x y t')=((g=true->gw F (.binOp .gtr t x y t')=true/\(fG P .gtr t (bJ F x) (bJ F y)).1)/\K (.gd g (fG P .gtr t (bJ F x) (bJ F y)).2)):=by simp[eR,iM,du,vq]
@[go_sem] def qew(t:U1)(x y:Operand)(t':U1):eR P F H g K (.binOp .geq t x y t')=((g=true->gw F (.binOp .geq t x y t')=true/\(fG P .geq t (bJ F x) (bJ F y)).1)/\K (.gd g (fG P .geq t (bJ F x) (bJ F y)).2)):=by simp[eR,iM,du,vq]
@[go_sem] def qak(x:Operand):eR P F H g K (.move x)=((g=true->gw F (.move x)=true)/\K (.gd g (bJ F x))):=by simp[eR,iM,du,vq]
@[go_sem] def qev(t:U1)(x y:Operand)(t':U1):eR P F H g K (.binOp .eql t x y t')=((g=true->gw F (.binOp .eql t x y t')=true/\(fG P .eql t (bJ F x) (bJ F y)).1)/\K (.gd g (fG P .eql t (bJ F x) (bJ F y)).2)):=by simp[eR,iM,vq]
@[go_sem] def qeB(t:U1)(x y:Operand)(t':U1):eR P F H g K (.binOp .neq t x y t')=((g=true->gw F (.binOp .neq t x y t')=true/\(fG P .neq t (bJ F x) (bJ F y)).1)/\K (.gd g (fG P .neq t (bJ F x) (bJ F y)).2)):=by simp[eR,iM,vq]
@[go_sem] def j6x:(∀(f:Operand) (m:String) (as:Array Operand) (ts:Array U1),eR P F H g K (.call ⟨.invoke f m,as,ts⟩)=∃r,(g=true->gw F (.call ⟨.invoke f m,as,ts⟩)=true/\qt P (bJ F f) m (as.toList.map (bJ F)) H fun r' H'=>r'=r/\H'=H)/\K (.gd g r))/\(∀(f:Operand) (as:Array Operand) (ts:Array U1),eR P F H g K (.call ⟨.value f,as,ts⟩)=∃r,(g=true->gw F (.call ⟨.value f,as,ts⟩)=true/\fi P (bJ F f) (as.toList.map (bJ F)) H fun r' H'=>r'=r/\H'=H)/\K (.gd g r)):=by and_intros<;>(intros;rfl)
@[go_sem] def j8W:(∀(t:Tmp),cw F (.tmp t)=F.getD t .any)/\(∀(v:Value),cw F (.const v)=.raw v)/\(∀(f:FuncId),cw F (.func f)=.raw (.func (.func f) #[] #[]))/\(∀(d:Tmp) (a:AV),cQ F (some d) a=F.set d a)/\(∀(a:AV),cQ F none a=F):=by and_intros<;>(intros;rfl)
end
attribute [go_sem] bJ gw jZ l9 jw iM du oo sy yJ zw xf fG s9 pD pQ sJ vD yr tc tS wF rO th Gx vW vE zg uO zx xA mz sx vp vM qA oI kN
attribute [go_sem] cZ Op.operands Call.operands xK
section
@[go_sem] def j30:(∀(cs:UU),(AV.agg cs).cells=cs)/\(∀(k:IntKind) (n:Int),(AV.raw (.int k n)).cells=[.raw (.int k n)])/\(∀(s:U0),(AV.raw (.string s)).cells=[.raw (.string s)])/\(∀(a:Option Addr) (n c:Nat),(AV.raw (.slice a n c)).cells=[.raw (.slice a n c)])/\(∀(x:Bool) (sz:Nat) (css:US) (d:UU),(AV.sl x sz css d).cells=[.sl x sz css d])/\(∀(i m k j:Nat),(AV.pt i m k j).cells=[.pt i m k j])/\(∀(i m k j:Nat),(AV.rs i m k j).cells=[.rs i m k j])/\(∀(k:IntKind) (n:Int),(AV.raw (.int k n)).one=true)/\(∀(s:U0),(AV.raw (.string s)).one=true)/\(∀(a:Option Addr) (n c:Nat),(AV.raw (.slice a n c)).one=true)/\(∀(x:Bool) (sz:Nat) (css:US) (d:UU),(AV.sl x sz css d).one=true)/\(∀(i m k j:Nat),(AV.pt i m k j).one=true)/\(∀(i m k j:Nat),(AV.rs i m k j).one=true):=by and_intros<;>(intros;rfl)
end
attribute [go_sem] Hp.get Hp.put aC bp qb gI entry ids tE CK xo room yx B1 mM
attribute [go_sem] AV.all aY eJ AV.flat zI xi rN re oN iV fB iv Gs Fq bD
@[go_sem] def j4X(sz:Nat):Good sz []=True:=by simp[Uk]
@[go_sem] def j3b(sz:Nat)(cs:UU)(css:US):Good sz (cs::css)=((cs.length=sz/\cZ cs=true)/\Good sz css):=by simp[Good]
@[go_sem] def j4W(enc:α->UU)(sz:Nat)[bG enc sz](l:List α):Good sz (l.map enc)=True:=by simp[Iu]
@[go_sem] def j9V(q:U5):QL q []=True:=by simp[TI]
@[go_sem] def j8g(q:U5)(cs:UU)(css:US):QL q (cs::css)=(aY q cs=true/\QL q css):=by simp[QL]
@[go_sem] def j3n(q:U5)(a b:US):QL q (a++b)=(QL q a/\QL q b):=by apply propext;exact⟨fun h=>⟨fun c hc=>h c (List.mem_append_left _ hc),fun c hc=>h c (List.mem_append_right _ hc)⟩,fun h=>Um h.1 h.2⟩
variable{sz:Nat}
@[go_sem] def j9U(q:U5)(enc:α->UU)[bG enc sz](l:List α):QL q (l.map enc)=True:=by simp[ot]
@[go_sem] def j4V[Inhabited α](enc:α->UU)(l:List α)(k:Nat)(h:k<l.length):(l.map enc).getD k []=enc (nth l k):=by simp[nth,h]
@[go_sem] def j3a[Inhabited α](enc:α->UU)(l:List α)(k:Nat):(l.map enc).getD k (enc default)=enc (nth l k):=by unfold nth;rcases Nat.lt_or_ge k l.length with h|h<;>simp[h]
@[go_sem] def j5y(enc:α->UU)(l:List α)(k:Nat):(l.map enc).drop k=(l.drop k).map enc:=jE
@[go_sem] def j5z(enc:α->UU)(l:List α)(k:Nat):(l.map enc).take k=(l.take k).map enc:=jE
@[go_sem] def j6a(l:List α):l.take l.length=l:=jE
@[go_sem] def j1j{β:Type}(f:α->β)(l:List α):(l.map f).length=l.length:=jE
@[go_sem] def jv8(a b:List α):(a++b).length=a.length+b.length:=jE
@[go_sem] def j1p{β:Type}(f:α->β)(a b:List α):(a++b).map f=a.map f++b.map f:=jE
@[go_sem] def jwO(i:Nat):([]:UZ).contains i=false:=(rfl)
@[go_sem] def jv4(i j:Nat)(l:UZ):(j::l).contains i=(i == j || l.contains i):=List.contains_cons
@[go_sem] def j1Q(e e':U1)(sz sz':Nat)(a b:US):(Row.aJ e sz a=Row.aJ e' sz' b)=(e=e'/\sz=sz'/\a=b):=jE
@[go_sem] def j1P(e e':U1)(a b:UU):(Row.var e a=Row.var e' b)=(e=e'/\a=b):=jE
attribute [go_sem] List.getD_cons_zero List.getD_cons_succ List.getD_nil List.set_cons_zero List.set_cons_succ List.set_nil List.map_nil List.map_cons List.getElem?_cons_zero List.getElem?_cons_succ List.getElem?_nil List.getElem?_toArray List.all_nil List.all_cons List.append_nil List.nil_append List.cons_append List.length_cons List.length_nil List.take_succ_cons List.take_zero List.take_nil List.drop_succ_cons List.drop_zero List.drop_nil List.flatten_nil List.flatten_cons
def N8(b:Bool):(b == true)=b:=by cases b<;>rfl
def K4(b:Bool):(b == false)=!b:=by cases b<;>rfl
attribute [go_sem] if_true if_false true_and and_true false_and and_false Option.map_some Option.map_none Option.getD_some Option.getD_none Option.bind_some Option.bind_none Option.isSome_some Option.isNone_some Option.isNone_none Option.some.injEq Bool.and_true Bool.true_and Bool.and_self Bool.not_true Bool.not_false N8 K4 Bool.false_eq_true Bool.true_eq_false reduceCtorEq imp_self implies_true forall_const or_true true_or or_self or_false false_or not_true_eq_false not_false_eq_true eq_self ne_eq and_self List.foldl_cons List.foldl_nil Bool.not_eq_true' Bool.or_true Bool.or_false Bool.true_or Bool.false_or decide_true decide_false Nat.zero_add Nat.add_zero Nat.le_refl Int.toNat_natCast
@[go_sem] def j2C(c x:Bool):yi c x false=(c && x):=by cases c<;>rfl
@[go_sem] def j3Z(c y:Bool):yi c true y=(c || y):=by cases c<;>rfl
@[go_sem] def j3F(b:Bool):(false ^^ b)=b:=by cases b<;>rfl
@[go_sem] def j6F(b:Bool):(true ^^ b)=!b:=by cases b<;>rfl
@[go_sem] def jv2(id id':Nat)(Q:Exit->UQ)(F:UU)(H:Hp):tG id Q (.exit id') F H=if id'=id then Q .normal F H else Q (.exit id') F H:=(rfl)
def ni(J:List (Nat×AV))(F:UU):UU:=J.foldl (fun F p=>F.set p.1 p.2) F
attribute [go_sem] ni nH HO List.replicate_succ List.replicate_zero
def Next(n:Nat){S:Type}(W:List (Nat×Nat))(ok:S->Prop)(J:S->List (Nat×AV))(G:S->Hp)(μ:S->Nat)(F₀ F:UU)(H:Hp):Prop:=∃s,μ s<n/\dI F H (ni (J s) (nH W F₀)) (G s)/\ok s
variable{n:Nat}{W:List (Nat×Nat)}{F₀:UU}
def dT{S:Type}{ok:S->Prop}{J:S->List (Nat×AV)}{G:S->Hp}{μ:S->Nat}(s:S)(h1:ok s)(h2:μ s<n)(h4:H=G s)(h3:lr F (ni (J s) (nH W F₀))):Next n W ok J G μ F₀ F H:=⟨s,h2,by rw[<-h4];exact dI.pt H h3,h1⟩
def Is{S:Type}{ok:S->Prop}{J:S->List (Nat×AV)}{G:S->Hp}{μ:S->Nat}(D:U5)(s:S)(h1:ok s)(h2:μ s<n)(hB:H.B.all (iv D)=true)(hl:iV D H.l)(h4:⟨H.B,fB D H.l⟩=G s)(h3:bD D H F (ni (J s) (nH W F₀))):Next n W ok J G μ F₀ F H:=⟨s,h2,by rw[<-h4];exact dI.free D hB hl h3,h1⟩
def dJ{c:Code}{Q:Exit->UQ}{S:Type}(W:List (Nat×Nat))(ok:S->Prop)(J:S->List (Nat×AV))(G:S->Hp)(μ:S->Nat)(s₀:S)(h0:ok s₀)(Vd:dI F H (ni (J s₀) (nH W F)) (G s₀))
  (round:∀s,ok s->∀K:UQ,(∀F' H',Next (μ s) W ok J G μ F F' H'->K F' H')->dL P c (uc K Q) (ni (J s) (nH W F)) (G s)):dL P (.loop c) Q F H:=by
 refine Rs (S:=S) (fun s F' H'=>F'=ni (J s) (nH W F)/\H'=G s/\ok s) μ s₀ Vd ⟨rfl,rfl,h0⟩ ?_;rintro s F' H' ⟨rfl,rfl,hok⟩;refine round s hok _ ?_;rintro F'' V2 ⟨s',h1,h2,h3⟩;exact⟨s',_,_,h1,h2,rfl,rfl,h3⟩
def dK{F':UU}{H':Hp}(h1:H=H')(h2:lr F F'):dI F H F' H':=by rw[<-h1];exact dI.pt H h2
variable{out:UU}
def vO{e:Exit}(he:e=.normal\/e=.ret)(ho:jV P H F fn.results.toList=some out)(hok:kR P H F fn.results.toList)(r:AV)(H':Hp)(Vd:iT (kS out) H r H')(hR:R r H'.l):lQ P fn R e F H:=by rcases he with rfl|rfl<;>exact⟨out,r,H',ho,hok,Vd,hR⟩
variable{t:U1}{K:UR}{zs:U4}
def At(i:Nat)(hz:dM P t=some zs)(hi:H.get i=none)(h:K (.pt i 0 0 0) (H.put i (.var t (zs.map .raw)))):nX P H t K:=by unfold nX;rw[hz];exact⟨i,hi,h⟩
def AD{x:AV}(i:Nat)(ho:cZ x.cells=true)(hi:H.get i=none)(h:K (.pt i 0 0 0) (H.put i (.var t x.cells))):sq H t x K:=⟨ho,i,hi,h⟩
def yD:List U8->Nat->Nat
 |[],m=>m
 |(i,_)::l,m=>yD l (if m<=i then i+1 else m)
def nx(l:UT):Nat:=yD l 0
theorem EW:∀(l:UT) (m i:Nat),yD l m<=i->aC l i=none/\m<=i
 |[],m,i,h=>⟨rfl,h⟩
 |(j,r)::l,m,i,h=>by
  obtain⟨h1,h2⟩:=EW l _ i h;simp only[aC];split at h2
  ·rw[jN];exact⟨h1,jB⟩
  ·rw[jN];exact⟨h1,h2⟩
def zE(l:UT)(i:Nat)(h:nx l<=i):aC l i=none:=(EW l 0 i h).1
attribute [go_sem] yD
attribute [go_sem] nx
@[go_sem] def j1A:((none:Option Operand).toArray.toList=[])/\(∀(x:Operand),(some x).toArray.toList=[x]):=by and_intros<;>(intros;rfl)
def Ru{A:Nat->Prop}{d:ir A}(h:A (nx H.l)):wB H A d:=⟨_,zE _ _ jl,h⟩
def TE(hz:dM P t=some zs)(h:K (.pt (nx H.l) 0 0 0) (H.put (nx H.l) (.var t (zs.map .raw)))):nX P H t K:=At _ hz (zE _ _ jl) h
def Lg{x:AV}(ho:cZ x.cells=true)(h:K (.pt (nx H.l) 0 0 0) (H.put (nx H.l) (.var t x.cells))):sq H t x K:=AD _ ho (zE _ _ jl) h
variable{css:US}
def Rm{e:U1}(h1:aY eJ css.flatten=true)(h2:K (.sl true sz css []) H):sT e sz css H K:=.inl ⟨h1,h2⟩
def D4{e:U1}(i:Nat)(h0:0<sz)(hi:H.get i=none)(h2:K (.rs i css.length sz css.length) (H.put i (.aJ e sz css))):sT e sz css H K:=.inr ⟨h0,i,hi,h2⟩
def MW{e:U1}(h0:0<sz)(h2:K (.rs (nx H.l) css.length sz css.length) (H.put (nx H.l) (.aJ e sz css))):sT e sz css H K:=D4 _ h0 (zE _ _ jl) h2
def SA{e:U1}(h0:0<sz)(h2:K (.rs (nx H.l) 0 sz 0) (H.put (nx H.l) (.aJ e sz []))):sT e sz [] H K:=MW h0 h2
def gS(a a':AV):Prop:=∀(w:NW) v,ay w a v->ay w a' v
def gS.refl(a:AV):gS a a:=fun _ _ h=>h
theorem gS.sl{x:Bool}{sz:Nat}{css:US}{d d':UU}:gS (.sl x sz css d) (.sl false sz css d'):=fun w v hr=>by
 cases hr with
 |gH _ _ A c _=>exact .gH _ _ _ _ (fun e=>by cases e)
 |sl _ _ _ a c vs hn hc hx Vi hb hH I' hr=>exact .sl _ _ _ a c vs hn hc (fun e=>by cases e) Vi hb hH I' hr
def gS.nil{d:UU}:gS (.raw (.slice none 0 0)) (.sl false sz [] d):=fun w v hr=>by have:=di hr;subst this;exact .gH _ _ _ _ (fun e=>by cases e)
def pU:UU->UU->Prop
 |[],[]=>True
 |a::l,b::m=>gS a b/\pU l m
 |_,_=>False
theorem pU.get:∀{l m:UU},pU l m->l.length=m.length/\∀(i:Nat) a b,l[i]?=some a->m[i]?=some b->gS a b
 |[],[],_=>⟨rfl,fun i a b h=>by simp at h⟩
 |x::l,y::m,h=>by
  have ih:=pU.get h.2;refine⟨by simp[ih.1],fun i a b ha hb=>?_⟩;cases i with
  |zero=>simp at ha hb;subst ha hb;exact h.1
  |succ i=>exact ih.2 i a b (by simpa using ha) (by simpa using hb)
attribute [go_sem] kS
@[go_sem] def j29(l:UU)(n m:Nat):(l.drop n).getD m .any=l.getD (n+m) .any:=by simp[List.getD_eq_getElem?_getD]
attribute [go_sem] List.drop_drop List.length_drop Array.toList_append
def Rl{e:Exit}(he:e=.normal\/e=.ret)(ho:jV P H F fn.results.toList=some out)(hok:kR P H F fn.results.toList)(h1:kS out=r)(h2:H.l=l):lQ P fn (fun r' l'=>r'=r/\l'=l) e F H:=
 vO he ho hok r H (iT.of_eq H h1) ⟨rfl,h2⟩
def GN{e:Exit}(D:U5)(he:e=.normal\/e=.ret)(ho:jV P H F fn.results.toList=some out)(hok:kR P H F fn.results.toList)(hB:H.B.all (iv D)=true)(hl:iV D H.l)(hv:db D H (kS out) r)(h2:fB D H.l=l):lQ P fn (fun r' l'=>r'=r/\l'=l) e F H:=
 vO he ho hok r _ (iT.free D hB hl hv) ⟨rfl,h2⟩
def AB{D:U5}{a a':AV}(h:a=a')(hq:a.all (iv D)=true):db D H a a':=by subst h;exact .same _ hq
def mX(B:UZ):U5:=fun i=>!(B.contains i)
def MQ{e:Exit}(he:e=.normal\/e=.ret)(ho:jV P H F fn.results.toList=some out)(hok:kR P H F fn.results.toList)(hl:iV (mX H.B) H.l)(hv:db (mX H.B) H (kS out) r)(h2:fB (mX H.B) H.l=l):lQ P fn (fun r' l'=>r'=r/\l'=l) e F H:=
 GN (mX H.B) he ho hok (by rw[List.all_eq_true];intro x hx;simp[iv,mX,hx]) hl hv h2
attribute [go_sem] jV kR
def JK{e:Exit}(rs:List ResultVar)(Xr:fn.results.toList=rs)(he:e=.normal\/e=.ret)(ho:jV P H F rs=some out)(hok:kR P H F rs)(hl:iV (mX H.B) H.l)(hv:db (mX H.B) H (kS out) r)(h2:fB (mX H.B) H.l=l):lQ P fn (fun r' l'=>r'=r/\l'=l) e F H:=by subst Xr;exact MQ he ho hok hl hv h2
def RR{e:Exit}(rs:List ResultVar)(Xr:fn.results.toList=rs)(he:e=.normal\/e=.ret)(ho:jV P H F rs=some out)(hok:kR P H F rs)(h1:kS out=r)(h2:H.l=l):lQ P fn (fun r' l'=>r'=r/\l'=l) e F H:=by subst Xr;exact Rl he ho hok h1 h2
attribute [go_sem] mX cond_true cond_false tY
def nz{S:Type}{ok:S->Prop}{J:S->List (Nat×AV)}{G:S->Hp}{μ:S->Nat}(L:UZ)(s:S)(h1:ok s)(h2:μ s<n)(hB:H.B.all (iv fun i=>L.contains i)=true)(hl:iV (fun i=>L.contains i) H.l)(h4:⟨H.B,fB (fun i=>L.contains i) H.l⟩=G s)(h3:bD (fun i=>L.contains i) H F (ni (J s) (nH W F₀))):Next n W ok J G μ F₀ F H:=Is _ s h1 h2 hB hl h4 h3
def Qn{D:U5}(a:AV):db D H a .any:=.drop a
@[go_sem] def j2d(i:Nat)(e:U1)(m sz:Nat)(css ys:US)(H:Hp)(K:UR):uJ i e m sz m css ys H K=K (.rs i (m+ys.length) sz (m+ys.length)) (H.put i (.aJ e sz (css++ys))):=if_pos rfl
def Ui{enc:α->UU}(vars more ys:List α){e:U1}{m:Nat}{yss:US}(hm:m=vars.length+more.length)(hn:n=vars.length)(hc:css=(vars++more).map enc)(hy:yss=ys.map enc)
  (h:K (.rs i (vars.length+ys.length+(more.drop ys.length).length) sz (vars.length+ys.length)) (H.put i (.aJ e sz ((vars++ys++more.drop ys.length).map enc)))):uJ i e m sz n css yss H K:=by
 subst hm hn hc hy;unfold uJ;split
 ·rename_i h';have:more=[]:=List.length_eq_zero_iff.1 jB;subst this;simpa using h
 ·have e1:max (vars.length+more.length) (vars.length+(ys.map enc).length)=vars.length+ys.length+(more.drop ys.length).length:=by simp;omega
  have e2:eH ((vars++more).map enc) vars.length (ys.map enc)=(vars++ys++more.drop ys.length).map enc:=by
   unfold eH;rw[<-List.map_take,List.take_left',<-List.map_drop,List.length_map,List.drop_append,List.drop_eq_nil_of_le jB,List.nil_append]
   ·simp
   ·rfl
  rw[e1,e2];simpa using h
def HH{b c:Bool}(h:b=c):AV.raw (.bool b)=AV.raw (.bool c):=by rw[h]
def Q4{k:IntKind}{b c:Int}(h:b=c):AV.raw (.int k b)=AV.raw (.int k c):=by rw[h]
section
variable {P:U6}{ops:Array Oper}{H:Hp}
def xj(ops:Array Oper)(o:Oper)(F G:UU):Prop:=(∀x∈o.op.operands.toList,cw G x=cw F x)/\∀j b,o.guard=some (j,b)->l9 ops G j b=l9 ops F j b
def QV(P:U6)(ops:Array Oper)(o:Oper)(F:UU)(H:Hp)(r:AV):Prop:=∀G,xj ops o F G->nq P ops o G H fun F' H'=>F'=cQ G o.dst r/\H'=H
variable{K:UR}
def yB{f:AV}{args:UU}{K':UR}(h:fi P f args H K)(hk:∀r H,K r H->K' r H):fi P f args H K':=by
 unfold fi at*;split at h
 ·rcases h with h|h
  ·exact .inl ⟨h.1,h.2.mono hk⟩
  ·exact .inr fun w vs h1 h2=>by obtain⟨v,w',r,H',e,k,g⟩:=h w vs h1 h2;exact⟨v,w',r,H',e,hk _ _ k,g⟩
 ·exact h.elim
def pw(P:U6)(t:U1)(n:Nat)(parts:List (Nat×AV))(K:AV->Prop):Prop:=match io P t with
 |some e=>match dc P e with
  |some sz=>((parts.length=n/\xK sz 0 parts/\n*sz<=16777216/\(n*sz=0\/(dM P e).isSome=true))/\aY eJ (mM parts).flatten=true)/\K (.sl true sz (mM parts) [])
  |none=>False
 |none=>False
variable{t:U1}{n:Nat}{parts:List (Nat×AV)}
def R7(h:pw P t n parts fun r=>K r H):oI P H t n parts K:=by
 unfold pw at h;unfold oI;split at h
 ·rename_i e he;split at h
  ·rename_i sz hs;try simp only[he,hs]
   exact⟨h.1.1,.inl ⟨h.1.2,h.2⟩⟩
  ·exact h.elim
 ·exact h.elim
variable{K:AV->Prop}
def Cw(h:pw P t n parts K):∃r,K r/\∀K':AV->Prop,K' r->pw P t n parts K':=by
 unfold pw at h;split at h
 ·rename_i e he;split at h
  ·rename_i sz hs;exact⟨_,h.2,fun K' hk=>by unfold pw;rw[he];simp only[hs];exact⟨h.1,hk⟩⟩
  ·exact h.elim
 ·exact h.elim
def nS:Op->Bool
 |.binOp .eql ..=>true
 |.binOp .neq ..=>true
 |_=>false
variable{o:Oper}{F:UU}
def UC{K:UQ}(hg:o.guard=none)(hq:(vq P (cw F) H o.op).1)(hk:K (cQ F o.dst (vq P (cw F) H o.op).2) H):nq P ops o F H K:=
 LX hg (TA (K:=fun r H'=>K (cQ F o.dst r) H') hq hk)
def wl(hg:o.guard=none)(hq:(vq P (cw F) H o.op).1):QV P ops o F H (vq P (cw F) H o.op).2:=fun G hG=>by have e:vq P (cw G) H o.op=vq P (cw F) H o.op:=uk _ hG.1;exact UC hg (by rw[e];exact hq) ⟨by rw[e],rfl⟩
variable{dst:Option Tmp}{after:Array Edge}
def IF{f:Operand}{args:Array Operand}{ts:Array U1}{ty:U1}{pos:String}{r:AV}(h:fi P (cw F f) (args.toList.map (cw F)) H fun r' H'=>r'=r/\H'=H) :
  QV P ops ⟨dst,.call ⟨.value f,args,ts⟩,ty,pos,after,none⟩ F H r:=fun G hG=>by
 refine qF (K:=fun F' H'=>F'=cQ G dst r/\H'=H) rfl ?_;show fi P (cw G f) (args.toList.map (cw G)) H _;rw[hG.1 f (by simp[Op.operands,Call.operands]),List.map_congr_left (g:=cw F) (fun x hx=>hG.1 x (by simp[Op.operands,Call.operands]at hx ⊢;exact .inr hx))];exact yB h fun r' H' ⟨e1,e2⟩=>⟨by rw[e1],e2⟩
def CO{parts:Array (Nat×Operand)}{ty:U1}{pos:String}{r:AV}(h:pw P t n (parts.toList.map fun p=>(p.1,cw F p.2)) fun r'=>r'=r) :
  QV P ops ⟨dst,.buildSlice t n parts,ty,pos,after,none⟩ F H r:=fun G hG=>by
 refine qF (K:=fun F' H'=>F'=cQ G dst r/\H'=H) rfl ?_;show oI P H t n (parts.toList.map fun p=>(p.1,cw G p.2)) (fun r_1 H'=>cQ G dst r_1=cQ G dst r/\H'=H);rw[List.map_congr_left (g:=fun p=>(p.1,cw F p.2)) (fun x hx=>by rw[hG.1 x.2 (by simp[Op.operands]at hx ⊢;exact⟨_,hx⟩)])];refine R7 ?_;obtain⟨r',e,hk⟩:=Cw h;subst e;exact hk _ ⟨rfl,rfl⟩
variable{G:UU}
def Dp(o:Op)(h:∀x∈o.operands.toList,cw G x=cw F x):gw G o=gw F o:=by unfold gw;rw[Bool.eq_iff_iff,List.all_eq_true,List.all_eq_true];constructor<;>intro hh x hx<;>have:=hh x hx<;>rw[h x hx]at*<;>exact this
def xX:Op->Bool
 |.pick ..=>true
 |.call { callee:=.invoke ..,.. }=>true
 |_=>false
def zN{g:Bool}(o:Op)(h:jw o=false)(hp:xX o=false):eR P F H g K o=if iM o then(g=true->gw F o=true/\(vq P (bJ F) H o).1)/\K (.gd g (vq P (bJ F) H o).2)else False:=by
 cases o
 case call c=>
  obtain⟨callee,args,ts⟩:=c;cases callee
  case value f=>cases h
  case invoke f m=>cases hp
  all_goals rfl
 case pick=>cases hp
 all_goals rfl
def Dw{g:Bool}{o:Op}(h:eR P F H g K o):∃r,K (.gd g r)/\∀(G:UU) (K':AV->Prop),(∀x∈o.operands.toList,cw G x=cw F x)->K' (.gd g r)->eR P G H g K' o:=by
 cases hc:jw o with
 |false=>
  by_cases hp:xX o=true
  ·cases o<;>try cases hp
   case call c=>
    obtain⟨callee,args,ts⟩:=c;cases callee<;>try cases hp
    rename_i f m;obtain⟨r,h1,h2⟩:=h;refine⟨r,h2,fun G K' hG hk=>⟨r,fun hg=>⟨Dp _ hG ▸ (h1 hg).1,?_⟩,hk⟩⟩;have he:∀x∈(Op.call ⟨.invoke f m,args,ts⟩).operands.toList,bJ G x=bJ F x:=fun x hx=>by unfold bJ;rw[hG x hx]
    rw[he f (by simp[Op.operands,Call.operands]),List.map_congr_left (g:=bJ F) (fun x hx=>he x (by simp[Op.operands,Call.operands]at hx ⊢;exact .inr hx))];exact(h1 hg).2
   rename_i c a b;refine⟨_,h.2,fun G K' hG hk=>?_⟩;have he:∀x∈(Op.pick c a b).operands.toList,bJ G x=bJ F x:=fun x hx=>by unfold bJ;rw[hG x hx]
   show(g=true->(jZ (cw G c)).1=true/\(oo (bJ G c) (cw G a) (cw G b)).1)/\K' (.gd g (oo (bJ G c) (cw G a) (cw G b)).2);rw[hG c (by simp[Op.operands]),hG a (by simp[Op.operands]),hG b (by simp[Op.operands]),he c (by simp[Op.operands])];exact⟨h.1,hk⟩
  have hp:xX o=false:=by simpa using hp
  rw[zN o hc hp]at h;split at h
  ·rename_i hq;refine⟨_,h.2,fun G K' hG hk=>?_⟩;have he:∀x∈o.operands.toList,bJ G x=bJ F x:=fun x hx=>by unfold bJ;rw[hG x hx]
   rw[zN o hc hp,if_pos hq,uk _ he,Dp o hG];exact⟨h.1,hk⟩
  ·exact h.elim
 |true=>
  cases o<;>try cases hc
  rename_i c;obtain⟨callee,args,ts⟩:=c;cases callee<;>try cases hc
  rename_i f;obtain⟨r,h1,h2⟩:=h;refine⟨r,h2,fun G K' hG hk=>⟨r,fun hg=>⟨Dp _ hG ▸ (h1 hg).1,?_⟩,hk⟩⟩;have he:∀x∈(Op.call ⟨.value f,args,ts⟩).operands.toList,bJ G x=bJ F x:=fun x hx=>by unfold bJ;rw[hG x hx]
  rw[he f (by simp[Op.operands,Call.operands]),List.map_congr_left (g:=bJ F) (fun x hx=>he x (by simp[Op.operands,Call.operands]at hx ⊢;exact .inr hx))];exact(h1 hg).2
def Dr{j:Nat}{want b:Bool}{r:AV}(hg:o.guard=some (j,want))(hb:l9 ops F j want=some b)(hq:(jw o.op || iM o.op)=true)(h:eR P F H b (fun r'=>r'=r) o.op):QV P ops o F H r:=fun G hG=>by
 have hv:lE P ops (fun F' H'=>F'=cQ G o.dst r/\H'=H) [o] G H:=by simp only[lE,hg,hG.2 j want hg,hb,hq,if_true];obtain⟨r',h1,h2⟩:=Dw h;exact h2 G _ hG.1 ⟨by rw[h1],trivial⟩
 have hs:=xL [o] G H hv;intro w tm Q next h1 h2 hn;have:=hs w tm (fun e a w=>match e with|.normal=>next a w|e=>Q e a w) h1 h2 hn;simp only[wpList]at this;unfold tL;split
 ·rename_i hw;rw[if_pos hw]at this;rcases this with h|⟨ha,hl⟩
  ·refine .inl ?_;unfold Oper.wp at*;generalize (execOp (Act.mk tm []).eval o).run P w=res at*;cases res with
   |ok n w'=>
    cases n<;>simp only[Oper.upon]at h ⊢
    case enter f args=>exact Calls.mono h fun e w'' he=>by cases e<;>exact he
    all_goals exact h
   |halt x w'=>cases x<;>simp only[Oper.upon]at h ⊢;exact h
  ·exact .inr ⟨ha,hl⟩
 ·rename_i hw;rw[if_neg hw]at this;exact this
def qI(P:U6)(ops:Array Oper)(H:Hp)(K:UU->Prop):List Oper->UU->Prop
 |[],F=>K F
 |o::rest,F=>match o.guard with
  |none=>match o.op with
   |.call { callee:=.value f,args,.. }=>∃r,(fi P (cw F f) (args.toList.map (cw F)) H fun r' H'=>r'=r/\H'=H)/\qI P ops H K rest (cQ F o.dst r)
   |.buildSlice t n parts=>pw P t n (parts.toList.map fun p=>(p.1,cw F p.2)) fun r=>qI P ops H K rest (cQ F o.dst r)
   |op=>(vq P (cw F) H op).1/\qI P ops H K rest (cQ F o.dst (vq P (cw F) H op).2)
  |some (j,want)=>match l9 ops F j want with
   |some b=>(jw o.op || iM o.op)=true/\eR P F H b (fun r=>qI P ops H K rest (cQ F o.dst r)) o.op
   |none=>False
def zC(P:U6)(ops:Array Oper)(H:Hp)(K:UU->Prop):List Oper->UU->UU->Prop
 |[],F,rs=>rs=[]/\K F
 |o::rest,F,rs=>∃r Wb,rs=r::Wb/\QV P ops o F H r/\zC P ops H K rest (cQ F o.dst r) Wb
theorem EJ{K:UU->Prop}:∀(l:List Oper) (F:UU),qI P ops H K l F->∃rs,zC P ops H K l F rs
 |[],F,h=>⟨[],rfl,h⟩
 |o::rest,F,h=>by
  have mk:∀r,QV P ops o F H r->qI P ops H K rest (cQ F o.dst r)->∃rs,zC P ops H K (o::rest) F rs:=fun r h1 h2=>by obtain⟨rs,h3⟩:=EJ rest _ h2;exact⟨r::rs,r,rs,rfl,h1,h3⟩
  obtain⟨dst,op,ty,pos,after,guard⟩:=o;cases guard with
  |none=>
   unfold qI at h;simp only at h;split at h
   ·obtain⟨r,h1,h2⟩:=h;exact mk r (IF h1) h2
   ·rename_i t n parts;obtain⟨r,h1,h2⟩:=Cw h;exact mk r (CO (h2 _ rfl)) h1
   ·exact mk _ (wl rfl h.1) h.2
  |some g=>
   obtain⟨j,want⟩:=g;unfold qI at h;simp only at h;split at h
   ·rename_i b hb;obtain⟨hq,hv⟩:=h;obtain⟨r,h1,h2⟩:=Dw hv;exact mk _ (Dr rfl hb hq (r:=.gd b r) (h2 F _ (fun _ _=>rfl) rfl)) h1
   ·exact h.elim
-- the order
def FL(os:List Oper)(rs:UU)(L:U5)(F:UU):Nat->UU
 |0=>F
 |m+1=>if L m then cQ (FL os rs L F m) ((os[m]?).bind (·.dst)) (rs.getD m .any)else FL os rs L F m
def lL(os:List Oper)(rs:UU)(L:U5)(F:UU)(s:Nat):Nat->AV
 |0=>F.getD s .any
 |m+1=>if L m=true/\(os[m]?).bind (·.dst)=some s then rs.getD m .any else lL os rs L F s m
theorem lP(os:List Oper)(rs:UU)(L:U5)(F:UU):∀m,(FL os rs L F m).length=F.length
 |0=>rfl
 |m+1=>by
  unfold FL;split
  ·rw[<-lP os rs L F m];cases(os[m]?).bind (·.dst)<;>simp[cQ]
  ·exact lP os rs L F m
theorem tJ(os:List Oper)(rs:UU)(L:U5)(F:UU){s:Nat}(hs:s<F.length):∀m,(FL os rs L F m).getD s .any=lL os rs L F s m
 |0=>rfl
 |m+1=>by
  have ih:=tJ os rs L F hs m;have hl:=lP os rs L F m;unfold FL lL;cases hd:(os[m]?).bind (·.dst)with
  |none=>
   have Vj:¬(L m=true/\(none:Option Tmp)=some s):=fun h=>by have:=h.2;cases this
   rw[if_neg Vj];cases hL:L m
   ·exact ih
   ·exact ih
  |some d=>
   cases hL:L m
   ·simpa using ih
   ·simp only[if_true,cQ,true_and,Option.some.injEq];by_cases e:d=s
    ·subst e;simp[hl,hs]
    ·rw[if_neg e];have:(List.set (FL os rs L F m) d (rs.getD m .any)).getD s .any=(FL os rs L F m).getD s .any:=by simp[List.getElem?_set,e]
     rw[this,ih]
variable{os:List Oper}
def Fc{rs:UU}{L L':U5}{m m':Nat}(hG:G.length=F.length)(h:∀s,s<F.length->G.getD s .any=lL os rs L F s m):G=FL os rs L F m:=by
 refine List.ext_getElem? fun s=>?_
 rcases Nat.lt_or_ge s F.length with hs|hs
 ·have h1:=h s hs;rw[<-tJ os rs L F hs m]at h1;have h2:G[s]?=some (G.getD s .any):=by simp[hG,hs]
  have h3:(FL os rs L F m)[s]?=some ((FL os rs L F m).getD s .any):=by simp[lP,hs]
  rw[h2,h3,h1]
 ·rw[List.getElem?_eq_none jB,List.getElem?_eq_none (by rw[lP];omega)]
def looks(os:List Oper)(o:Oper):UZ:=
 (o.op.operands.toList.filterMap fun|.tmp t=>some t|_=>none)++
 (match o.guard with
   |some (g,_)=>((os[g]?).bind (·.dst)).toList
   |none=>[])
def qK:UZ->UZ
 |[]=>[]
 |x::l=>if(qK l).contains x then qK l else x::qK l
theorem DP{x:Nat}:∀{l:UZ},x∈qK l<->x∈l
 |[]=>Iff.rfl
 |y::l=>by
  have ih:x∈qK l<->x∈l:=DP;unfold qK;split
  ·rename_i h;rw[ih,List.mem_cons];refine⟨.inr,fun h'=>h'.elim (fun e=>?_) id⟩;subst e;exact ih.1 (List.contains_iff_mem.1 h)
  ·rw[List.mem_cons,List.mem_cons,ih]
def nr(Wu:List UZ)(o:Oper):List UZ:=Wu++[qK ((o.after.toList.filter (Region.binds .any)).flatMap fun e=>e.on::Wu.getD e.on [])]
def kJ(os:List Oper):List UZ:=os.foldl nr []
def tZ(os:List Oper)(a b:Oper):Bool:=
 (match a.dst with
   |some d=>(looks os b).contains d || b.dst == some d
   |none=>false) ||
 (match b.dst with
   |some d=>(looks os a).contains d
   |none=>false)
def uT(os:List Oper):Bool:=
 let ps:=kJ os
 (List.range os.length).all fun j=>match os[j]? with
  |some b=>(b.after.toList.all fun e=>!Region.binds .any e || decide (e.on<j)) &&
   (List.range j).all fun i=>match os[i]? with
    |some a=>!tZ os a b || (ps.getD j []).contains i
    |none=>true
  |none=>true
theorem Ci:∀(os:List Oper) (Wu:List UZ) (j:Nat),j<Wu.length->(os.foldl nr Wu)[j]?=Wu[j]?
 |[],Wu,j,_=>rfl
 |o::os,Wu,j,h=>by simp only[List.foldl_cons];rw[Ci os _ j (by simp[nr];omega)];unfold nr;rw[List.getElem?_append_left h]
theorem FD:∀(os:List Oper) (Wu:List UZ) (j:Nat) (o:Oper),os[j]?=some o->(os.foldl nr Wu).getD (Wu.length+j) []=qK ((o.after.toList.filter (Region.binds .any)).flatMap fun e=>e.on::(if e.on<Wu.length+j then(os.foldl nr Wu).getD e.on []else[]))
 |[],Wu,j,o,h=>by simp at h
 |o'::os,Wu,0,o,h=>by
  simp only[List.getElem?_cons_zero,Option.some.injEq]at h;subst h;simp only[List.foldl_cons,Nat.add_zero];have h1:(os.foldl nr (nr Wu o')).getD Wu.length []=qK ((o'.after.toList.filter (Region.binds .any)).flatMap fun e=>e.on::Wu.getD e.on []):=by rw[List.getD_eq_getElem?_getD,Ci os _ _ (by simp[nr])];unfold nr;rw[List.getElem?_append_right jl];simp
  rw[h1];congr 2
  funext e
  congr 1
  split
  ·rename_i D';rw[List.getD_eq_getElem?_getD,List.getD_eq_getElem?_getD,Ci os _ _ (by simp[nr];omega)];unfold nr;rw[List.getElem?_append_left D']
  ·rename_i hge;rw[List.getD_eq_getElem?_getD,List.getElem?_eq_none jB];rfl
 |o'::os,Wu,j+1,o,h=>by
  simp only[List.foldl_cons];have:=FD os (nr Wu o') j o (by simpa using h);have e:(nr Wu o').length+j=Wu.length+(j+1):=by simp[nr];omega
  rw[e]at this;exact this
def G2{j:Nat}(h:os[j]?=some o):(kJ os).getD j []=qK ((o.after.toList.filter (Region.binds .any)).flatMap fun e=>e.on::(if e.on<j then(kJ os).getD e.on []else[])):=by have:=FD os [] j o h;simp only[List.length_nil,Nat.zero_add]at this;exact this
def oy(os:List Oper)(L:U5):Prop:=∀j o,os[j]?=some o->L j=true->∀e∈o.after.toList,Region.binds .any e=true->L e.on=true
def vS{L:U5}(hc:oy os L)(D':∀j o,os[j]?=some o->∀e∈o.after.toList,Region.binds .any e=true->e.on<j):∀n j,j<n->∀o,os[j]?=some o->(∀e∈o.after.toList,Region.binds .any e=true->L e.on=true)->∀i∈(kJ os).getD j [],L i=true:=by
 intro n;induction n with
 |zero=>intro j hj;omega
 |succ n ih=>
  intro j hj o ho hL i hi;rw[G2 ho,DP]at hi;obtain⟨e,he,hi⟩:=List.mem_flatMap.1 hi;obtain⟨XG,Z1⟩:=List.mem_filter.1 he;have hon:=hL e XG Z1;rcases List.mem_cons.1 hi with rfl|hi
  ·exact hon
  ·rw[if_pos (D' j o ho e XG Z1)]at hi;have hlt':=D' j o ho e XG Z1;have hjlen:=(List.getElem?_eq_some_iff.1 ho).1;have Xh:os[e.on]?=some (os[e.on]' jB):=List.getElem?_eq_getElem jB;exact ih e.on jB _ Xh (fun e' h1 h2=>hc _ _ Xh hon e' h1 h2) i hi
theorem DS(o:Oper)(os:List Oper)(r:AV)(rs:UU)(F:UU):∀m,FL (o::os) (r::rs) (fun _=>true) F (m+1)=FL os rs (fun _=>true) (cQ F o.dst r) m
 |0=>by simp[FL]
 |m+1=>by have ih:=DS o os r rs F m;rw[FL,if_pos rfl,ih,FL,if_pos rfl];simp
theorem Hq{K:UU->Prop}:∀(l:List Oper) (F:UU) (rs:UU),zC P ops H K l F rs->(∀i o,l[i]?=some o->QV P ops o (FL l rs (fun _=>true) F i) H (rs.getD i .any))/\K (FL l rs (fun _=>true) F l.length)
 |[],F,rs,h=>⟨fun i o hi=>by simp at hi,h.2⟩
 |o::l,F,rs,h=>by
  obtain⟨r,Wb,rfl,h1,h2⟩:=h;obtain⟨g1,g2⟩:=Hq l _ Wb h2;refine⟨fun i o' hi=>?_,by rw[List.length_cons,DS];exact g2⟩;cases i with
  |zero=> simp only[List.getElem?_cons_zero,Option.some.injEq]at hi;subst hi;exact h1
  |succ i=> rw[DS];exact g1 i o' (by simpa using hi)
def wL(h:uT os=true):(∀j o,os[j]?=some o->∀e∈o.after.toList,Region.binds .any e=true->e.on<j)/\
  ∀i j a b,i<j->os[i]?=some a->os[j]?=some b->tZ os a b=true->i∈(kJ os).getD j []:=by
 simp only[uT,List.all_eq_true,List.mem_range]at h;constructor
 ·intro j o ho e he hb;have:=h j (List.getElem?_eq_some_iff.1 ho).1;rw[ho]at this;simp only[Bool.and_eq_true,List.all_eq_true]at this;have:=this.1 e he;simpa[hb]using this
 ·intro i j a b hij ha hb hc;have:=h j (List.getElem?_eq_some_iff.1 hb).1;rw[hb]at this;simp only[Bool.and_eq_true,List.all_eq_true,List.mem_range]at this;have:=this.2 i hij;rw[ha]at this;simp only[hc,Bool.not_true,Bool.false_or]at this;simpa using this
theorem Fx{os:List Oper}{rs F:UU}{L:U5}{i s:Nat}(hw:∀k o,os[k]?=some o->o.dst=some s->L k=decide (k<i)):∀m,lL os rs L F s m=lL os rs (fun _=>true) F s (min m i)
 |0=>by simp[lL]
 |m+1=>by
  have ih:=Fx (rs:=rs) (F:=F) hw m;rw[lL];by_cases hd:(os[m]?).bind (·.dst)=some s
  ·obtain⟨o,ho,hs⟩:=Option.bind_eq_some_iff.1 hd;have hL:=hw m o ho hs;by_cases hm:m<i
   ·rw[if_pos ⟨by rw[hL];simpa using hm,hd⟩,show min (m+1) i=m+1 from jB,lL,if_pos ⟨rfl,hd⟩]
   ·rw[if_neg (by rw[hL];simp[hm]),ih,show min (m+1) i=min m i from jB]
  ·rw[if_neg (by simp[hd]),ih];by_cases hm:m<i
   ·rw[show min (m+1) i=m+1 from jB,show min m i=m from jB,lL,if_neg (by simp[hd])]
   ·rw[show min (m+1) i=min m i from jB]
theorem CI{os:List Oper}{rs F:UU}{L L':U5}{i s:Nat}{o:Oper}(ho:os[i]?=some o)(Xi:∀k,L' k=(L k || k == i))(hw:∀k o',os[k]?=some o'->o'.dst=some s->L k=decide (k<i))(hs:o.dst=some s):∀m,i<m->lL os rs L' F s m=rs.getD i .any
 |0,h=>by omega
 |m+1,h=>by
  rw[lL];by_cases hm:m=i
  ·subst hm;rw[if_pos ⟨by rw[Xi];simp,by rw[ho];exact hs⟩]
  ·rw[if_neg]
   ·exact CI ho Xi hw hs m jB
   ·rintro⟨h1,h2⟩;obtain⟨o',Xh,Yu⟩:=Option.bind_eq_some_iff.1 h2;rw[Xi,hw m o' Xh Yu]at h1;simp at h1;omega
theorem C6{os:List Oper}{rs F:UU}{L L':U5}{i s:Nat}{o:Oper}(ho:os[i]?=some o)(Xi:∀k,L' k=(L k || k == i))(hs:o.dst≠some s):∀m,lL os rs L' F s m=lL os rs L F s m
 |0=>rfl
 |m+1=>by
  have ih:=C6 (rs:=rs) (F:=F) ho Xi hs m;rw[lL,lL,ih,Xi];by_cases hm:m=i
  ·subst hm;rw[ho];simp[hs]
  ·simp[hm]
def Uw{t:Nat}(h:Operand.tmp t∈o.op.operands.toList):t∈looks os o:=
 List.mem_append_left _ (List.mem_filterMap.2 ⟨_,h,rfl⟩)
def F8(hl:F.length=G.length)(h:∀s∈looks os o,s<F.length->G.getD s .any=F.getD s .any):xj os.toArray o F G:=by
 have Vs:∀s∈looks os o,G[s]?=F[s]?:=fun s hs=>by
  rcases Nat.lt_or_ge s F.length with h1|h1
  ·have:=h s hs h1;have e1:G[s]?=some (G.getD s .any):=by simp[<-hl,h1]
   have e2:F[s]?=some (F.getD s .any):=by simp[h1]
   rw[e1,e2,this]
  ·rw[List.getElem?_eq_none jB,List.getElem?_eq_none h1]
 constructor
 ·intro x hx;cases x with
  |tmp t=>simp only[cw,List.getD_eq_getElem?_getD,Vs t (Uw hx)]
  |const v=>rfl
  |global g=>rfl
  |func f=>rfl
 ·intro j b hg;unfold l9;cases hd:(os.toArray[j]?).bind (·.dst)with
  |none=>rfl
  |some d=> simp only;rw[Vs d (List.mem_append_right _ (by rw[hg];simp at hd ⊢;simpa using hd))]
variable{Q:Exit->UQ}
def Oq{l:List Oper}{rs:UU}(hok:uT l=true)(hqv:∀i o,l[i]?=some o->QV P l.toArray o (FL l rs (fun _=>true) F i) H (rs.getD i .any))(hK:Q .normal (FL l rs (fun _=>true) F l.length) H)(w0:NW) :
  ∀(fuel:Nat) (listed:Array Bool),listed.size=l.length->oy l (fun i=>listed.getD i false)->(List.range l.length).countP (fun i=>!listed.getD i false)=fuel->
   ∀(w:NW) tm,aL w H->bu w (FL l rs (fun i=>listed.getD i false) F l.length) tm->Ext w0 H w H->wpAny P .any l.toArray (ii Q w0 H) fuel listed ⟨tm,[]⟩ w.toWorld:=by
 obtain⟨D',Vf⟩:=wL hok
 -- when all are done
 have fin:∀(listed:Array Bool),(∀i,i<l.length->listed.getD i false=true)->∀(w:NW) tm,aL w H->bu w (FL l rs (fun i=>listed.getD i false) F l.length) tm->Ext w0 H w H->ii Q w0 H .normal ⟨tm,[]⟩ w.toWorld:=by
  intro listed Ve w tm h1 h2 h3;have e:FL l rs (fun i=>listed.getD i false) F l.length=FL l rs (fun _=>true) F l.length:=by
   have gen:∀m,m<=l.length->FL l rs (fun i=>listed.getD i false) F m=FL l rs (fun _=>true) F m:=by
    intro m;induction m with
    |zero=>intro _;rfl
    |succ m ih=>intro hm;rw[FL,FL,ih jB,Ve m jB]
   exact gen _ jl
  rw[e]at h2;exact⟨tm,_,H,w,rfl,rfl,hK,h1,h2,h3.pS⟩
 intro fuel;induction fuel with
 |zero=>
  intro listed Vi Xs Y5 w tm h1 h2 h3;have Ve:∀i,i<l.length->listed.getD i false=true:=fun i hi=>by have:=(List.countP_eq_zero.1 Y5) i (List.mem_range.2 hi);simpa using this
  refine⟨?_,fin listed Ve w tm h1 h2 h3⟩;rw[List.eq_nil_iff_forall_not_mem];intro j hj;obtain⟨hj0,o,ho,_⟩:=mem_ready.1 hj;have X0:j<l.length:=by have:=(Array.getElem?_eq_some_iff.1 ho).1;simpa using this
  have:=Ve j X0;simp[Vi,X0]at this hj0;rw[this]at hj0;cases hj0
 |succ fuel ih=>
  intro listed Vi Xs Y5 w tm h1 h2 h3;refine⟨fun haq=>?_,fun i hi=>?_⟩
  ·-- some operation is ready
   exfalso;have hex:∃i,i<l.length/\listed.getD i false=false:=by have VV:0<(List.range l.length).countP (fun i=>!listed.getD i false):=jB;obtain⟨i,hi,hp⟩:=List.countP_pos_iff.1 VV;exact⟨i,List.mem_range.1 hi,by simpa using hp⟩
   obtain⟨i,⟨hi,hf⟩,X1⟩:=exists_least hex;have ho:l[i]?=some l[i]:=List.getElem?_eq_getElem hi;have:i∈Region.ready .any l.toArray listed:=mem_ready.2 ⟨by simp[Vi,hi]at hf ⊢;exact hf,l[i],by simp[hi],fun e he hb=>by
    have h4:=D' i _ ho e (by simpa using he) hb;cases hv:listed.getD e.on false with
    |true=>rfl
    |false=>have:=X1 e.on ⟨jB,hv⟩;omega⟩
   rw[haq]at this;cases this
  ·obtain⟨XQ,o,ho,Wl⟩:=mem_ready.1 hi;have Xh:l[i]?=some o:=by simpa using ho
   have Wz:=(List.getElem?_eq_some_iff.1 Xh).1;have Yy:listed.getD i false=false:=by simp[Vi,Wz]at XQ ⊢;exact XQ
   have Wx:∀e∈o.after.toList,Region.binds .any e=true->listed.getD e.on false=true:=fun e he hb=>Wl e (by simpa using he) hb
   have VH:=vS Xs D' (i+1) i jB o Xh Wx
   -- who writes where o touches
   have hwr:∀k o' s,l[k]?=some o'->o'.dst=some s->(s∈looks l o\/o.dst=some s)->listed.getD k false=decide (k<i):=by
    intro k o' s hk hs VP;rcases Nat.lt_trichotomy k i with h|h|h
    ·rw[decide_eq_true h];refine VH k (Vf k i o' o h hk Xh ?_);unfold tZ;rw[hs];rcases VP with h5|h5
     ·simp[h5]
     ·simp[h5]
    ·subst h;simpa using Yy
    ·rw[decide_eq_false jB];cases hv:listed.getD k false with
     |false=>rfl
     |true=>
      have WJ:i∈(kJ l).getD k []:=Vf i k o o' h Xh hk (by
       unfold tZ;rw[hs];rcases VP with h5|h5
       ·simp[h5]
       ·simp[h5])
      have:=vS Xs D' (k+1) k jB o' hk (fun e he hb=>Xs k o' hk hv e he hb) i WJ;rw[Yy]at this;cases this
   have WL:xj l.toArray o (FL l rs (fun _=>true) F i) (FL l rs (fun i=>listed.getD i false) F l.length):=by
    refine F8 (by rw[lP,lP]) fun s hs O'=>?_
    rw[lP]at O';rw[tJ _ _ _ _ O',tJ _ _ _ _ O',Fx (fun k o' hk hd=>hwr k o' s hk hd (.inl hs)),show min l.length i=i from jB]
   have Xa:=hqv i o Xh _ WL;have Xi:∀k,(listed.setIfInBounds i true).getD k false=(listed.getD k false || k == i):=fun k=>by
    by_cases hk:k=i
    ·subst hk;simp[Vi,Wz]
    ·simp[Array.getElem?_setIfInBounds_ne (Ne.symm hk),hk]
   have Yg:cQ (FL l rs (fun i=>listed.getD i false) F l.length) o.dst (rs.getD i .any)=FL l rs (fun k=>(listed.setIfInBounds i true).getD k false) F l.length:=by
    refine Fc (m':=0) (L':=fun _=>true) (by cases o.dst<;>simp[cQ,lP]) fun s hs=>?_
    by_cases hd:o.dst=some s
    ·rw[CI (L:=fun i=>listed.getD i false) Xh Xi (fun k o' hk hd'=>hwr k o' s hk hd' (.inr hd)) hd _ Wz,hd];simp[cQ,lP,hs]
    ·rw[C6 (L:=fun i=>listed.getD i false) Xh Xi hd,<-tJ _ _ _ _ hs];cases hd':o.dst with
     |none=>rfl
     |some d=>
      have:d≠s:=fun e=>hd (by rw[hd',e])
      simp[cQ,List.getElem?_set,this]
   have:=Xa w tm (ii Q w0 H) (wpAny P .any l.toArray (ii Q w0 H) fuel (listed.setIfInBounds i true)) h1 h2 (by
    rintro VQ w' F' H' ⟨rfl,rfl⟩ g1 g2 g3;refine ih (listed.setIfInBounds i true) (by simpa using Vi) ?_ ?_ w' VQ g1 (by rw[<-Yg];exact g2) (h3.trans g3)
    ·intro j o' hj W3 e he hb;simp only[Xi]at W3 ⊢;rcases Bool.or_eq_true_iff.1 W3 with h6|h6
     ·have h7:listed.getD e.on false=true:=Xs j o' hj h6 e he hb;rw[h7];rfl
     ·obtain rfl:j=i:=by simpa using h6
      rw[Xh]at hj;cases hj;rw[Wx e he hb];rfl
    ·have:∀(n:Nat),i<n->(List.range n).countP (fun k=>!(listed.setIfInBounds i true).getD k false)+1=(List.range n).countP (fun k=>!listed.getD k false):=by
      intro n;induction n with
      |zero=>intro h;omega
      |succ n ihn=>
       intro h;rw[List.range_succ,List.countP_append,List.countP_append];by_cases hn:n=i
       ·subst hn;have:(List.range n).countP (fun k=>!(listed.setIfInBounds n true).getD k false)=(List.range n).countP (fun k=>!listed.getD k false):=by
         refine List.countP_congr fun k hk=>?_
         rw[Xi];have:k≠n:=by have:=List.mem_range.1 hk;omega
         simp[this]
        rw[this];simp only[List.countP_singleton,Xi,Yy];simp
       ·rw[<-ihn jB];simp only[List.countP_singleton,Xi];have:(n == i)=false:=by simpa using hn
        rw[this,Bool.or_false];omega
     have:=this l.length Wz;omega)
   unfold wpOp;rw[ho];exact this
def TL{id:Nat}{l:List Oper}(hm:P.follows .mixedOrders=true)(hok:uT l=true)(h:qI P l.toArray H (fun F'=>Q .normal F' H) l F):dL P (.region id l.toArray true) Q F H:=fun w tm h1 h2=>by
 obtain⟨rs,B'⟩:=EJ l F h;obtain⟨hqv,hK⟩:=Hq l F rs B';have hz:∀i,(Array.replicate l.toArray.size false).getD i false=false:=fun i=>by by_cases hi:i<l.length<;>simp[Array.getElem?_replicate,hi]
 refine wp_region_any hm ?_;have e0:FL l rs (fun i=>(Array.replicate l.toArray.size false).getD i false) F l.length=F:=by
  have gen:∀m,FL l rs (fun i=>(Array.replicate l.toArray.size false).getD i false) F m=F:=by
   intro m;induction m with
   |zero=>rfl
   |succ m ih=>rw[FL,hz,if_neg jE,ih]
  exact gen _
 exact Oq hok hqv hK w l.toArray.size (Array.replicate l.toArray.size false) jE (fun j o _ hj=>by have:=(hz j).symm.trans hj;cases this) (by rw[List.countP_eq_length.2 (fun i _=>by rw[hz];rfl)];simp) (w.to w.drew) tm h1.drew (by rw[e0];exact h2.ext (Ext.drew w H)) (Ext.drew w H)
end
section
variable {P:U6}{ops:Array Oper}{H:Hp}{K:UU->Prop}{F:UU}{dst:Option Tmp}{ty:U1}{pos:String}{after:Array Edge}{rest:List Oper}
end
end Go.Gd