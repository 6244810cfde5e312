/- Lemmas. No conditions. -/
import Derived.Test.YtjpcgmjaipfgdaaGreatDoorGdE
import Derived.Deep.RegionWith
import Derived.Laws.Append
set_option linter.all false
namespace Go.Gd
open Go
section
variable {P:U3}{w:NW}{H:Hp}
variable{a:Option AV}{v:Option Value}
def mC{i:Option Int}(ha:q9 a=some i)(hr:∀x y,a=some x->v=some y->aw w x y)(hs:a.isSome=v.isSome):(i=none/\v=none)\/∃k n,i=some n/\v=some (.int k n):=by
 cases a with
 |none=>
  simp[q9]at ha;cases v with
  |none=>exact .inl ⟨ha.symm,rfl⟩
  |some _=>simp at hs
 |some x=>
  cases v with
  |none=>simp at hs
  |some y=>
   unfold q9 at ha;split at ha<;>try cases ha
   ·rename_i h;cases h
   ·rename_i k n h;cases h;have:=cZ (hr _ _ rfl rfl);subst this;exact .inr ⟨k,n,rfl,rfl⟩
variable{vlo vhi:Option Value}{lo:Option Int}
def tQ{isSlice:Bool}{len cap:Nat}{hi:Option Int}(P':(lo=none/\vlo=none)\/∃k n,lo=some n/\vlo=some (.int k n))(XS:(hi=none/\vhi=none)\/∃k n,hi=some n/\vhi=some (.int k n))
  (h0:0<=lo.getD 0) (h1:lo.getD 0<=hi.getD len) (h2:hi.getD len<=cap):(Instr.sliceBounds isSlice len cap vlo vhi none).run P w=.ok ((lo.getD 0).toNat,(hi.getD len).toNat,cap) w:=by
 rcases P' with⟨rfl,rfl⟩|⟨k,n,rfl,rfl⟩<;>rcases XS with⟨rfl,rfl⟩|⟨k',m,rfl,rfl⟩<;>simp only[Option.getD_some,Option.getD_none]at*
 ·simp[Instr.sliceBounds]
 ·simp[Instr.sliceBounds,run_sliceBound w _ _ _ _ (show 0<=m from jB) h2]
 ·simp[Instr.sliceBounds,run_sliceBound w _ _ _ _ h0 h1]
 ·simp[Instr.sliceBounds,run_sliceBound w _ _ _ _ (show 0<=m from jB) h2,run_sliceBound w _ _ _ _ h0 (show n<=((m.toNat:Nat):Int) from jB)]
def H5{len cap:Nat}{k k2:IntKind}{m q:Int}(P':(lo=none/\vlo=none)\/∃k n,lo=some n/\vlo=some (.int k n))
  (h0:0<=lo.getD 0) (h1:lo.getD 0<=q) (h2:q<=m) (h3:m<=cap):(Instr.sliceBounds true len cap vlo (some (.int k2 q)) (some (.int k m))).run P w.toWorld=.ok ((lo.getD 0).toNat,q.toNat,m.toNat) w.toWorld:=by
 rcases P' with⟨rfl,rfl⟩|⟨k1,n,rfl,rfl⟩<;>simp only[Option.getD_some,Option.getD_none]at*
 ·simp[Instr.sliceBounds,run_sliceBound w.toWorld _ _ _ _ (show 0<=m from jB) h3,run_sliceBound w.toWorld _ _ _ _ (show 0<=q from jB) (show q<=((m.toNat:Nat):Int) from jB)]
 ·simp[Instr.sliceBounds,run_sliceBound w.toWorld _ _ _ _ (show 0<=m from jB) h3,run_sliceBound w.toWorld _ _ _ _ (show 0<=q from jB) (show q<=((m.toNat:Nat):Int) from jB),run_sliceBound w.toWorld _ _ _ _ h0 (show n<=((q.toNat:Nat):Int) from jB)]
variable{vmx:Option Value}
def o3{t e:UY}{sz:Nat}(hu:P.underlying t=some (.slice e))(hs:cQ P e=some sz){A:Option Addr}{n c lo hi mx:Nat}(hb:(Instr.sliceBounds true n c vlo vhi vmx).run P w.toWorld=.ok (lo,hi,mx) w.toWorld) :
  ∃A',(Instr.sliceAt t (.slice A n c) vlo vhi vmx).run P w.toWorld=.ok (.slice A' (hi-lo) (mx-lo)) w.toWorld/\((A=none/\A'=none)\/∃ad,A=some ad/\A'=some (if mx=lo then ad else ad.add (lo*sz))):=by
 cases A with
 |none=>exact⟨none,by simp[Instr.sliceAt,run_underlying hu,Instr.slice,hb,lQ hs],.inl ⟨rfl,rfl⟩⟩
 |some ad=>exact⟨some (if mx=lo then ad else ad.add (lo*sz)),by simp only[Instr.sliceAt,run_underlying hu,Instr.slice,hb,lQ hs,Sem.run_bind,Result.andThen_ok,Sem.run_pure,Option.map_some];split<;>rfl,.inr ⟨ad,rfl,rfl⟩⟩
def Aw{i:Int}(ha:q9 a=some (some i))(hr:∀x y,a=some x->v=some y->aw w x y)(hs:a.isSome=v.isSome):∃k,v=some (.int k i):=by
 rcases mC ha hr hs with⟨h,_⟩|⟨k,n,h,rfl⟩
 ·cases h
 ·cases h;exact⟨k,rfl⟩
def qB(ha:q9 a=some none)(hr:∀x y,a=some x->v=some y->aw w x y)(hs:a.isSome=v.isSome):v=none:=by
 rcases mC ha hr hs with⟨_,h⟩|⟨k,n,h,rfl⟩
 ·exact h
 ·cases h
def OA(t:UY){a:AV}{lo hi mx:Option AV}{va:Value}(ha:aw w a va)(P':∀x y,lo=some x->vlo=some y->aw w x y)(slo:lo.isSome=vlo.isSome)
  (XS:∀x y,hi=some x->vhi=some y->aw w x y) (shi:hi.isSome=vhi.isSome) (XG:∀x y,mx=some x->vmx=some y->aw w x y) (smx:mx.isSome=vmx.isSome):kG P w (Instr.sliceAt t va vlo vhi vmx) (tK P t a lo hi mx):=by
 intro hq;unfold tK at*;split at hq<;>try exact hq.elim
 ·rename_i s l h e1 e2 e3;obtain rfl:=qB e3 XG smx;have:=cZ ha;subst this;have ht:=yM hq.1;obtain⟨h0,h1,h2⟩:=hq.2;have hb:=tQ (P:=P) (w:=w) (isSlice:=false) (mC e1 P' slo) (mC e2 XS shi) h0 h1 h2;exact⟨_,by simp[Instr.sliceAt,run_underlying ht,Instr.slice,hb],.raw _⟩
 ·rename_i x sz css d l h e1 e2 e3;obtain rfl:=qB e3 XG smx;obtain⟨e,hu,hs⟩:=oV hq.1;obtain⟨h0,h1,h2⟩:=hq.2;have key:∀n c:Nat,n=css.length->n<=c->(Instr.sliceBounds true n c vlo vhi none).run P w.toWorld=.ok ((l.getD 0).toNat,(h.getD css.length).toNat,c) w.toWorld:=fun n c hn hc=>by
   subst hn;exact tQ (P:=P) (w:=w) (isSlice:=true) (mC e1 P' slo) (mC e2 XS shi) h0 h1 jB
  generalize hL:l.getD 0=L at*;generalize hh:h.getD (css.length:Int)=Hh at*;obtain⟨Ln,rfl⟩:=Int.eq_ofNat_of_zero_le h0;obtain⟨Hn,rfl⟩:=Int.eq_ofNat_of_zero_le (show(0:Int)<=Hh from jB);simp only[Int.toNat_natCast]at key ⊢;have J':((css.drop Ln).take (Hn-Ln)).length=Hn-Ln:=by simp;omega
  cases ha with
  |hJ _ _ A c hx=>
   obtain⟨A',B',_⟩:=o3 hu hs (A:=A) (key 0 c rfl (Nat.zero_le _));obtain rfl:Hn=0:=by simp at h2;omega
   refine⟨_,B',?_⟩;simp only[Nat.zero_sub,List.take_zero];exact .hJ _ _ _ _ (fun h=>by cases h)
  |sl _ _ _ ad c vs hn hc hx Vb VM hH D' hr=>
   obtain⟨A',B',hA⟩:=o3 hu hs (A:=some ad) (key _ c rfl hc);refine⟨_,B',?_⟩;by_cases hz:Hn-Ln=0
   ·rw[hz,List.take_zero];exact .hJ _ _ _ _ (fun h=>by cases h)
   ·rcases hA with⟨h,_⟩|⟨ad',h,rfl⟩
    ·cases h
    cases h;rw[jN];have hg:∀i,i<Hn-Ln->((css.drop Ln).take (Hn-Ln)).getD i []=css.getD (Ln+i) []:=fun i hi=>by simp[List.getElem?_take,hi]
    have:=aw.sl (w:=w) (d:=d) false sz ((css.drop Ln).take (Hn-Ln)) (ad.add (Ln*sz)) (c-Ln) (fun j=>vs (Ln*sz+j)) jB jB (fun h=>by cases h) (fun cs VW=>Vb _ (List.mem_of_mem_drop (List.mem_of_mem_take VW))) (by rw[p8];exact VM) (by rw[p8];exact hH)
     (fun i j hi hj=>by
      rw[xl,show Ln*sz+(i*sz+j)=(Ln+i)*sz+j by rw[Nat.add_mul];omega];exact D' _ j jB hj) (fun i j u hi hu=>by
      rw[hg i jB]at hu;rw[show Ln*sz+(i*sz+j)=(Ln+i)*sz+j by rw[Nat.add_mul];omega];exact hr _ j u jB hu)
    rw[J']at this;exact this
 ·rename_i d m sz n h e1 e2 e3;obtain rfl:=qB e3 XG smx;obtain rfl:=qB e1 P' slo;obtain⟨e,hu,hs⟩:=oV hq.1;obtain⟨h1,h2⟩:=hq.2;have key:∀c:Nat,n<=c->(Instr.sliceBounds true n c none vhi none).run P w.toWorld=.ok (0,(h.getD n).toNat,c) w.toWorld:=fun c hc=>by
   have:=tQ (P:=P) (w:=w) (isSlice:=true) (len:=n) (cap:=c) (lo:=none) (vlo:=none) (.inl ⟨rfl,rfl⟩) (mC e2 XS shi) jE (by simpa using h1) jB;simpa using this
  cases ha with
  |iH _ _ _ A hn=>
   obtain⟨A',B',_⟩:=o3 hu hs (A:=A) (key 0 (Nat.zero_le _));have h0:(h.getD 0).toNat=0:=by simp at h2;omega
   refine⟨_,B',?_⟩;simp only[Nat.sub_zero,Int.ofNat_zero];rw[h0];exact .iH d m sz A' hn
  |rs _ _ _ _ b t c hn hc Vj Wp=>
   obtain⟨A',B',hA⟩:=o3 hu hs (A:=some ⟨b,0,none⟩) (key c Vj);refine⟨_,B',?_⟩;rcases hA with⟨h',_⟩|⟨ad',h',rfl⟩
   ·cases h'
   cases h';have:(if c=0 then(⟨b,0,none⟩:Addr)else(⟨b,0,none⟩:Addr).add (0*sz))=⟨b,0,none⟩:=by rw[Nat.zero_mul,A7];simp
   rw[this];simp only[Nat.sub_zero];exact .rs d m sz _ b t c hn hc jB Wp
 ·rename_i d m sz n l h e1 e2 e3;obtain rfl:=qB e3 XG smx;obtain⟨e,hu,hs⟩:=oV hq.1;obtain⟨h0,h1,h2⟩:=hq.2;have key:∀c:Nat,n<=c->(Instr.sliceBounds true n c vlo vhi none).run P w.toWorld=.ok (l.toNat,(h.getD n).toNat,c) w.toWorld:=fun c hc=>
   tQ (P:=P) (w:=w) (isSlice:=true) (len:=n) (cap:=c) (lo:=some l) (mC e1 P' slo) (mC e2 XS shi) h0 h1 jB
  cases ha with
  |iH _ _ _ A hn=>
   obtain⟨A',B',_⟩:=o3 hu hs (A:=A) (key 0 (Nat.zero_le _));refine⟨_,B',?_⟩;have:(h.getD (0:Nat)).toNat-l.toNat=0:=by simp at h1 h2 ⊢;omega
   rw[this];exact .kj d m sz _ _ _
  |rs _ _ _ _ b t c hn hc Vj Wp=>
   obtain⟨A',B',hA⟩:=o3 hu hs (A:=some ⟨b,0,none⟩) (key c Vj);refine⟨_,B',?_⟩;by_cases hz:(h.getD n).toNat-l.toNat=0
   ·rw[hz];exact .kj d m sz _ _ _
   ·rcases hA with⟨h',_⟩|⟨ad',h',rfl⟩
    ·cases h'
    cases h';rw[jN,j3,Nat.zero_add];exact .rv d m sz _ _ b t _ hn jB
 ·rename_i d m sz n h e1 e2 e3;obtain rfl:=qB e3 XG smx;obtain rfl:=qB e1 P' slo;obtain⟨e,hu,hs⟩:=oV hq.1;obtain⟨h1,h2⟩:=hq.2;cases ha with
  |rc _ _ _ _ b t hn hc Vj Wp=>
   have key:(Instr.sliceBounds true n m none vhi none).run P w.toWorld=.ok (0,(h.getD n).toNat,m) w.toWorld:=by have:=tQ (P:=P) (w:=w) (isSlice:=true) (len:=n) (cap:=m) (lo:=none) (vlo:=none) (.inl ⟨rfl,rfl⟩) (mC e2 XS shi) jE (by simpa using h1) jB;simpa using this
   obtain⟨A',B',hA⟩:=o3 hu hs (A:=some ⟨b,0,none⟩) key;refine⟨_,B',?_⟩;rcases hA with⟨h',_⟩|⟨ad',h',rfl⟩
   ·cases h'
   cases h';have:(if m=0 then(⟨b,0,none⟩:Addr)else(⟨b,0,none⟩:Addr).add (0*sz))=⟨b,0,none⟩:=by rw[Nat.zero_mul,A7];simp
   rw[this];simp only[Nat.sub_zero];exact .rc d m sz _ b t hn hc jB Wp
 ·rename_i d m sz n l h e1 e2 e3;obtain rfl:=qB e3 XG smx;obtain⟨e,hu,hs⟩:=oV hq.1;obtain⟨h0,h1,h2⟩:=hq.2;cases ha with
  |rc _ _ _ _ b t hn hc Vj Wp=>
   have key:(Instr.sliceBounds true n m vlo vhi none).run P w.toWorld=.ok (l.toNat,(h.getD n).toNat,m) w.toWorld:=
    tQ (P:=P) (w:=w) (isSlice:=true) (len:=n) (cap:=m) (lo:=some l) (mC e1 P' slo) (mC e2 XS shi) h0 h1 jB
   obtain⟨A',B',hA⟩:=o3 hu hs (A:=some ⟨b,0,none⟩) key;refine⟨_,B',?_⟩;by_cases hz:(h.getD n).toNat-l.toNat=0
   ·rw[hz];exact .kj d m sz _ _ _
   ·rcases hA with⟨h',_⟩|⟨ad',h',rfl⟩
    ·cases h'
    cases h';rw[jN,j3,Nat.zero_add];exact .rv d m sz _ _ b t _ hn jB
 ·rename_i d m sz n l h x e1 e2 e3;obtain⟨kx,rfl⟩:=Aw e3 XG smx;obtain⟨kh,rfl⟩:=Aw e2 XS shi;obtain⟨e,hu,hs⟩:=oV hq.1;obtain⟨h0,h1,h2,h3⟩:=hq.2;cases ha with
  |rc _ _ _ _ b t hn hc Vj Wp=>
   have key:(Instr.sliceBounds true n m vlo (some (.int kh h)) (some (.int kx x))).run P w.toWorld=.ok ((l.getD 0).toNat,h.toNat,x.toNat) w.toWorld:=
    H5 (P:=P) (w:=w) (len:=n) (cap:=m) (mC e1 P' slo) h0 h1 h2 jB
   obtain⟨A',B',hA⟩:=o3 hu hs (A:=some ⟨b,0,none⟩) key;refine⟨_,B',?_⟩;by_cases hz:h.toNat-(l.getD 0).toNat=0
   ·rw[hz];exact .kj d m sz _ _ _
   ·rcases hA with⟨h',_⟩|⟨ad',h',rfl⟩
    ·cases h'
    cases h';rw[jN,j3,Nat.zero_add];exact .rv d m sz _ _ b t _ hn jB
 ·rename_i d m sz o n l h e1 e2 e3;obtain rfl:=qB e3 XG smx;obtain⟨e,hu,hs⟩:=oV hq.1;obtain⟨h0,h1,h2⟩:=hq.2;have key:∀c:Nat,n<=c->(Instr.sliceBounds true n c vlo vhi none).run P w.toWorld=.ok ((l.getD 0).toNat,(h.getD n).toNat,c) w.toWorld:=fun c hc=>
   tQ (P:=P) (w:=w) (isSlice:=true) (len:=n) (cap:=c) (mC e1 P' slo) (mC e2 XS shi) h0 h1 jB
  cases ha with
  |kj _ _ _ _ c A=>
   obtain⟨A',B',_⟩:=o3 hu hs (A:=A) (key c (Nat.zero_le _));refine⟨_,B',?_⟩;have:(h.getD (0:Nat)).toNat-(l.getD 0).toNat=0:=by simp at h1 h2 ⊢;omega
   rw[this];exact .kj d m sz _ _ _
  |rv _ _ _ _ _ b t c hn Vj=>
   obtain⟨A',B',hA⟩:=o3 hu hs (A:=some ⟨b,o*sz,none⟩) (key c Vj);refine⟨_,B',?_⟩;by_cases hz:(h.getD n).toNat-(l.getD 0).toNat=0
   ·rw[hz];exact .kj d m sz _ _ _
   ·rcases hA with⟨h',_⟩|⟨ad',h',rfl⟩
    ·cases h'
    cases h';rw[jN,j3,<-Nat.add_mul];exact .rv d m sz _ _ b t _ hn jB
 ·rename_i d m sz n l h x e1 e2 e3;obtain⟨kx,rfl⟩:=Aw e3 XG smx;obtain⟨kh,rfl⟩:=Aw e2 XS shi;obtain⟨e,hu,hs⟩:=oV hq.1;obtain⟨h0,h1,h2,h3⟩:=hq.2;have key:∀c:Nat,n<=c->(Instr.sliceBounds true n c vlo (some (.int kh h)) (some (.int kx x))).run P w.toWorld=.ok ((l.getD 0).toNat,h.toNat,x.toNat) w.toWorld:=fun c hc=>
   H5 (P:=P) (w:=w) (len:=n) (cap:=c) (mC e1 P' slo) h0 h1 h2 jB
  cases ha with
  |iH _ _ _ A hn=>
   obtain⟨A',B',_⟩:=o3 hu hs (A:=A) (key 0 (Nat.zero_le _));refine⟨_,B',?_⟩;have:h.toNat-(l.getD 0).toNat=0:=by simp at h1 h2 h3 ⊢;omega
   rw[this];exact .kj d m sz _ _ _
  |rs _ _ _ _ b t c hn hc Vj Wp=>
   obtain⟨A',B',hA⟩:=o3 hu hs (A:=some ⟨b,0,none⟩) (key c Vj);refine⟨_,B',?_⟩;by_cases hz:h.toNat-(l.getD 0).toNat=0
   ·rw[hz];exact .kj d m sz _ _ _
   ·rcases hA with⟨h',_⟩|⟨ad',h',rfl⟩
    ·cases h'
    cases h';rw[jN,j3,Nat.zero_add];exact .rv d m sz _ _ b t _ hn jB
 ·rename_i l h e1 e2 e3;obtain rfl:=qB e3 XG smx;have:=cZ ha;subst this;obtain⟨_,Vb,h0,h1⟩:=hq;obtain⟨sz,Vb⟩:=Option.isSome_iff_exists.1 Vb;obtain⟨e,hu,hs⟩:=oV Vb;have hb:=tQ (P:=P) (w:=w) (isSlice:=true) (len:=0) (cap:=0) (mC e1 P' slo) (mC e2 XS shi) jB jF jF;simp only[h0,Int.toNat_zero,h1,Int.ofNat_zero]at hb;exact⟨_,by simp[Instr.sliceAt,run_underlying hu,Instr.slice,hb,lQ hs],.raw _⟩
def SA(s d:UY){a:AV}{v:Value}(h:aw w a v):kG P w (convert s d v) (wK P s d a):=by
 intro hq;unfold wK at*;split at hq<;>try exact hq.elim
 ·rename_i k' n k e;have:=cZ h;subst this;have hd:P.underlying d=some (.int k):=by unfold CN at e;split at e<;>simp_all
  obtain⟨ds,hs⟩:=Option.isSome_iff_exists.1 hq;refine⟨.int k (k.wrap n),?_,.raw _⟩;cases ds<;>simp[convert,run_underlying hs,run_underlying hd,Conv.intToInt]
 ·rename_i s' e;have:=cZ h;subst this;have hd:=yM hq.2;obtain⟨ds,hs⟩:=Option.isSome_iff_exists.1 hq.1;refine⟨.string s',?_,.raw _⟩;cases ds<;>simp[convert,run_underlying hs,run_underlying hd]
def Ew(mx:Bool)(ts:Array UY)(ty:UY){l:US}{vs:U1}(h:bZ w l vs):kG P w (if mx then Builtin.max_ ts ty vs.toArray else Builtin.min_ ts ty vs.toArray) (wV mx l):=by
 intro hq;unfold wV at*;split at hq<;>try exact hq.elim
 rename_i k a k' b;obtain⟨hl,hr⟩:=h;match vs,hl with
 |[x,y],_=> obtain rfl:k=k':=hq;obtain rfl:=cZ (hr 0 _ _ rfl rfl);obtain rfl:=cZ (hr 1 _ _ rfl rfl);cases mx<;>exact⟨_,by simp[Builtin.max_,Builtin.min_,Builtin.max2,Builtin.min2];rfl,by simpa using aw.raw _⟩
theorem Cq{pl:Nat->Option (Nat×Nat)}:∀{parts:List (Nat×AV)} {vparts:List (Nat×Value)} {cells:US} {cur:U0} {out:US},
  rQ pl cells parts=some out->parts.map (·.1)=vparts.map (·.1)->(∀(i:Nat) a v,parts[i]?=some a->vparts[i]?=some v->bZ w a.2.cells v.2.cells.toList)->bZ w cells cur.toList->
  ∃vs,Instr.fill pl cur vparts=some vs/\bZ w out vs.toList
 |[],[],cells,cur,out,h,_,_,hc=>by simp only[rQ,Option.some.injEq]at h;subst h;exact⟨cur,rfl,hc⟩
 |[],_::_,_,_,_,_,he,_,_=>by simp at he
 |_::_,[],_,_,_,_,he,_,_=>by simp at he
 |(i,a)::parts,(i',v)::vparts,cells,cur,out,h,he,hr,hc=>by
  simp only[List.map_cons,List.cons.injEq]at he;obtain⟨rfl,he⟩:=he;simp only[rQ]at h;split at h
  ·rename_i off k hp;split at h
   ·rename_i hk;have hv:=hr 0 _ _ rfl rfl;simp only at hv;have J':v.cells.size=k:=by have:=hv.1;simp at this;omega
    have XO:cells.length=cur.size:=by simpa using hc.1
    have U7:∀(l:U1) (o:Nat) (c:U0),(l.toArray.zipIdx.foldl (fun cs (x,j)=>cs.setIfInBounds (o+j) x) c)=(c.toList.take o++l++c.toList.drop (o+l.length)).toArray\/c.size<o+l.length:=by
     intro l o c;by_cases hb:c.size<o+l.length
     ·exact .inr hb
     ·refine .inl ?_;have gen:∀(l:U1) (s:Nat) (c:U0),o+s+l.length<=c.size->((l.zipIdx s).foldl (fun(cs:U0) (p:Value×Nat)=>cs.setIfInBounds (o+p.2) p.1) c)=(c.toList.take (o+s)++l++c.toList.drop (o+s+l.length)).toArray:=by
       intro l;induction l with
       |nil=>intro s c _;simp
       |cons x l ih=>
        intro s c hb;simp only[List.zipIdx_cons,List.foldl_cons];rw[ih (s+1) _ (by simp at hb ⊢;omega)];apply Array.ext';simp only[Array.toList_setIfInBounds];apply List.ext_getElem?;intro m;simp only[List.length_cons]at hb;rcases Nat.lt_or_ge m (o+s)with h1|h1
        ·rw[List.append_assoc,List.getElem?_append_left jF,List.append_assoc,List.getElem?_append_left jF];simp only[List.getElem?_take,List.getElem?_set];rw[jP,jN,if_pos h1]
        ·rcases Nat.lt_or_ge m (o+s+1)with h2|h2
         ·obtain rfl:m=o+s:=jB;rw[List.append_assoc,List.getElem?_append_left jF,List.append_assoc,List.getElem?_append_right jF];simp only[List.getElem?_take,List.getElem?_set,List.length_take,Array.length_toList];rw[jP];simp only[Nat.add_assoc,if_true];rw[jP,show o+s-min (o+s) c.size=0 from jB];rfl
         ·rw[List.append_assoc,List.append_assoc,List.cons_append,List.getElem?_append_right (l₁:=List.take (o+(s+1)) _) jF,List.getElem?_append_right (l₁:=List.take (o+s) _) jF];simp only[List.length_take,List.length_set,Array.length_toList];rw[show m-min (o+s) c.size=(m-min (o+(s+1)) c.size)+1 from jB,List.getElem?_cons_succ];rcases Nat.lt_or_ge (m-min (o+(s+1)) c.size) l.length with h3|h3
          ·rw[List.getElem?_append_left h3,List.getElem?_append_left h3]
          ·rw[List.getElem?_append_right h3,List.getElem?_append_right h3];simp only[List.getElem?_drop,List.getElem?_set,List.length_cons];rw[jN];congr 1
           omega
      have:=gen l 0 c jB;simp only[Nat.add_zero]at this;rw[<-this,<-Array.foldl_toList];simp
    have VJ:¬(cur.size<off+v.cells.toList.length):=by simp;omega
    have hs:=(U7 v.cells.toList off cur).resolve_right VJ;rw[Array.toArray_toList]at hs;obtain⟨vs,h1,h2⟩:=Cq (cur:=(cur.toList.take off++v.cells.toList++cur.toList.drop (off+v.cells.toList.length)).toArray) h he (fun i a v ha hv=>hr (i+1) a v (by simpa using ha) (by simpa using hv)) (by
     refine⟨by simp[kT];omega,fun m x y hx hy=>?_⟩;simp only[kT]at hx;rcases Nat.lt_or_ge m off with g1|g1
     ·rw[List.append_assoc,List.getElem?_append_left jF,List.getElem?_take,if_pos g1]at hx hy;exact hc.2 m x y hx hy
     ·rcases Nat.lt_or_ge m (off+a.cells.length)with g2|g2
      ·rw[List.append_assoc,List.getElem?_append_right jF,List.getElem?_append_left jF]at hx hy;simp only[List.length_take,Array.length_toList]at hx hy;rw[show m-min off cells.length=m-off from jB]at hx;rw[show m-min off cur.size=m-off from jB]at hy;exact hv.2 _ x y hx hy
      ·rw[List.getElem?_append_right jF]at hx hy;simp only[List.length_append,List.length_take,Array.length_toList,List.getElem?_drop]at hx hy;rw[show off+a.cells.length+(m-(min off cells.length+a.cells.length))=m from jB]at hx;rw[show off+v.cells.size+(m-(min off cur.size+v.cells.size))=m from jB]at hy;exact hc.2 m x y hx hy)
    refine⟨vs,?_,h2⟩;simp only[Instr.fill,hp];rw[if_neg jF,hs];exact h1
   ·cases h
  ·cases h
def Nd{t:UY}{pl:List (Nat×Nat)}(h:iP P t=some pl):∃fs:Array Field,P.underlying t=some (.struct fs)/\(fs.mapM (m:=Sem) fun f=>do pure (f.offset,<-sizeOf f.type)).run P w.toWorld=.ok pl.toArray w.toWorld:=by
 unfold iP at h;split at h
 ·rename_i fs hu;refine⟨fs,hu,?_⟩;rw[Array.mapM_eq_mapM_toList];have gen:∀(l:List Field) (pl:List (Nat×Nat)),l.mapM (fun f=>(cQ P f.type).map fun k=>(f.offset,k))=some pl->(l.mapM (m:=Sem) fun f=>do pure (f.offset,<-sizeOf f.type)).run P w.toWorld=.ok pl w.toWorld:=by
   intro l;induction l with
   |nil=>intro pl h;simp at h;subst h;simp
   |cons f l ih=> intro pl h;rw[List.mapM_cons]at h;simp only[Option.bind_eq_bind,Option.bind_eq_some_iff,Option.map_eq_some_iff,Option.pure_def,Option.some.injEq]at h;obtain⟨p,⟨k,hk,rfl⟩,rest,Vk,rfl⟩:=h;rw[List.mapM_cons];simp only[Sem.run_bind,lQ hk,Result.andThen_ok,Sem.run_pure,ih rest Vk]
  simp only[Sem.run_map,gen fs.toList pl h,Result.andThen_ok]
 ·cases h
def MJ(t:UY){parts:List (Nat×AV)}{vparts:Array (Nat×Value)}(h1:parts.map (·.1)=vparts.toList.map (·.1))(h2:∀(i:Nat) a v,parts[i]?=some a->vparts.toList[i]?=some v->aw w a.2 v.2):kG P w (Instr.build t vparts) (wJ P t parts):=by
 intro hq;unfold wJ at*;split at hq<;>try exact hq.elim
 rename_i zs pl e1 e2;split at hq<;>try exact hq.elim
 rename_i out hf;obtain⟨z,hz,rfl⟩:=yW (w:=w) e1;obtain⟨fs,hu,hp⟩:=Nd (w:=w) e2;simp only[cI,List.all_eq_true]at hq;have WU:∀(i:Nat) a,parts[i]?=some a->cI a.2.cells=true:=fun i a ha=>by simp only[cI,List.all_eq_true];intro x hx;exact hq x (List.mem_flatten.2 ⟨_,List.mem_map.2 ⟨a,List.mem_of_getElem? ha,rfl⟩,hx⟩)
 obtain⟨vs,g1,g2⟩:=Cq (w:=w) (cur:=z.cells) hf h1 (fun i a v ha hv=>(h2 i a v ha hv).gX (WU i a ha))
  ⟨jE,fun i a v ha hv=>by simp only[List.getElem?_map,Option.map_eq_some_iff]at ha;obtain⟨x,hx,rfl⟩:=ha;rw[hx]at hv;cases hv;exact .raw _⟩
 refine⟨.agg vs,?_,.agg _ _ (by have:=g2.1;simpa using this) fun i a v ha hv=>g2.2 i a v ha (by simpa using hv)⟩;have e:(fun i:Nat=>pl.toArray[i]?)=(fun i:Nat=>pl[i]?):=by funext i;simp
 simp only[Instr.build,Sem.run_bind,hz,Result.andThen_ok,run_underlying hu,hp,e,g1,Sem.run_pure]
end
section
variable {P:U3}{w:NW}{H:Hp}{ρ:Operand->Value}{ev:UZ}
def we(hr:∀x,aw w (ev x) (ρ x))(l:List Operand):bZ w (l.map ev) (l.map ρ):=
 ⟨jE,fun i a v ha hv=>by simp only[List.getElem?_map,Option.map_eq_some_iff]at ha hv;obtain⟨x,hx,rfl⟩:=ha;obtain⟨y,hy,rfl⟩:=hv;rw[hx]at hy;cases hy;exact hr x⟩
def BA(hr:∀x,aw w (ev x) (ρ x))(o:Option Operand):∀x y,o.map ev=some x->o.map ρ=some y->aw w x y:=by
 intro x y hx hy;cases o with
 |none=>cases hx
 |some z=>cases hx;cases hy;exact hr z
def mW{s:Sem Value}{q:PA}(hq:q.1)(h:kG P w s q):∃v,(do pure (Next.value (<-s)):Sem Next).run P w.toWorld=.ok (.value v) w.toWorld/\aw w q.2 v:=by obtain⟨v,h1,h2⟩:=h hq;exact⟨v,by simp[h1],h2⟩
def Jq{c a b:Operand}{x y z:AV}{dst:Option Tmp}{ty:UY}{pos:String}{after:Array Edge}{guard:Option (Nat×Bool)}(hc:aw w x (ρ c))(ha:aw w y (ρ a))(hb:aw w z (ρ b))(hq:(ow x y z).1) :
  ∃v,(execOp ρ ⟨dst,.pick c a b,ty,pos,after,guard⟩).run P w.toWorld=.ok (.value v) w.toWorld/\aw w (ow x y z).2 v:=by
 obtain⟨v,h1,h2⟩:=IX (P:=P) hc ha hb hq;refine⟨v,?_,h2⟩;simp only[execOp,Sem.run_bind,Sem.run_pure]at h1 ⊢;cases hb:(asBool (ρ c)).run P w with
 |ok x w'=>rw[hb]at h1;simp only[Result.andThen_ok,Result.ok.injEq]at h1 ⊢;exact⟨by rw[h1.1],h1.2⟩
 |halt e w'=>rw[hb]at h1;simp at h1
def yQ(o:Oper)(hw:aF w H)(hr:∀x,aw w (ev x) (ρ x))(hq:(vq P ev H o.op).1):∃v,(execOp ρ o).run P w.toWorld=.ok (.value v) w.toWorld/\aw w (vq P ev H o.op).2 v:=by
 obtain⟨dst,op,ty,pos,after,guard⟩:=o;cases op
 case move x=>exact⟨_,rfl,hr x⟩
 case assign x=>exact⟨_,rfl,hr x⟩
 case pick c a b=>
  obtain⟨v,h1,h2⟩:=IX (P:=P) (hr c) (hr a) (hr b) hq;refine⟨v,?_,h2⟩;simp only[execOp,Sem.run_bind,Sem.run_pure]at h1 ⊢;cases hb:(asBool (ρ c)).run P w with
  |ok x w'=>rw[hb]at h1;simp only[Result.andThen_ok,Result.ok.injEq]at h1 ⊢;exact⟨by rw[h1.1],h1.2⟩
  |halt e w'=>rw[hb]at h1;simp at h1
 case nilCheck x=>exact Td x rfl (hr x) _ rfl hq
 case binOp op t x y t'=>exact mW hq (Hv op t x y (hr x) (hr y))
 case unOp op t x=>exact mW hq (N3 op (hr x))
 case load t a=>exact mW hq (Pc t (hr a) hw)
 case fieldAddr t a f=>exact mW hq (Tr t f (hr a))
 case field t a f=>exact mW hq (NV t f (hr a))
 case indexAddr t a i=>exact mW hq (Na t (hr a) (hr i))
 case index t a i=>exact mW hq (T0 t (hr a) (hr i))
 case extract a i=>exact mW hq (MB (hr a) i)
 case slice t a lo hi mx=>exact mW hq (OA t (hr a) (BA hr lo) (by cases lo<;>rfl) (BA hr hi) (by cases hi<;>rfl) (BA hr mx) (by cases mx<;>rfl))
 case makeFunc fn first captured=>
  have:=LL (P:=P) fn (we hr first.toList) (we hr captured.toList);have e1:(first.toList.map ρ).toArray=first.map ρ:=by rw[<-Array.toList_map,Array.toArray_toList]
  have e2:(captured.toList.map ρ).toArray=captured.map ρ:=by rw[<-Array.toList_map,Array.toArray_toList]
  rw[e1,e2]at this;exact mW hq this
 case makeInterface t x=>exact mW hq (RP t (hr x))
 case convert s d x=>exact mW hq (SA s d (hr x))
 case build t parts=> refine mW hq (MJ t jE fun i a v ha hv=>?_);simp only[List.getElem?_map,Option.map_eq_some_iff,Array.toList_map,Array.getElem?_toList]at ha hv;obtain⟨x,hx,rfl⟩:=ha;obtain⟨y,hy,rfl⟩:=hv;rw[hx]at hy;cases hy;exact hr x.2
 case call c=>
  obtain⟨callee,args,argTypes⟩:=c;cases callee
  case builtin b=>
   simp only[vq]at hq ⊢;generalize hts:argTypes.toList=ts at*;obtain rfl:argTypes=ts.toArray:=by rw[<-hts]
   have W4:=we hr args.toList;have Wi:args.map ρ=(args.toList.map ρ).toArray:=by rw[<-Array.toList_map,Array.toArray_toList]
   have B':∀s:Sem Value,(∀cs,builtin b ts.toArray ty cs (args.toList.map ρ).toArray=(do pure (Next.value (<-s))))->(execOp ρ ⟨dst,.call ⟨.builtin b,args,ts.toArray⟩,ty,pos,after,guard⟩)=(do pure (Next.value (<-s))):=by intro s hs;simp only[execOp,resolve,pure_bind,invoke,Wi];exact hs _
   generalize hus:args.toList.map ρ=us at*;generalize hals:args.toList.map ev=als at*;unfold lP at*;split at hq<;>try exact hq.elim
   ·rename_i t ts x als;cases us with
    |nil=>have:=W4.1;simp at this
    |cons u us=> rw[B' _ (fun _=>rfl)];exact mW hq (RV ty t ts us hw (W4.2 0 _ _ rfl rfl))
   ·rename_i t ts x als;cases us with
    |nil=>have:=W4.1;simp at this
    |cons u us=> rw[B' _ (fun _=>rfl)];exact mW hq (P1 ty t ts us (W4.2 0 _ _ rfl rfl))
   ·rw[B' _ (fun _=>rfl)];have:=Ew (P:=P) true ts.toArray ty W4;exact mW hq this
   ·rw[B' _ (fun _=>rfl)];have:=Ew (P:=P) false ts.toArray ty W4;exact mW hq this
  all_goals exact hq.elim
 all_goals exact hq.elim
end
universe u
def aW(P:Program)(f:FuncId):Bool:=match P.funcs[f]? with
 | some fn => fn.body.isSome && !(fn.name == "runtime.NumGoroutine")
 |none=>false
def aL(P:U3)(f:FuncId)(args:US)(r:AV):Prop:=ab P f args [] fun r' l'=>r'=r/\l'=[]
def cS(P:U3)(f:FuncId)(args:US)(H:Hp)(K:UP):Prop:=
 ∀(w:NW) (vs:U0),aF w H->br w args vs->Calls P f vs w.toWorld fun e W=>∃v r H' w',W=NW.toWorld w'/\e=.returned v/\K r H'/\aF w' H'/\aw w' r v/\Ext w H w' H'
theorem cS.mono{P:U3}{f:FuncId}{args:US}{H:Hp}{K K':UP}(h:cS P f args H K)(hk:∀r H,K r H->K' r H):cS P f args H K':=
 fun w vs h1 h2=>(h w vs h1 h2).mono fun _ _ ⟨v,r,H',w',e0,e,k,g⟩=>⟨v,r,H',w',e0,e,hk _ _ k,g⟩
def CR:AV->Option (FuncId×US×US)
 |.raw (.func (.func f) first captured)=>some (f,first.toList.map .raw,captured.toList.map .raw)
 |.eT f cs=>some (f,[],cs)
 |.bd f fs=>some (f,fs,[])
 |_=>none
-- what follows is hidden from simp: an argument that a later one's type hangs on is held fixed
inductive ix{α:Sort u}(a:α):Type
 |mk
def v7(H:Hp)(A:Nat->Prop)(_:ix A):Prop:=∃i,H.get i=none/\A i
def wN(P:U3)(H:Hp)(t:UY)(a x:AV)(K:UP):Prop:=match a,cQ P t with
 |.pt i m k j,some n=>match H.get i with
  |some r=>(cI x.cells=true/\x.cells.length=n/\CW r m k j n)/\K .any (H.put i (zy r k j x.cells))
  |none=>False
 |_,_=>False
def nZ(P:U3)(H:Hp)(t:UY)(K:UP):Prop:=match dS P t with
 |some zs=>v7 H (fun i=>K (.pt i 0 0 0) (H.put i (.var t (zs.map .raw)))) .mk
 |none=>False
def rR(H:Hp)(t:UY)(x:AV)(K:UP):Prop:=cI x.cells=true/\v7 H (fun i=>K (.pt i 0 0 0) (H.put i (.var t x.cells))) .mk
def xy(sz:Nat):Nat->List (Nat×AV)->Prop
 |_,[]=>True
 |k,(i,a)::rest=>(i=k/\cI a.cells=true/\a.cells.length=sz)/\xy sz (k+1) rest
theorem Iv{sz:Nat}:∀{k:Nat} {l:List (Nat×AV)},xy sz k l->l.map (·.1)=List.range' k l.length/\∀p∈l,cI p.2.cells=true/\p.2.cells.length=sz
 |_,[],_=>⟨rfl,fun p hp=>by simp at hp⟩
 |k,(i,a)::rest,h=>by
  obtain⟨⟨rfl,h1,h2⟩,h3⟩:=h;obtain⟨g1,g2⟩:=Iv h3;refine⟨by simp[g1,List.range'_succ],fun p hp=>?_⟩;rcases List.mem_cons.1 hp with rfl|hp
  ·exact⟨h1,h2⟩
  ·exact g2 p hp
def mX(parts:List (Nat×AV)):UQ:=parts.map (·.2.cells)
def tU(e:UY)(sz:Nat)(css:UQ)(H:Hp)(K:UP):Prop:=
 (aR eo css.flatten=true/\K (.sl true sz css []) H)\/(0<sz/\∃i,H.get i=none/\K (.rs i css.length sz css.length) (H.put i (.aD e sz css)))
def pk(P:U3)(H:Hp)(t:UY)(n:Nat)(parts:List (Nat×AV))(K:UP):Prop:=match iE P t with
 |some e=>match cQ P e with
  |some sz=>(parts.length=n/\xy sz 0 parts/\n*sz<=16777216/\(n*sz=0\/(dS P e).isSome=true))/\
   tU e sz (mX parts) H K
  |none=>False
 |none=>False
def qx(P:U3)(ne:Bool)(t:UY)(x y:AV)(H:Hp)(K:UP):Prop:=match x,y with
 |.sl _ _ css _,.raw (.slice none 0 0)=>gY P t=true/\∀b:Bool,(b=true->css=[])->K (.raw (.bool (ne ^^ b))) H
 |.rs _ _ _ n,.raw (.slice none 0 0)=>gY P t=true/\∀b:Bool,(b=true->n=0)->K (.raw (.bool (ne ^^ b))) H
 |x,y=>(fp P (if ne then .neq else .eql) t x y).1/\K (fp P (if ne then .neq else .eql) t x y).2 H
def wB(H:Hp):AV->Option (Prop×UQ)
 |.sl _ _ css _=>some (True,css)
 |.rs i m sz n=>match H.get i with
  |some (.aD _ sz' css)=>some (sz'=sz/\m=css.length/\n<=m,css.take n)
  |_=>none
 |.rv i m sz o n=>match H.get i with
  |some (.aD _ sz' css)=>some (sz'=sz/\m=css.length/\o+n<=m,(css.drop o).take n)
  |_=>none
 |.raw (.slice none 0 0)=>some (True,[])
 |_=>none
def jW(P:U3)(t:UY):Nat:=((P.info? t).map (·.bytes)).getD 0
def room(by_ n:Nat):Prop:=n*by_<=140737488355328/\n<=9223372036854775807
def fl(css:UQ)(n:Nat)(ys:UQ):UQ:=css.take n++ys++css.drop (n+ys.length)
def uD(i:Nat)(e:UY)(m sz n:Nat)(css ys:UQ)(H:Hp)(K:UP):Prop:=if n=m then K (.rs i (m+ys.length) sz (n+ys.length)) (H.put i (.aD e sz (css++ys)))else K (.rs i (max m (n+ys.length)) sz (n+ys.length)) (H.put i (.aD e sz (fl css n ys)))
def OI(css ys:UQ):fl css css.length ys=css++ys:=by simp[fl]
variable{css:UQ}{n:Nat}
def xd(ys:UQ)(h:n<=css.length):(fl css n ys).length=max css.length (n+ys.length):=by simp[fl];omega
variable{sz:Nat}{H:Hp}{K:UP}
def Lf{i:Nat}{e:UY}{ys:UQ}(h:uD i e css.length sz n css ys H K):K (.rs i (max css.length (n+ys.length)) sz (n+ys.length)) (H.put i (.aD e sz (fl css n ys))):=by
 unfold uD at h;split at h
 ·rename_i e;subst e;rw[OI,Nat.max_eq_right jB];exact h
 ·exact h
def C7(by_:Nat)(e:UY)(sz:Nat)(ys:UQ)(a:AV)(H:Hp)(K:UP):Prop:=match a with
 |.rs i m sz' n=>match H.get i with
  |some (.aD e' sz'' css)=>(e'=e/\sz'=sz/\sz''=sz/\m=css.length/\n<=m/\room by_ (n+ys.length))/\uD i e m sz n css ys H K
  |_=>False
 |.raw (.slice none 0 0)=>room by_ ys.length/\v7 H (fun i=>K (.rs i ys.length sz ys.length) (H.put i (.aD e sz ys))) .mk
 |.sl true sz' css _=>(sz'=sz/\room by_ (css.length+ys.length)/\(css.length=0\/0<ys.length))/\v7 H (fun i=>K (.rs i (css.length+ys.length) sz (css.length+ys.length)) (H.put i (.aD e sz (css++ys)))) .mk
 |_=>False
def zD(P:U3)(t:UY)(a x:AV)(H:Hp)(K:UP):Prop:=match iE P t with
 |some e=>match cQ P e,dS P e,wB H x with
  |some sz,some zs,some (c,ys)=>(zs.length=sz/\0<sz/\c/\Good sz ys)/\C7 (jW P e) e sz ys a H K
  |_,_,_=>False
 |none=>False
def sf(P:U3)(t t':UY)(a x:AV)(H:Hp)(K:UP):Prop:=
 ∀(w:NW) va vx ty,aF w H->aw w a va->aw w x vx->∃(w':NW) (H':Hp) (r:AV) (v:Value),(Builtin.append_ #[t,t'] ty #[va,vx]).run P w.toWorld=.ok v w'.toWorld/\K r H'/\aF w' H'/\aw w' r v/\Ext w H w' H'
def re(P:U3)(b:Builtin)(ts:List UY)(args:US)(H:Hp)(K:UP):Prop:=
 ∀(w:NW) vs ty cs,aF w H->bZ w args vs->∃(w':NW) (H':Hp) (r:AV) (v:Value),(builtin b ts.toArray ty cs vs.toArray).run P w.toWorld=.ok (.value v) w'.toWorld/\K r H'/\aF w' H'/\aw w' r v/\Ext w H w' H'
def jg(P:U3)(o:Op)(ty:UY)(ev:UZ)(H:Hp)(K:UP):Prop:=
 ∀(w:NW) ρ dst pos after guard,aF w H->(∀x∈o.operands.toList,aw w (ev x) (ρ x))->∃(w':NW) (H':Hp) (r:AV),K r H'/\aF w' H'/\Ext w H w' H'/\
  ((∃v,(execOp ρ ⟨dst,o,ty,pos,after,guard⟩).run P w.toWorld=.ok (.value v) w'.toWorld/\aw w' r v)\/((execOp ρ ⟨dst,o,ty,pos,after,guard⟩).run P w.toWorld=.ok .skip w'.toWorld/\r=.any))
def u7(P:U3)(f:FuncId)(args:US)(H:Hp)(K:UP):Prop:=
 ∀(w:NW) vs,aF w H->br w args vs->∃(v:Value) (w':NW) (r:AV) (H':Hp),(callFunc f vs).run P w.toWorld=.ok (.value v) w'.toWorld/\K r H'/\aF w' H'/\aw w' r v/\Ext w H w' H'
def eQ(P:U3)(f:AV)(args:US)(H:Hp)(K:UP):Prop:=match CR f with
 |some (f,first,captured)=>(aW P f=true/\cS P f (first++args++captured) H K)\/u7 P f (first++args++captured) H K
 |none=>False
def qW(P:U3)(a:AV)(m:String)(args:US)(H:Hp)(K:UP):Prop:=match a with
 |.iS t v=>match oS P t m with
  |some f=>eQ P (.raw (.func (.func f) #[] #[])) (v::args) H K
  |none=>False
 |_=>False
def di:Op->Bool
 |.box .. |.alloc _|.store .. |.buildSlice .. |.makeMap .. |.makeSlice .. |.mapUpdate .. |.insert .. |.lookup .. |.range .. |.next .. |.entry .. |.typeAssert ..=>false
 |.binOp .eql .. |.binOp .neq ..=>false
 |.call { callee:=.builtin b,.. }=>match b with
  |.len|.cap|.max|.min=>true
  |_=>false
 |.call _=>false
 |_=>true
def vc(P:U3)(ev:UZ)(H:Hp)(ty:UY)(K:UP):Op->Prop
 |.box t x=>rR H t (ev x) K
 |.alloc t=>nZ P H t K
 |.store t a x=>wN P H t (ev a) (ev x) K
 |.buildSlice t n parts=>pk P H t n (parts.toList.map fun p=>(p.1,ev p.2)) K
 |.binOp .eql t x y _=>qx P false t (ev x) (ev y) H K
 |.binOp .neq t x y _=>qx P true t (ev x) (ev y) H K
 |.call { callee:=.value f,args,.. }=>eQ P (ev f) (args.toList.map ev) H K
 |.call { callee:=.invoke r m,args,.. }=>qW P (ev r) m (args.toList.map ev) H K
 |.call { callee:=.builtin .append,args,argTypes }=>match argTypes.toList,args.toList with
  |[t,t'],[a,x]=>sf P t t' (ev a) (ev x) H K
  |_,_=>False
 |.call { callee:=.builtin b,args,argTypes }=>if di (.call ⟨.builtin b,args,argTypes⟩)then(vq P ev H (.call ⟨.builtin b,args,argTypes⟩)).1/\K (vq P ev H (.call ⟨.builtin b,args,argTypes⟩)).2 H else re P b argTypes.toList (args.toList.map ev) H K
 |o=>if di o then(vq P ev H o).1/\K (vq P ev H o).2 H else jg P o ty ev H K
section
variable {P:U3}{ops:Array Oper}{F:US}{H:Hp}
variable{K:UP}
def On{o:Oper}(hq:(vq P (bM F) H o.op).1)(hk:K (vq P (bM F) H o.op).2 H):BX P o F H K:=fun w tm h1 h2=>by obtain⟨v,hr,hv⟩:=yQ o h1 (fun x=>h2.eval [] x) hq;exact⟨w,H,_,hk,h1,Ext.refl w H,.inl ⟨v,hr,hv⟩⟩
theorem EC{sz:Nat}:∀(parts:List (Nat×AV)) (k:Nat) (pre zs:US),parts.map (·.1)=List.range' k parts.length->(∀p∈parts,p.2.cells.length=sz)->pre.length=k*sz->zs.length=parts.length*sz->
  rQ (fun i=>some (i*sz,sz)) (pre++zs) parts=some (pre++(parts.map (·.2.cells)).flatten)
 |[],k,pre,zs,_,_,_,hz=>by
  have:zs=[]:=by simpa using hz
  simp[rQ,this]
 |(i,a)::parts,k,pre,zs,hp,hs,hk,hz=>by
  simp only[List.map_cons,List.length_cons,List.range'_succ,List.cons.injEq]at hp;obtain⟨rfl,hp⟩:=hp;have ha:a.cells.length=sz:=hs (i,a) jE;have VN:zs.length=parts.length*sz+sz:=by rw[hz,List.length_cons,Nat.add_mul,Nat.one_mul]
  simp only[rQ];rw[if_pos ⟨ha,by simp;omega⟩];have e:kT (pre++zs) (i*sz) a.cells=(pre++a.cells)++zs.drop sz:=by
   unfold kT;rw[<-hk,List.take_left',List.drop_append,ha]
   ·simp
   ·rfl
  rw[e,EC parts (i+1) (pre++a.cells) (zs.drop sz) hp (fun p hp=>hs p (by simp[hp])) (by simp[hk,ha,Nat.add_mul]) jF];simp[List.append_assoc]
variable{w:NW}
def Rp{l:US}{vs:U1}(h:bZ w l vs){k:Nat}{u:AV}(hu:l[k]?=some u):aw w u (vs.toArray.getD k undef):=by
 have hk:k<vs.length:=by rw[<-h.1];exact(List.getElem?_eq_some_iff.1 hu).1
 refine h.2 k u _ hu ?_;simp[hk]
variable{t:UY}
def Lb{n:Nat}{parts:List (Nat×AV)}{vparts:Array (Nat×Value)}(hw:aF w H)(h1:parts.map (·.1)=vparts.toList.map (·.1))(h2:∀(i:Nat) a v,parts[i]?=some a->vparts.toList[i]?=some v->aw w a.2 v.2)
  (hv:pk P H t n parts K):∃(w':NW) (H':Hp) (r:AV) (v:Value),(Instr.buildSlice t n vparts).run P w.toWorld=.ok v w'.toWorld/\K r H'/\aF w' H'/\aw w' r v/\Ext w H w' H':=by
 unfold pk at hv;split at hv;rotate_left
 ·exact hv.elim
 rename_i e he;split at hv;rotate_left
 ·exact hv.elim
 rename_i sz WJ;obtain⟨⟨J',hok,hn,hz⟩,hk⟩:=hv;have hu:P.underlying t=some (.slice e):=by unfold iE at he;split at he<;>simp_all
 obtain⟨hp,hs⟩:=Iv hok;rw[J',<-List.range_eq_range']at hp;have hzr:∃z:U0,(n*sz=0/\z=#[])\/(n*sz≠0/\∃v,(zeroValue e).run P w.toWorld=.ok v w.toWorld/\v.cells=z):=by
  by_cases h0:n*sz=0
  ·exact⟨#[],.inl ⟨h0,rfl⟩⟩
  ·have VN:=hz.resolve_left h0;obtain⟨zs,Zd⟩:=Option.isSome_iff_exists.1 VN;obtain⟨z,VT,_⟩:=yW (w:=w.toWorld) Zd;exact⟨z.cells,.inr ⟨h0,z,VT,rfl⟩⟩
 obtain⟨z,hz⟩:=hzr;generalize XO:(Array.range (n*sz)).map (z[· % z.size]!)=cur;have VW:cur.size=n*sz:=by subst XO;simp
 have hf:=EC (sz:=sz) parts 0 [] (cur.toList.map .raw) (by rw[hp,J',List.range_eq_range']) (fun p hp=>(hs p hp).2) jE (by simp[VW,J']);simp only[List.nil_append]at hf;obtain⟨vs,g1,g2⟩:=Cq (w:=w) (cur:=cur) hf h1 (fun i a v ha hv=>(h2 i a v ha hv).gX (hs _ (List.mem_of_getElem? ha)).1)
  ⟨jE,fun i a v ha hv=>by simp only[List.getElem?_map,Option.map_eq_some_iff]at ha;obtain⟨x,hx,rfl⟩:=ha;rw[hx]at hv;cases hv;exact .raw _⟩
 have B':(Instr.buildSlice t n vparts).run P w.toWorld=.ok (.slice (some ⟨w.heap.size,0,none⟩) n n) (w.alloc (.cells vs e)):=by
  have WD:¬(n*sz>2 ^ 24):=jB;rcases hz with⟨h0,rfl⟩|⟨h0,v,hv,rfl⟩
  ·simp only[Instr.buildSlice,Sem.run_bind,run_underlying hu,Result.andThen_ok,lQ WJ,if_neg WD,if_pos h0,Sem.run_pure,XO,g1,newRow,run_newObj];rfl
  ·simp only[Instr.buildSlice,Sem.run_bind,run_underlying hu,Result.andThen_ok,lQ WJ,if_neg WD,if_neg h0,hv,Sem.run_pure,XO,g1,newRow,run_newObj];rfl
 have VR:(mX parts).length=n:=by simp[mX,J']
 have ni:∀cs∈mX parts,cs.length=sz:=fun cs VW=>by obtain⟨p,hp,rfl⟩:=List.mem_map.1 VW;exact(hs p hp).2
 have Wm:(mX parts).flatten.length=n*sz:=by rw[ij ni,VR]
 have V':vs.size=n*sz:=by have:=g2.1;simp only[Array.length_toList]at this;rw[<-this];exact Wm
 rcases hk with⟨Vd,hk⟩|⟨h0,i,hi,hk⟩
 ·have ex:=Ext.fg hw (.cells vs e);refine⟨_,H,_,_,B',hk,hw.fg _,?_,ex⟩;by_cases h0:n=0
  ·have:mX parts=[]:=List.length_eq_zero_iff.1 jB;rw[this,h0];exact .hJ true sz _ 0 (fun _=>rfl)
  ·have:=aw.sl (w:=w.to (w.alloc (.cells vs e))) (d:=[]) true sz (mX parts) ⟨w.heap.size,0,none⟩ n (fun j=>vs.getD j undef) jB jB (fun _=>⟨VR.symm,vs,e,heap_alloc_new w.toWorld _⟩) ni jE (fun h=>by have:=hw.fin _ h;simp at this) (fun i j hi hj=>by
    rw[j3,td w.heap.size _ vs e (0,0) (heap_alloc_new w.toWorld _)];have:=zv hi hj;rw[VR]at this;simp[show i*sz+j<vs.size from jB]) (fun i j u hi hu=>by
    have hj:j<sz:=by have:=(List.getElem?_eq_some_iff.1 hu).1;rwa [vu ni hi]at this
    have hx:=Rp g2 (k:=i*sz+j) (u:=u) (by rw[<-hu];exact qC ni hi hj);rw[Array.toArray_toList]at hx;refine(hx.lN (mH Vd (i:=i*sz+j) (by rw[<-hu];exact qC ni hi hj))).aU ex.toKeep.bare (nH u))
   rw[VR]at this;exact this
 ·obtain⟨q1,q2⟩:=vQ (row:=.aD e sz (mX parts)) hw (hw.none hi _) (fun r' hr=>by rw[hi]at hr;cases hr) ⟨h0,ni⟩ vs ⟨rfl,by show(mX parts).flatten.length<=_;omega⟩ (fun k a v ha hv=>g2.2 k a v ha (by simpa using hv));refine⟨_,_,_,_,B',hk,q1,?_,q2⟩;have:=aw.rs (w:=((w.to (w.alloc ((Row.aD e sz (mX parts)).obj vs))).fZ w.heap.size).name i (Row.aD e sz (mX parts)).fD (.at w.heap.size vs.size (Row.aD e sz (mX parts)).bB)) i (mX parts).length sz (mX parts).length w.heap.size vs.size n (NW.ci _ _ _ _) V'.symm jB h0;rw[VR]at this ⊢;exact this
def FW(ne:Bool)(t:UY){a b:AV}{va vb:Value}(x y:Operand)(ha:aw w a va)(hb:aw w b vb)(hv:qx P ne t a b H K) :
  ∃r v,(do eqGuard (if ne then .neq else .eql) t x y va vb;binOp (if ne then .neq else .eql) t va vb:Sem Value).run P w.toWorld=.ok v w.toWorld/\K r H/\aw w r v:=by
 have key:∀{n:Nat},gY P t=true->(∀b:Bool,(b=true->n=0)->K (.raw (.bool (ne ^^ b))) H)->(∃A c,va=.slice A n c/\(A=none->n=0))->vb=.slice none 0 0->
   ∃r v,(do eqGuard (if ne then .neq else .eql) t x y va vb;binOp (if ne then .neq else .eql) t va vb:Sem Value).run P w.toWorld=.ok v w.toWorld/\K r H/\aw w r v:=fun{n} h1 h2 h3 h4=>by
  obtain⟨e,hu⟩:=pu h1;obtain⟨A,c,rfl,hA⟩:=h3;subst h4;have he:(Op.equal t (.slice A n c) (.slice none 0 0)).run P w.toWorld=.ok A.isNone w.toWorld:=by refine rE (fun d=>?_);cases A<;>simp[Op.equalIn,run_underlying hu]
  obtain⟨v,h1,h3⟩:=rh (P:=P) (w:=w) (ne:=ne) (t:=t) (x:=x) (y:=y) (fun op=>eqGuard_at_slice _ _ _ _ _ _ _ _) rfl rfl he;exact⟨_,v,h1,h2 A.isNone (fun h=>hA (by simpa using h)),h3⟩
 unfold qx at hv;split at hv
 ·rename_i z sz css _;refine key (n:=css.length) hv.1 (fun b hb=>hv.2 b fun h=>List.length_eq_zero_iff.1 (hb h)) ?_ (cZ hb);cases ha with
  |hJ _ _ A c _=>exact⟨A,c,rfl,fun _=>rfl⟩
  |sl _ _ _ ad c _ _ _ _ _ _ _ _ _=>exact⟨some ad,c,rfl,fun h=>by cases h⟩
 ·rename_i i m sz n;refine key (n:=n) hv.1 hv.2 ?_ (cZ hb);cases ha with
  |iH _ _ _ A _=>exact⟨A,0,rfl,fun _=>rfl⟩
  |rs _ _ _ _ b t c _ _ _ _=>exact⟨some ⟨b,0,none⟩,c,rfl,fun h=>by cases h⟩
 ·obtain⟨v,h1,h2⟩:=Hv (P:=P) (if ne then .neq else .eql) t x y ha hb hv.1;exact⟨_,v,h1,hv.2,h2⟩
-- appends
def bZ.append{a b:US}{x y:U1}(h:bZ w a x)(k:bZ w b y):bZ w (a++b) (x++y):=by
 refine⟨by simp[h.1,k.1],fun i u v hu hv=>?_⟩;rcases Nat.lt_or_ge i a.length with h1|h1
 ·rw[List.getElem?_append_left h1]at hu;rw[List.getElem?_append_left (by rw[<-h.1];exact h1)]at hv;exact h.2 i u v hu hv
 ·rw[List.getElem?_append_right h1]at hu;rw[List.getElem?_append_right (by rw[<-h.1];exact h1),<-h.1]at hv;exact k.2 _ u v hu hv
def CE(w:NW)(sz:Nat)(v:Value)(ys:UQ):Prop:=∃A c news,v=.slice A ys.length c/\bZ w ys.flatten news/\(0<ys.length->∃ad,A=some ad/\∀(j:Nat) v,news[j]?=some v->w.cell? (ad.add j)=some v)
variable{sz:Nat}
def vK(A:Option Addr)(c:Nat):CE w sz (.slice A 0 c) []:=⟨A,c,[],rfl,⟨rfl,fun i a v h=>by simp at h⟩,fun h=>by simp at h⟩
variable{ys:UQ}
def zU{c:Nat}{ad:Addr}(hl:∀y∈ys,y.length=sz)(h:∀i j,i<ys.length->j<sz->∃v,w.cell? (ad.add (i*sz+j))=some v/\∀u,(ys.getD i [])[j]?=some u->aw w u v):CE w sz (.slice (some ad) ys.length c) ys:=by
 have Wm:=ij hl;refine⟨some ad,c,(List.range (ys.length*sz)).map fun k=>(w.cell? (ad.add k)).getD undef,rfl,⟨by simp[Wm],fun k a v ha hv=>?_⟩,fun _=>⟨ad,rfl,fun k v hv=>?_⟩⟩
 ·have hk:k<ys.length*sz:=by have:=(List.getElem?_eq_some_iff.1 ha).1;omega
  obtain⟨i,j,hi,hj,rfl⟩:=vn hk;rw[qC hl hi hj]at ha;obtain⟨v',h1,h2⟩:=h i j hi hj;simp only[List.getElem?_map,List.getElem?_range hk,Option.map_some,Option.some.injEq,h1,Option.getD_some]at hv;subst hv;exact h2 a ha
 ·have hk:k<ys.length*sz:=by have:=(List.getElem?_eq_some_iff.1 hv).1;simpa using this
  obtain⟨i,j,hi,hj,rfl⟩:=vn hk;obtain⟨v',h1,h2⟩:=h i j hi hj;simp only[List.getElem?_map,List.getElem?_range hk,Option.map_some,Option.some.injEq,h1,Option.getD_some]at hv;subst hv;exact h1
variable{css:UQ}
def sG(hw:aF w H){i:Nat}{e:UY}{b t s:Nat}(hi:H.get i=some (.aD e sz css))(hn:w.nm i css.length=some (.at b t s)){k j:Nat}(hk:k<css.length)(hj:j<sz) :
  s=sz/\(∀cs∈css,cs.length=sz)/\css.length*sz<=t/\∃v,w.cell? ⟨b,k*sz+j,none⟩=some v/\∀u,(css.getD k [])[j]?=some u->aw w u v:=by
 obtain⟨hok,z,hz,Vl⟩:=hw.rows i _ hi;have:z=.at b t s:=by have hz:w.nm i css.length=some z:=hz;rw[hn]at hz;cases hz;rfl
 subst this;obtain⟨hs_,cur,hh,⟨hs,hl⟩,hr⟩:=Vl;have hs_:sz=s:=hs_.symm;subst hs_;have Wm:(Row.aD e sz css).cells.length=css.length*sz:=ij hok.2;have h3:=zv hk hj;have h4:k*sz+j<cur.size:=jB;refine⟨rfl,hok.2,jB,cur[k*sz+j],?_,fun u hu=>?_⟩
 ·rw[td b _ cur _ (0,0) hh];simp[h4]
 ·refine hr (k*sz+j) u _ ?_ (by simp[h4]);show css.flatten[k*sz+j]?=some u;rw[qC hok.2 hk hj];exact hu
def Cg(hw:aF w H){x:AV}{vx:Value}(hx:aw w x vx){c:Prop}(h:wB H x=some (c,ys))(hc:c)(hg:Good sz ys):CE w sz vx ys:=by
 unfold wB at h;split at h
 ·rename_i xx sz' css _;cases h;cases hx with
  |hJ=>exact vK _ _
  |sl _ _ _ ad c vs hn VV hx Vb hb hH D' hr=>
   have hz:sz'=sz:=by rw[<-Vb (ys[0]) (List.getElem_mem hn),(hg _ (List.getElem_mem hn)).1]
   subst hz;exact zU Vb fun i j hi hj=>⟨_,D' i j hi hj,fun u hu=>(hr i j u hi hu).mY⟩
 ·rename_i i m sz' n;split at h
  ·rename_i e sz2 css hi;cases h;obtain⟨rfl,rfl,hn⟩:=hc;cases hx with
   |iH _ _ _ A Vh=>rw[List.take_zero];exact vK _ _
   |rs _ _ _ _ b t c Vh VV Vj Wp=>
    have J':(css.take n).length=n:=by simp;omega
    by_cases h0:n=0
    ·subst h0;rw[List.take_zero];exact vK _ _
    have hz:sz2=sz:=by obtain⟨_,Vm,_⟩:=sG hw hi Vh (k:=0) (j:=0) jB Wp;have h1:(css.take n)[0]' jB∈css.take n:=List.getElem_mem _;rw[<-Vm _ (List.mem_of_mem_take h1),(hg _ h1).1]
    subst hz;have:=zU (w:=w) (sz:=sz2) (c:=c) (ys:=css.take n) (ad:=⟨b,0,none⟩) (fun y hy=>(hg y hy).1) fun i' j Wx hj=>by obtain⟨_,_,_,v,h1,h2⟩:=sG hw hi Vh (k:=i') (j:=j) jB hj;refine⟨v,by rw[j3,Nat.zero_add];exact h1,fun u hu=>h2 u ?_⟩;rw[<-hu];simp[List.getElem?_take,show i'<n from jB]
    rw[J']at this;exact this
  ·cases h
 ·rename_i i m sz' o n;split at h
  ·rename_i e sz2 css hi;cases h;obtain⟨rfl,rfl,hn⟩:=hc;have J':((css.drop o).take n).length=n:=by simp;omega
   cases hx with
   |kj _ _ _ _ A=>rw[List.take_zero];exact vK _ _
   |rv _ _ _ _ _ b t c Vh Vj=>
    by_cases h0:n=0
    ·subst h0;rw[List.take_zero];exact vK _ _
    have h1:((css.drop o).take n)[0]' jB∈(css.drop o).take n:=List.getElem_mem _;obtain⟨hok,_⟩:=hw.rows i _ hi;have hz:sz2=sz:=by rw[<-hok.2 _ (List.mem_of_mem_drop (List.mem_of_mem_take h1)),(hg _ h1).1]
    subst hz;have:=zU (w:=w) (sz:=sz2) (c:=c) (ys:=(css.drop o).take n) (ad:=⟨b,o*sz2,none⟩) (fun y hy=>(hg y hy).1) fun i' j Wx hj=>by obtain⟨_,_,_,v,h1,h2⟩:=sG hw hi Vh (k:=o+i') (j:=j) jB hj;refine⟨v,by rw[j3,<-Nat.add_assoc,<-Nat.add_mul];exact h1,fun u hu=>h2 u ?_⟩;rw[<-hu];simp[List.getElem?_take,show i'<n from jB]
    rw[J']at this;exact this
  ·cases h
 ·cases h;have:=cZ hx;subst this;exact vK _ _
 ·cases h
def vC{e:UY}(he:iE P t=some e):P.underlying t=some (.slice e):=by unfold iE at he;split at he<;>simp_all
def yj{e:UY}{zs:U1}(Vb:cQ P e=some sz)(hz:dS P e=some zs)(hl:zs.length=sz):∃i z,P.info? e=some i/\i.size=sz/\i.zero=some z/\z.cells.size=sz/\jW P e=i.bytes:=by
 unfold cQ at Vb;cases hi:P.info? e with
 |none=>rw[hi]at Vb;cases Vb
 |some i=> rw[hi]at Vb;unfold dS at hz;rw[hi]at hz;simp only[Option.bind_some,Option.map_eq_some_iff]at hz;obtain⟨z,VT,hz2⟩:=hz;refine⟨i,z,rfl,by simpa using Vb,VT,?_,by simp[jW,hi]⟩;rw[<-hl,<-hz2];simp
def tX(hw:aF w H){i:Nat}{e:UY}{cap:Nat}{cH:U1}{rest:U0}(h0:0<sz)(J':∀cs∈css,cs.length=sz)(Vp:bZ w css.flatten cH)(XT:css.length<=cap)(Vk:rest.size=(cap-css.length)*sz)
  (YN:w.nm i css.length=none) (XL:∀r,H.get i=some r->r.fD<=css.length) :
  ∃w':NW,w'.toWorld=w.drew.alloc (.cells (cH.toArray++rest) e)/\aF w' (H.put i (.aD e sz css))/\Ext w H w' (H.put i (.aD e sz css))/\aw w' (.rs i css.length sz css.length) (.slice (some ⟨w.heap.size,0,none⟩) css.length cap):=by
 have Wm:=ij J';have Ym:cH.length=css.length*sz:=by rw[<-Vp.1,Wm]
 have Vb:(cH.toArray++rest).size=cap*sz:=by simp only[Array.size_append,List.size_toArray,Ym,Vk];rw[<-Nat.add_mul];congr 1;omega
 have Vj:=Nat.mul_le_mul_right sz XT;obtain⟨g1,g2⟩:=vQ (row:=.aD e sz css) hw.drew YN XL ⟨h0,J'⟩ (cH.toArray++rest) ⟨rfl,by show css.flatten.length<=_;omega⟩ (fun k a v ha hv=>by
  have hi:k<cH.length:=by rw[<-Vp.1];exact(List.getElem?_eq_some_iff.1 ha).1
  rw[Array.getElem?_append_left (by simpa using hi)]at hv;exact(Vp.2 k a v ha (by simpa using hv)).ext (Ext.drew w H))
 refine⟨_,rfl,g1,(Ext.drew w H).trans g2,?_⟩;exact aw.rs i css.length sz css.length w.heap.size (cH.toArray++rest).size cap (NW.ci _ _ _ _) Vb.symm XT h0
def Rc{a x:AV}(h:zD P t a x H K):sf P t t a x H K:=by
 intro w va vx ty hw XU hrx;unfold zD at h;split at h;rotate_left
 ·exact h.elim
 rename_i e he;split at h;rotate_left
 ·exact h.elim
 rename_i sz zs c ys WJ hze YO;obtain⟨⟨XV,h0,hc,hg⟩,h⟩:=h;have hu:=vC he;obtain⟨i,z,hi,Vx,Xu,Zd,Zn⟩:=yj WJ hze XV;obtain⟨A,cx,news,rfl,Vy,Wq⟩:=Cg hw hrx YO hc hg;have Wm:ys.flatten.length=ys.length*sz:=ij fun y hy=>(hg y hy).1
 have W0:news.length=ys.length*sz:=by rw[<-Vy.1,Wm]
 have YD:∀m,(Builtin.zeroCells z.cells m).size=m*sz:=fun m=>by simp[Builtin.zeroCells,Zd]
 have W2:∀need old,need<=grownCap w.toWorld need old e:=fun need old=>by unfold grownCap Question.cut;simp
 have WV:cI ys.flatten=true:=by simp only[cI,List.all_eq_true];intro u Zo;obtain⟨y,hy,huy⟩:=List.mem_flatten.1 Zo;have:=(hg y hy).2;simp only[cI,List.all_eq_true]at this;exact this u huy
 have hf0:∀A:Option Addr,ys.length=0->(Builtin.firstCells i.size 0 (.slice A 0 cx)).run P w.toWorld=.ok #[] w.toWorld:=fun A _=>by cases A<;>simp[Builtin.firstCells,loadCells,loadCellsFrom]
 rw[Zn]at h;unfold C7 at h;split at h
 ·-- a row of one's own
  rename_i d m sz' n;split at h;rotate_left
  ·exact h.elim
  rename_i e' sz2 css hd;obtain⟨⟨rfl,rfl,rfl,rfl,haB,We,h63⟩,hk⟩:=h;have hk:=Lf hk;have hok:=(hw.rows d _ hd).1;have Vu:∀cs∈fl css n ys,cs.length=sz2:=fun cs h=>by
   unfold fl at h;rcases List.mem_append.1 h with h|h
   ·rcases List.mem_append.1 h with h|h
    ·exact hok.2 _ (List.mem_of_mem_take h)
    ·exact(hg cs h).1
   ·exact hok.2 _ (List.mem_of_mem_drop h)
  have W5:=ij hok.2;have Vf:=xd ys haB;cases XU with
  |iH _ _ _ A Vh=>
   -- nowhere yet
   obtain⟨_,z',VN,Vl⟩:=hw.rows d _ hd;have:z'=.nil:=by have VN:w.nm d css.length=some z':=VN;rw[Vh]at VN;cases VN;rfl
   subst this;obtain⟨e2,sz3,Vl⟩:=Vl;cases Vl;simp only[fl,List.take_nil,List.drop_nil,List.append_nil,List.nil_append,List.length_nil,Nat.zero_add,Nat.zero_max]at hk Vf;by_cases hy:ys.length=0
   ·have:ys=[]:=List.length_eq_zero_iff.1 hy;subst this;refine⟨w,_,_,.slice A 0 0,?_,hk,?_,.iH _ _ _ _ Vh,?_⟩
    ·cases A<;>simp[Builtin.append_,run_underlying hu,sizeOf,typeInfo,hi,Builtin.lenOf,hf0,storeCells]
    ·refine{ hw with rows:=fun j r hj=>?_,dt:=fun j q z hz=>?_ }
     ·rw[Hp.bj]at hj;split at hj
      ·rename_i e;subst e;exact hw.rows j r (by rw[hd];exact hj)
      ·exact hw.rows j r hj
     ·rw[Hp.bj];split
      ·rename_i e;subst e;obtain⟨r,g1,g2⟩:=hw.dt j q z hz;rw[hd]at g1;cases g1;exact⟨_,rfl,g2⟩
      ·exact hw.dt j q z hz
    ·exact{ Ext.refl w H with base:=rfl }
   ·obtain⟨ad,rfl,D'⟩:=Wq jB;obtain⟨w',e1,g1,g2,g3⟩:=tX (i:=d) (e:=e') (cap:=grownCap w.toWorld ys.length 0 e') (css:=ys) (rest:=Builtin.zeroCells z.cells (grownCap w.toWorld ys.length 0 e'-ys.length)) hw h0 (fun y hy=>(hg y hy).1) Vy (W2 _ _) (YD _) (hw.later hd (by show([]:UQ).length<_;simp;omega)) (fun r hr=>by rw[hd]at hr;cases hr;exact Nat.zero_le _);refine⟨w',_,_,_,?_,hk,by simpa using g1,by simpa using g3,by simpa using g2⟩;rw[e1];cases A with
    |none=> have:=run_append_nil w.toWorld t ty e' i z hu hi Xu ad ys.length cx news (by rw[Vx];exact W0) D' jB (by simp at h63;omega) (by simp at We;omega);exact this
    |some b=>
     have:=run_append_grow (P:=P) w.toWorld t ty e' i z hu hi Xu b 0 0 [] jE (fun j v h=>by simp at h) ad ys.length cx news (by rw[Vx];exact W0) D' jB (by simp at h63;simp;omega) (by rw[Nat.zero_add,nextslicecap_zero jB];simp at We;omega)
     simpa using this
  |rs _ _ _ _ b t' cap Vh Wz Vj Wp=>
   obtain⟨_,z',VN,Vl⟩:=hw.rows d _ hd;have:z'=.at b t' sz2:=by have VN:w.nm d css.length=some z':=VN;rw[Vh]at VN;cases VN;rfl
   subst this;obtain⟨_,cur,hh,⟨VW,U9⟩,Xv⟩:=Vl;have hh:w.heap[b]?=some (.cells cur e' (0,0)):=hh;have U9:css.flatten.length<=t':=U9;have XT:css.length<=cap:=by rw[W5,<-Wz]at U9;exact Nat.le_of_mul_le_mul_right U9 h0
   have Xb:(css.take n).flatten.length=n*sz2:=by rw[ij fun c hc=>hok.2 c (List.mem_of_mem_take hc),List.length_take,Nat.min_eq_left haB]
   have haC:(css.take n).flatten=css.flatten.take (n*sz2):=by
    have:css.flatten=(css.take n).flatten++(css.drop n).flatten:=by rw[<-List.flatten_append,List.take_append_drop]
    rw[this,<-Xb,List.take_left'];rfl
   by_cases VJ:n+ys.length<=cap
   ·-- in place
    have WI:n*sz2+ys.flatten.length<=t':=by rw[Wm,<-Nat.add_mul,<-Wz];exact Nat.mul_le_mul_right _ VJ
    obtain⟨w',B',g1,g2,g3⟩:=vS (P:=P) (off:=n*sz2) (r':=.aD e' sz2 (fl css n ys)) hw hd Vh Vy WV WI rfl rfl rfl rfl (by show css.length<=(fl css n ys).length;rw[Vf];omega) ⟨h0,Vu⟩ (by show(fl css n ys).flatten.length<=t';rw[ij Vu,Vf,<-Wz];exact Nat.mul_le_mul_right _ (Nat.max_le.2 ⟨XT,VJ⟩)) (fun p u hp=>by
     have hp:(fl css n ys).flatten[p]?=some u:=hp;unfold fl at hp;rw[List.flatten_append,List.flatten_append]at hp;show if _ then _ else css.flatten[p]?=some u
     rcases Nat.lt_or_ge p (n*sz2)with h|h
     ·rw[jN];rw[List.getElem?_append_left (by simp only[List.length_append];omega),List.getElem?_append_left jB,haC,List.getElem?_take,if_pos h]at hp;exact hp
     ·rcases Nat.lt_or_ge p (n*sz2+ys.flatten.length)with h'|h'
      ·rw[if_pos ⟨h,h'⟩];rw[List.getElem?_append_left (by simp only[List.length_append];omega),List.getElem?_append_right jB,Xb]at hp;exact hp
      ·rw[jN];rw[List.getElem?_append_right (by simp only[List.length_append];omega)]at hp;have e2:css.flatten=(css.take (n+ys.length)).flatten++(css.drop (n+ys.length)).flatten:=by rw[<-List.flatten_append,List.take_append_drop]
       have I':=(List.getElem?_eq_some_iff.1 hp).1;have hnk:n+ys.length<=css.length:=by
        rcases Nat.lt_or_ge css.length (n+ys.length)with h6|h6
        ·rw[List.drop_eq_nil_of_le jB]at I';simp at I'
        ·exact h6
       have e3:(css.take (n+ys.length)).flatten.length=n*sz2+ys.flatten.length:=by rw[ij fun c hc=>hok.2 c (List.mem_of_mem_take hc),List.length_take,Nat.min_eq_left hnk,Wm,Nat.add_mul]
       rw[e2,List.getElem?_append_right jB,e3];simp only[List.length_append,Xb]at hp;exact hp)
    refine⟨w',_,_,.slice (some ⟨b,0,none⟩) (n+ys.length) cap,?_,hk,g1,?_,g2⟩
    ·have hf:(Builtin.firstCells i.size ys.length (.slice A ys.length cx)).run P w.toWorld=.ok news.toArray w.toWorld:=by
      by_cases h0:ys.length=0
      ·have:news=[]:=by have:=W0;rw[h0,Nat.zero_mul]at this;simpa using this
       subst this;rw[h0];cases A<;>simp[Builtin.firstCells,loadCells,loadCellsFrom]
      ·obtain⟨ad,rfl,D'⟩:=Wq jB;exact run_firstCells_some (P:=P) w.toWorld i.size ys.length ad ys.length cx news (by rw[Vx];exact W0) D'
     have Zp:(⟨b,0,none⟩:Addr).add (n*sz2)=⟨b,n*sz2,none⟩:=by rw[j3];simp
     rw[Vx]at hf;simp[Builtin.append_,run_underlying hu,sizeOf,typeInfo,hi,Builtin.lenOf,VJ,hf,Vx,Zp,B']
    ·have g3:w'.nm d (max css.length (n+ys.length))=some (.at b t' sz2):=by rw[<-Vf];exact g3
     exact .rs d _ sz2 _ b t' cap g3 Wz VJ Wp
   ·-- a new row
    have VK:0<ys.length:=jB;obtain⟨ad,rfl,D'⟩:=Wq VK;have Ze:fl css n ys=css.take n++ys:=by unfold fl;rw[List.drop_eq_nil_of_le jB,List.append_nil]
    have XG:max css.length (n+ys.length)=n+ys.length:=Nat.max_eq_right jB;rw[Ze]at hk Vu Vf;rw[XG]at hk Vf;have hold:bZ w (css.take n).flatten (cur.toList.take (n*sz2)):=by
     refine⟨by simp only[List.length_take,Array.length_toList];have:=Nat.mul_le_mul_right sz2 Vj;omega,fun k a v YP hv=>?_⟩;rw[List.getElem?_take]at hv;split at hv
     ·rename_i hkn;rw[haC,List.getElem?_take,if_pos hkn]at YP;exact Xv k a v YP (by simpa using hv)
     ·cases hv
    have Vm:=hold.append Vy;rw[<-List.flatten_append]at Vm;obtain⟨w',e1,g1,g2,g3⟩:=tX (i:=d) (e:=e') (cap:=grownCap w.toWorld (n+ys.length) cap e') (css:=css.take n++ys) (rest:=Builtin.zeroCells z.cells (grownCap w.toWorld (n+ys.length) cap e'-(n+ys.length))) hw h0 Vu Vm (by rw[Vf];exact W2 _ _) (by rw[Vf];exact YD _) (hw.later hd (by show css.length<_;rw[Vf];omega)) (fun r hr=>by rw[hd]at hr;cases hr;show css.length<=_;rw[Vf];omega);rw[Vf]at g3;refine⟨w',_,_,_,?_,hk,g1,g3,g2⟩;rw[e1];have:=run_append_grow (P:=P) w.toWorld t ty e' i z hu hi Xu ⟨b,0,none⟩ n cap (cur.toList.take (n*sz2)) (by rw[<-hold.1,Xb,Vx]) (fun k v hv=>by
     rw[List.getElem?_take]at hv;split at hv
     ·rw[j3,td b _ cur e' (0,0) hh,Nat.zero_add];simpa using hv
     ·cases hv) ad ys.length cx news (by rw[Vx];exact W0) D' jB jB (growslice_fits jB jB)
    rw[this];congr 3
    apply Array.ext';simp
 ·-- nothing
  obtain⟨⟨We,h63⟩,d,hd,hk⟩:=h;have:=cZ XU;subst this;by_cases hy:ys.length=0
  ·have:ys=[]:=List.length_eq_zero_iff.1 hy;subst this;obtain⟨g1,g2⟩:=yc hw hd e h0;refine⟨_,_,_,.slice none 0 0,?_,hk,g1,.iH _ _ _ _ (NW.ci _ _ _ _),g2⟩;have:(Builtin.append_ #[t,t] ty #[.slice none 0 0,.slice A 0 cx]).run P w.toWorld=.ok (.slice none 0 0) w.toWorld:=by
    simp[Builtin.append_,run_underlying hu,sizeOf,typeInfo,hi,Builtin.lenOf,hf0,storeCells]
   exact this
  ·obtain⟨ad,rfl,D'⟩:=Wq jB;obtain⟨w',e1,g1,g2,g3⟩:=tX (i:=d) (e:=e) (cap:=grownCap w.toWorld ys.length 0 e) (css:=ys) (rest:=Builtin.zeroCells z.cells (grownCap w.toWorld ys.length 0 e-ys.length)) hw h0 (fun y hy=>(hg y hy).1) Vy (W2 _ _) (YD _) (hw.none hd _) (fun r hr=>by rw[hd]at hr;cases hr);refine⟨w',_,_,_,?_,hk,g1,g3,g2⟩;rw[e1];exact run_append_nil w.toWorld t ty e i z hu hi Xu ad ys.length cx news (by rw[Vx];exact W0) D' jB jB jB
 ·-- a literal
  rename_i sz' css _;obtain⟨⟨rfl,⟨We,h63⟩,hor⟩,d,hd,hk⟩:=h;have Vf:(css++ys).length=css.length+ys.length:=List.length_append;cases XU with
  |hJ _ _ A' c' hx=>
   have Zq:=hx rfl;subst Zq;by_cases hy:ys.length=0
   ·have:ys=[]:=List.length_eq_zero_iff.1 hy;subst this;obtain⟨g1,g2⟩:=yc hw hd e h0;refine⟨_,_,_,.slice A' 0 0,?_,hk,g1,.iH _ _ _ _ (NW.ci _ _ _ _),g2⟩;have:(Builtin.append_ #[t,t] ty #[.slice A' 0 0,.slice A 0 cx]).run P w.toWorld=.ok (.slice A' 0 0) w.toWorld:=by
     cases A'<;>simp[Builtin.append_,run_underlying hu,sizeOf,typeInfo,hi,Builtin.lenOf,hf0,storeCells]
    exact this
   ·obtain⟨ad,rfl,D'⟩:=Wq jB;obtain⟨w',e1,g1,g2,g3⟩:=tX (i:=d) (e:=e) (cap:=grownCap w.toWorld ys.length 0 e) (css:=ys) (rest:=Builtin.zeroCells z.cells (grownCap w.toWorld ys.length 0 e-ys.length)) hw h0 (fun y hy=>(hg y hy).1) Vy (W2 _ _) (YD _) (hw.none hd _) (fun r hr=>by rw[hd]at hr;cases hr);refine⟨w',_,_,_,?_,hk,by simpa using g1,by simpa using g3,by simpa using g2⟩;rw[e1];cases A' with
    |none=>exact run_append_nil w.toWorld t ty e i z hu hi Xu ad ys.length cx news (by rw[Vx];exact W0) D' jB (by simp at h63;omega) (by simp at We;omega)
    |some b=>
     have:=run_append_grow (P:=P) w.toWorld t ty e i z hu hi Xu b 0 0 [] jE (fun j v h=>by simp at h) ad ys.length cx news (by rw[Vx];exact W0) D' jB (by simp at h63;simp;omega) (by rw[Nat.zero_add,nextslicecap_zero jB];simp at We;omega)
     simpa using this
  |sl _ _ _ b c' vs hn VV hx Vb hb hH haa hr=>
   have Vu:∀cs∈css++ys,cs.length=sz':=fun cs h=>by
    rcases List.mem_append.1 h with h|h
    ·exact Vb _ h
    ·exact(hg cs h).1
   obtain⟨ZP,cur,el,XP⟩:=hx rfl;subst ZP;have W5:=ij Vb;have hold:bZ w css.flatten ((List.range (css.length*sz')).map vs):=by
    refine⟨by simp[W5],fun k a v YP hv=>?_⟩;have hk:k<css.length*sz':=by have:=(List.getElem?_eq_some_iff.1 YP).1;omega
    obtain⟨i',j,Wx,hj,rfl⟩:=vn hk;rw[qC Vb Wx hj]at YP;simp only[List.getElem?_map,List.getElem?_range hk,Option.map_some,Option.some.injEq]at hv;subst hv;exact(hr i' j a Wx YP).mY
   by_cases hy:ys.length=0
   ·
    omega
   ·obtain⟨ad,rfl,D'⟩:=Wq jB;have Vm:=hold.append Vy;rw[<-List.flatten_append]at Vm;obtain⟨w',e1,g1,g2,g3⟩:=tX (i:=d) (e:=e) (cap:=grownCap w.toWorld (css.length+ys.length) css.length e) (css:=css++ys) (rest:=Builtin.zeroCells z.cells (grownCap w.toWorld (css.length+ys.length) css.length e-(css.length+ys.length))) hw h0 Vu Vm (by rw[Vf];exact W2 _ _) (by rw[Vf];exact YD _) (hw.none hd _) (fun r hr=>by rw[hd]at hr;cases hr);rw[Vf]at g3;refine⟨w',_,_,_,?_,hk,g1,g3,g2⟩;rw[e1];have:=run_append_grow (P:=P) w.toWorld t ty e i z hu hi Xu b css.length css.length ((List.range (css.length*sz')).map vs) (by rw[<-hold.1,W5,Vx]) (fun k v hv=>by
     have hk:k<css.length*sz':=by have:=(List.getElem?_eq_some_iff.1 hv).1;simpa using this
     obtain⟨i',j,Wx,hj,rfl⟩:=vn hk;simp only[List.getElem?_map,List.getElem?_range hk,Option.map_some,Option.some.injEq]at hv;subst hv;exact haa i' j Wx hj) ad ys.length cx news (by rw[Vx];exact W0) D' jB jB (growslice_fits jB jB)
    rw[this];congr 3
    apply Array.ext';simp
 ·exact h.elim
end
section
variable {P:U3}{H:Hp}
variable{w:NW}
def Cf(l:U1):bZ w (l.map .raw) l:=⟨jE,fun i a v ha hv=>by simp only[List.getElem?_map,Option.map_eq_some_iff]at ha;obtain⟨x,hx,rfl⟩:=ha;rw[hx]at hv;cases hv;exact .raw _⟩
variable{f:FuncId}
def Ms{a:AV}{v:Value}{first captured:US}(h:aw w a v)(hf:CR a=some (f,first,captured)):∃x y:U0,v=.func (.func f) x y/\bZ w first x.toList/\bZ w captured y.toList:=by
 unfold CR at hf;split at hf
 ·rename_i f x y;simp only[Option.some.injEq,Prod.mk.injEq]at hf;obtain⟨rfl,rfl,rfl⟩:=hf;exact⟨x,y,cZ h,Cf _,Cf _⟩
 ·simp only[Option.some.injEq,Prod.mk.injEq]at hf;obtain⟨rfl,rfl,rfl⟩:=hf;cases h with
  |eT _ _ vs hl hr=>exact⟨#[],vs,rfl,⟨rfl,fun i a v h=>by simp at h⟩,⟨by simpa using hl,fun i a v h1 h2=>hr i a v h1 (by simpa using h2)⟩⟩
 ·simp only[Option.some.injEq,Prod.mk.injEq]at hf;obtain⟨rfl,rfl,rfl⟩:=hf;cases h with
  |bd _ _ vs hl hr=>exact⟨vs,#[],rfl,⟨by simpa using hl,fun i a v h1 h2=>hr i a v h1 (by simpa using h2)⟩,⟨rfl,fun i a v h=>by simp at h⟩⟩
 ·cases hf
def HZ{l:US}{vs:U1}(h:bZ w l vs):br w l vs.toArray:=⟨by simpa using h.1,fun i a v ha hv=>h.2 i a v ha (by simpa using hv)⟩
def Mm  (h : aW P f = true) : ∃ fn, P.funcs[f]? = some fn ∧ fn.body.isSome = true ∧ (fn.name == "runtime.NumGoroutine") = false := by
 unfold aW at h;split at h
 ·rename_i fn hf;simp only[Bool.and_eq_true,Bool.not_eq_true']at h;exact⟨fn,hf,h.1,h.2⟩
 ·cases h
variable{R:UP}
def Ko{xs:U0}{l:US}{o:Oper}(h:(aW P f=true/\cS P f l H R)\/u7 P f l H R){a:Act}{next:Act->World->Prop}{Q:Exit->Act->World->Prop}(hcf:(execOp a.eval o).run P w.toWorld=(callFunc f xs).run P w.toWorld)(hw:aF w H)(Vp:br w l xs)
  (hn:∀(v:Value) (r:AV) (w':NW) (H':Hp),R r H'->aF w' H'->aw w' r v->Ext w H w' H'->next (a.put o.dst v) w'.toWorld):Oper.wp P o a w.toWorld next Q:=by
 rcases h with⟨Vz,hc⟩|Vr
 ·obtain⟨fn,VB,hb,Xt⟩:=Mm Vz;have B':(execOp a.eval o).run P w.toWorld=.ok (.enter f xs) w.toWorld:=by
   have VM:fn.body.isNone=false:=by cases hbb:fn.body<;>simp_all
   rw[hcf];simp only[callFunc,Sem.run_bind,run_program,Result.andThen_ok,VB,Xt,VM,Bool.false_eq_true,if_false,Sem.run_pure]
  simp only[Oper.wp,B',Oper.upon_enter];refine(hc w _ hw Vp).mono ?_;rintro e W ⟨v,r,H',w',rfl,rfl,hR,g1,g2,g3⟩;exact hn v r w' H' hR g1 g2 g3
 ·obtain⟨v,w',r,H',B',hR,g1,g2,g3⟩:=Vr w _ hw Vp;rw[<-hcf]at B';simp only[Oper.wp,B',Oper.upon];exact hn v r w' H' hR g1 g2 g3
variable{as:Array Operand}{ts:Array UY}{dst:Option Tmp}{after:Array Edge}{guard:Option (Nat×Bool)}
def xa{f:AV}{args:US}{fo:Operand}{ty:UY}{pos:String}{ev:UZ}(X6:ev fo=f)(ZQ:as.toList.map ev=args)
  (h:eQ P f args H R) {w:NW} {a:Act} {next:Act->World->Prop} {Q:Exit->Act->World->Prop} (hw:aF w H) (hr:∀x,aw w (ev x) (a.eval x))
  (hn:∀(v:Value) (r:AV) (w':NW) (H':Hp),R r H'->aF w' H'->aw w' r v->Ext w H w' H'->next (a.put dst v) w'.toWorld):Oper.wp P ⟨dst,.call ⟨.value fo,as,ts⟩,ty,pos,after,guard⟩ a w.toWorld next Q:=by
 unfold eQ at h;split at h
 ·rename_i f first captured hf
  obtain⟨x,y,hv,hx,hy⟩:=Ms (X6 ▸ hr fo) hf;have Wi:as.map a.eval=(as.toList.map a.eval).toArray:=by rw[<-Array.toList_map,Array.toArray_toList]
  refine Ko h ?_ hw (HZ ((hx.append (ZQ ▸ we hr as.toList)).append hy)) hn;have e:x++(as.toList.map a.eval).toArray++y=(x.toList++as.toList.map a.eval++y.toList).toArray:=by apply Array.ext';simp
  simp only[execOp,resolve,hv,Deferred.ofValue,pure_bind,invoke,Wi,e]
 ·exact h.elim
def ND{t:UY}{m:String}(h:oS P t m=some f)(v:Value)(W:World):(method (P.types.size+Made.depth) t v m).run P W=.ok (f,v) W:=by
 unfold oS at h;split at h;rotate_left
 ·cases h
 rename_i ti e ht hu;split at h;rotate_left
 ·cases h
 rename_i r hr;split at h;rotate_left
 ·cases h
 rename_i hp;split at h;rotate_left
 ·cases h
 rename_i g hf;cases h;have XP:r.path.toList=[]:=by have:=Array.isEmpty_iff.1 hp;rw[this]
 obtain⟨n,hn⟩:∃n,P.types.size+Made.depth=n+1:=⟨P.types.size+Made.depth-1,by have hd:=(by decide:Made.depth≠0);omega⟩;rw[hn];unfold method;simp only[Sem.run_bind,run_typeInfo W ht,Result.andThen_ok,hr,XP,follow,Sem.run_pure,hf,receiverAt,run_underlying hu,Place.get]
def Be{x:AV}{m:String}{args:US}{fo:Operand}{ty:UY}{pos:String}{ev:UZ}(X6:ev fo=x)(ZQ:as.toList.map ev=args)
  (h:qW P x m args H R) {w:NW} {a:Act} {next:Act->World->Prop} {Q:Exit->Act->World->Prop} (hw:aF w H) (hr:∀x,aw w (ev x) (a.eval x))
  (hn:∀(v:Value) (r:AV) (w':NW) (H':Hp),R r H'->aF w' H'->aw w' r v->Ext w H w' H'->next (a.put dst v) w'.toWorld):Oper.wp P ⟨dst,.call ⟨.invoke fo m,as,ts⟩,ty,pos,after,guard⟩ a w.toWorld next Q:=by
 unfold qW at h;split at h;rotate_left
 ·exact h.elim
 rename_i t b;split at h;rotate_left
 ·exact h.elim
 rename_i f hf;have hx:=hr fo;rw[X6]at hx;generalize hv:a.eval fo=v at hx;cases hx with
 |iS _ _ u hu=>
  have Wi:as.map a.eval=(as.toList.map a.eval).toArray:=by rw[<-Array.toList_map,Array.toArray_toList]
  have h':(aW P f=true/\cS P f (b::args) H R)\/u7 P f (b::args) H R:=by
   have:eQ P (.raw (.func (.func f) #[] #[])) (b::args) H R=((aW P f=true/\cS P f (b::args) H R)\/u7 P f (b::args) H R):=by show((aW P f=true/\cS P f ([]++(b::args)++[]) H R)\/u7 P f ([]++(b::args)++[]) H R)=_;rw[List.nil_append,List.append_nil]
   rw[<-this];exact h
  have hl:bZ w (b::args) (u::as.toList.map a.eval):=bZ.append (a:=[b]) (x:=[u]) ⟨rfl,fun i p q hp hq=>by
   match i with
   |0=>cases hp;cases hq;exact hu
   |i+1=>simp at hp⟩ (ZQ ▸ we hr as.toList)
  refine Ko h' (xs:=(u::as.toList.map a.eval).toArray) ?_ hw (HZ hl) hn;have e0:(#[Value.iface t u]++as.map a.eval)[0]?=some (.iface t u):=by rw[Array.getElem?_append_left (by show 0<1;decide)];rfl
  have e1:(#[Value.iface t u]++as.map a.eval).extract 1 (#[Value.iface t u]++as.map a.eval).size=as.map a.eval:=jE;have e2:#[u]++as.map a.eval=(u::as.toList.map a.eval).toArray:=by apply Array.ext';simp
  simp only[execOp,resolve,pure_bind,invoke,hv,e0,e1,callMethod,Sem.run_bind,run_program,Result.andThen_ok,ND hf,e2]
end
variable{P:U3}{args':US}
@[congr] theorem j1Y{f f':AV}{args:US}(h1:f=f')(h2:args=args'):eQ P f args H K=eQ P f' args' H K:=by rw[h1,h2]
variable{a':AV}
@[congr] theorem jx9{a:AV}{m:String}{args:US}(h1:a=a')(h2:args=args'):qW P a m args H K=qW P a' m args' H K:=by rw[h1,h2]
variable{t:UY}
@[congr] theorem jzg:nZ P H t K=nZ P H t K:=rfl
@[congr] theorem j3d{x x':AV}(h:x=x'):rR H t x K=rR H t x' K:=by rw[h]
@[congr] theorem jvO{t':UY}{a x x':AV}(h1:a=a')(h2:x=x'):sf P t t' a x H K=sf P t t' a' x' H K:=by rw[h1,h2]
@[congr] theorem jsJ{b:Builtin}{ts ts':List UY}{as as':US}(h1:ts=ts')(h2:as=as'):re P b ts as H K=re P b ts' as' H K:=by rw[h1,h2]
def mo(ops:Array Oper)(F:US)(j:Nat)(want:Bool):Option Bool:=match (ops[j]?).bind (·.dst)with
 |some d=>match F[d]? with
  |some (.raw (.bool b))=>some (b == want)
  |some (.gd g (.raw (.bool b)))=>some (g && (b == want))
  |_=>none
 |none=>none
def bK(F:US)(x:Operand):AV:=(jZ (bM F x)).2
def gp(F:US)(o:Op):Bool:=o.operands.toList.all fun x=>(jZ (bM F x)).1
def iT:Op->Bool
 |.call { callee:=.invoke ..,.. }=>true
 |.binOp .eql ..=>true
 |.binOp .neq ..=>true
 |o=>di o
def eJ(P:U3)(F:US)(H:Hp)(g:Bool)(K:AV->Prop):Op->Prop
 |.call { callee:=.value f,args,argTypes }=>∃r,(g=true->gp F (.call ⟨.value f,args,argTypes⟩)=true/\eQ P (bK F f) (args.toList.map (bK F)) H fun r' H'=>r'=r/\H'=H)/\K (.gd g r)
 |.call { callee:=.invoke f m,args,argTypes }=>∃r,(g=true->gp F (.call ⟨.invoke f m,args,argTypes⟩)=true/\qW P (bK F f) m (args.toList.map (bK F)) H fun r' H'=>r'=r/\H'=H)/\K (.gd g r)
 |.pick c a b=>(g=true->(jZ (bM F c)).1=true/\(ow (bK F c) (bM F a) (bM F b)).1)/\K (.gd g (ow (bK F c) (bM F a) (bM F b)).2)
 |o=>if iT o then(g=true->gp F o=true/\(vq P (bK F) H o).1)/\K (.gd g (vq P (bK F) H o).2)else False
def jm:Op->Bool
 |.call { callee:=.value _,.. }=>true
 |_=>false
def lD(P:U3)(ops:Array Oper)(K:UO):List Oper->UO
 |[],F,H=>K F H
 |o::rest,F,H=>match o.guard with
  |none=>vc P (bM F) H o.type (fun r H'=>lD P ops K rest (cr F o.dst r) H') o.op
  |some (j,want)=>match mo ops F j want with
   |some b=>if jm o.op || iT o.op then eJ P F H b (fun r=>lD P ops K rest (cr F o.dst r) H) o.op
    else(b=true->vc P (bM F) H o.type (fun r H'=>lD P ops K rest (cr F o.dst r) H') o.op)/\(b=false->lD P ops K rest (cr F o.dst .any) H)
   |none=>False
section
variable {P:U3}{ops:Array Oper}{F:US}{H:Hp}
variable{K:UO}{w:NW}{tm:U0}
def Cu{o:Oper}{ev:UZ}(h:vc P ev H o.type (fun r H'=>K (cr F o.dst r) H') o.op){Q:Exit->Act->World->Prop}{next:Act->World->Prop}
  (h1:aF w H) (h2:br w F tm) (hr:∀x,aw w (ev x) ((Act.mk tm []).eval x))
  (hn:∀VI (w':NW) F' H',K F' H'->aF w' H'->br w' F' VI->Ext w H w' H'->next ⟨VI,[]⟩ w'.toWorld):o.wp P ⟨tm,[]⟩ w.toWorld next Q:=by
 have quiet:((vq P ev H o.op).1/\K (cr F o.dst (vq P ev H o.op).2) H)->o.wp P ⟨tm,[]⟩ w.toWorld next Q:=fun hq=>by obtain⟨v,B',hv⟩:=yQ o h1 hr hq.1;simp only[Oper.wp,B',Oper.upon];rw[Act.put_eq];exact hn _ w _ H hq.2 h1 (h2.put o.dst hv []) (Ext.refl w H)
 have val:∀{w':NW} {H':Hp} {r:AV} {v:Value},(execOp (Act.mk tm []).eval o).run P w.toWorld=.ok (.value v) w'.toWorld->K (cr F o.dst r) H'->aF w' H'->aw w' r v->Ext w H w' H'->o.wp P ⟨tm,[]⟩ w.toWorld next Q:=fun{w' H' r v} B' hk g1 g2 g3=>by simp only[Oper.wp,B',Oper.upon];rw[Act.put_eq];exact hn _ w' _ H' hk g1 ((h2.ext g3).put o.dst g2 []) g3
 have skip:∀{w':NW} {H':Hp},(execOp (Act.mk tm []).eval o).run P w.toWorld=.ok .skip w'.toWorld->K (cr F o.dst .any) H'->aF w' H'->Ext w H w' H'->o.wp P ⟨tm,[]⟩ w.toWorld next Q:=fun{w' H'} B' hk g1 g3=>by simp only[Oper.wp,B',Oper.upon];rw[Act.put_eq];exact hn _ w' _ H' hk g1 ((h2.ext g3).put o.dst (.any _) []) g3
 have other:jg P o.op o.type ev H (fun r H'=>K (cr F o.dst r) H')->o.wp P ⟨tm,[]⟩ w.toWorld next Q:=fun ho=>by
  obtain⟨w',H',r,hk,g1,g2,g3⟩:=ho w (Act.mk tm []).eval o.dst o.pos o.after o.guard h1 (fun x _=>hr x);rcases g3 with⟨v,B',hv⟩|⟨B',rfl⟩
  ·exact val B' hk g1 hv g2
  ·exact skip B' hk g1 g2
 obtain⟨dst,op,ty,pos,after,guard⟩:=o;have vrun:∀{s:Sem Value} {v:Value} {W:World},s.run P w.toWorld=.ok v W->(do pure (Next.value (<-s)):Sem Next).run P w.toWorld=.ok (.value v) W:=fun hs=>by simp[hs]
 cases op
 case box t x=> obtain⟨ho,i,hi,hk⟩:=h;obtain⟨u,w',B',g0,g1,g2⟩:=QF (P:=P) (t:=t) h1 hi (hr x) ho;exact val (vrun B') hk g1 g0 g2
 case alloc t=>
  simp only[vc,nZ]at h;split at h
  ·rename_i zs hz;obtain⟨i,hi,hk⟩:=h;obtain⟨u,w',B',g0,g1,g2⟩:=LO (P:=P) (t:=t) h1 hi hz;exact val (vrun B') hk g1 g0 g2
  ·exact h.elim
 case store t a x=>
  simp only[vc,wN]at h;split at h
  ·rename_i i m k j n ha hk;split at h
   ·rename_i r hb;obtain⟨⟨s1,s2,s3⟩,Vn⟩:=h;have hva:=hr a;rw[ha]at hva;obtain⟨w',B',g1,g2⟩:=La (P:=P) h1 hva hb (hr x) s1 hk s2 s3;refine skip ?_ Vn g1 g2;simp only[execOp,Sem.run_bind,B',Result.andThen_ok,Sem.run_pure]
   ·exact h.elim
  ·exact h.elim
 case buildSlice t n parts=>
  have h':pk P H t n (parts.toList.map fun p=>(p.1,ev p.2)) (fun r H'=>K (cr F dst r) H'):=h;obtain⟨w',H',r,v,B',hk,g1,g2,g3⟩:=Lb (P:=P) (parts:=parts.toList.map fun p=>(p.1,ev p.2)) (vparts:=parts.map fun p=>(p.1,(Act.mk tm []).eval p.2)) h1 jE (fun i a v ha hv=>by simp only[List.getElem?_map,Option.map_eq_some_iff,Array.toList_map,Array.getElem?_toList]at ha hv;obtain⟨x,hx,rfl⟩:=ha;obtain⟨y,hy,rfl⟩:=hv;rw[hx]at hy;cases hy;exact hr x.2) h'
  exact val (vrun B') hk g1 g2 g3
 case binOp op t x y t'=>
  cases op
  case eql=> obtain⟨r,v,B',hk,hv⟩:=FW (P:=P) (K:=fun r H'=>K (cr F dst r) H') false t x y (hr x) (hr y) h;exact val (vrun B') hk h1 hv (Ext.refl w H)
  case neq=> obtain⟨r,v,B',hk,hv⟩:=FW (P:=P) (K:=fun r H'=>K (cr F dst r) H') true t x y (hr x) (hr y) h;exact val (vrun B') hk h1 hv (Ext.refl w H)
  all_goals exact quiet h
 case call c=>
  obtain⟨callee,args,argTypes⟩:=c;cases callee
  case value f=>
   refine xa rfl rfl h h1 hr fun v r w' H' hk g1 g2 g3=>?_
   rw[Act.put_eq];exact hn _ w' _ H' hk g1 ((h2.ext g3).put dst g2 []) g3
  case invoke r m=>
   refine Be rfl rfl h h1 hr fun v r w' H' hk g1 g2 g3=>?_
   rw[Act.put_eq];exact hn _ w' _ H' hk g1 ((h2.ext g3).put dst g2 []) g3
  case builtin b=>
   have Wi:args.map (Act.mk tm []).eval=(args.toList.map (Act.mk tm []).eval).toArray:=by rw[<-Array.toList_map,Array.toArray_toList]
   have bvc:re P b argTypes.toList (args.toList.map ev) H (fun r H'=>K (cr F dst r) H')->Oper.wp P ⟨dst,.call ⟨.builtin b,args,argTypes⟩,ty,pos,after,guard⟩ ⟨tm,[]⟩ w next Q:=fun hb=>by obtain⟨w',H',r,v,B',hk,g1,g2,g3⟩:=hb w _ ty (args.map fun|.const _=>true|_=>false) h1 (we hr args.toList);refine val (w':=w') (v:=v) ?_ hk g1 g2 g3;simp only[execOp,resolve,pure_bind,invoke,Wi];exact B'
   cases b
   case append=>
    simp only[vc]at h;split at h
    ·rename_i t t' a x ht ha;obtain⟨w',H',r,v,B',hk,g1,g2,g3⟩:=h w _ _ ty h1 (hr a) (hr x);refine val (w':=w') (v:=v) ?_ hk g1 g2 g3;have e1:argTypes=#[t,t']:=by rw[<-Array.toArray_toList (xs:=argTypes),ht]
     have e2:args=#[a,x]:=by rw[<-Array.toArray_toList (xs:=args),ha]
     subst e1 e2;simp only[execOp,resolve,pure_bind,invoke,builtin,Sem.run_bind];have:(#[a,x].map (Act.mk tm []).eval)=#[(Act.mk tm []).eval a,(Act.mk tm []).eval x]:=jE;rw[this,B'];rfl
    ·exact h.elim
   case len=>exact quiet h
   case cap=>exact quiet h
   case max=>exact quiet h
   case min=>exact quiet h
   all_goals exact bvc h
 case move=>exact quiet h
 case assign=>exact quiet h
 case pick=>exact quiet h
 case nilCheck=>exact quiet h
 case unOp=>exact quiet h
 case load=>exact quiet h
 case fieldAddr=>exact quiet h
 case field=>exact quiet h
 case indexAddr=>exact quiet h
 case index=>exact quiet h
 case extract=>exact quiet h
 case slice=>exact quiet h
 case makeFunc=>exact quiet h
 case makeInterface=>exact quiet h
 case convert=>exact quiet h
 case build=>exact quiet h
 all_goals first|exact other h|exact(quiet h)
def qR{o:Oper}(hg:o.guard=none)(h:vc P (bM F) H o.type (fun r H'=>K (cr F o.dst r) H') o.op):nB P ops o F H K:=fun w tm Q next h1 h2 hn=>by unfold te;rw[if_pos (by simp[Region.wanted,hg])];exact .inl (Cu h h1 h2 (fun x=>h2.eval [] x) hn)
def ON{j:Nat}{want b:Bool}(h:mo ops F j want=some b)(h2:br w F tm):(yielded ops tm j == some want)=b:=by
 unfold mo at h;split at h
 ·rename_i d hd;split at h<;>try cases h
  ·rename_i b' hF;have I':d<tm.size:=by rw[<-h2.1];exact(List.getElem?_eq_some_iff.1 hF).1
   have:=cZ (h2.2 d _ _ hF (Array.getElem?_eq_getElem I'));unfold yielded;rw[hd,Option.bind_some,Array.getElem?_eq_getElem I',this];cases b'<;>cases want<;>rfl
  ·rename_i g b' hF;have I':d<tm.size:=by rw[<-h2.1];exact(List.getElem?_eq_some_iff.1 hF).1
   have hr:=h2.2 d _ _ hF (Array.getElem?_eq_getElem I');unfold yielded;rw[hd,Option.bind_some,Array.getElem?_eq_getElem I'];cases hr with
   |gd _ _ _ hh hu=>cases g with
    |true=> have:=cZ (hh rfl);rw[this];cases b'<;>cases want<;>rfl
    |false=>rw[hu rfl];rfl
 ·cases h
def Dk(h2:br w F tm)(x:Operand)(ok:(jZ (bM F x)).1=true):aw w (bK F x) ((Act.mk tm []).eval x):=xG (h2.eval [] x) ok
def kN(F:US)(x:Operand):AV:=if(jZ (bM F x)).1=true then bK F x else .any
def Cj{f g:UZ}{o:Option Operand}(h:∀x∈o.toList,f x=g x):o.map f=o.map g:=by
 cases o with
 |none=>rfl
 |some x=>simp[h x jE]
def uE{ev ev':UZ}(o:Op)(h:∀x∈o.operands.toList,ev x=ev' x):vq P ev H o=vq P ev' H o:=by
 cases o
 case call c=>
  obtain⟨callee,args,ts⟩:=c;cases callee
  case builtin b=> simp only[vq];rw[List.map_congr_left (fun x hx=>h x (by simpa[Op.operands,Call.operands]using hx))]
  all_goals rfl
 case slice t a lo hi mx=> simp only[Op.operands]at h;simp only[vq];rw[h a jE,Cj (o:=lo) (fun x hx=>h x (by simp at hx ⊢;simp[hx])),Cj (o:=hi) (fun x hx=>h x (by simp at hx ⊢;simp[hx])),Cj (o:=mx) (fun x hx=>h x (by simp at hx ⊢;simp[hx]))]
 case makeFunc fn a b=> simp only[Op.operands]at h;simp only[vq];rw[List.map_congr_left (l:=a.toList) (fun x hx=>h x (by simp at hx ⊢;simp[hx])),List.map_congr_left (l:=b.toList) (fun x hx=>h x (by simp at hx ⊢;simp[hx]))]
 case build t ps=> simp only[Op.operands]at h;simp only[vq];rw[List.map_congr_left (g:=fun p=>(p.1,ev' p.2)) (fun x hx=>by rw[h x.2 (by simp at hx ⊢;exact⟨_,hx⟩)])]
 all_goals first
  |rfl
  |(simp only[Op.operands]at h;simp only[vq];(repeat rw[h _ jE]))
def sQ(h2:br w F tm)(x:Operand):aw w (kN F x) ((Act.mk tm []).eval x):=by
 unfold kN;split
 ·rename_i h;exact Dk h2 x h
 ·exact .any _
def qy{o:Op}(h:gp F o=true):∀x∈o.operands.toList,kN F x=bK F x:=fun x hx=>by unfold kN;rw[if_pos];simp only[gp,List.all_eq_true]at h;exact h x hx
def pT{o:Oper}{j:Nat}{want b:Bool}(hg:o.guard=some (j,want))(hb:mo ops F j want=some b)
  (ht:b=true->∀w tm (Q:Exit->Act->World->Prop) (next:Act->World->Prop),aF w H->br w F tm->(∀VI w' F' H',K F' H'->aF w' H'->br w' F' VI->Ext w H w' H'->next ⟨VI,[]⟩ w')->o.wp P ⟨tm,[]⟩ w.toWorld next Q)
  (hf:b=false->∃r,(∀w:NW,aw w r undef)/\K (cr F o.dst r) H):nB P ops o F H K:=fun w tm Q next h1 h2 hn=>by
 have hy:=ON hb h2;unfold te;have hw:Region.wanted o (yielded ops (Act.mk tm []).tmps)=b:=by unfold Region.wanted;rw[hg];exact hy
 cases b with
 |true=> rw[if_pos hw];exact .inl (ht rfl w tm Q next h1 h2 hn)
 |false=> rw[if_neg (by rw[hw];exact Bool.false_ne_true)];obtain⟨r,hr,hk⟩:=hf rfl;rw[Act.put_eq];exact hn _ w _ H hk h1 (h2.put o.dst (hr w) []) (Ext.refl w H)
def qH{r:AV}{g:Bool}(hg:g=false)(w:NW):aw w (.gd g r) undef:=.gd _ _ _ (fun h=>by rw[hg]at h;cases h) (fun _=>rfl)
def tO{r:AV}{v:Value}{g:Bool}(hg:g=true)(h:aw w r v):aw w (.gd g r) v:=.gd _ _ _ (fun _=>h) (fun h=>by rw[hg]at h;cases h)
theorem xk{K:UO}:∀(l:List Oper) (F:US) (H:Hp),lD P ops K l F H->vL P ops K l F H
 |[],F,H,h=>FJ h
 |o::rest,F,H,h=>by
  refine IL ?_;simp only[lD]at h;split at h
  ·rename_i hg;exact(qR (K:=fun F' H'=>lD P ops K rest F' H') hg h).mono fun F' H' hk=>xk rest F' H' hk
  ·rename_i j want hg;split at h
   ·rename_i b hb;split at h
    ·refine nB.mono (K:=fun F' H'=>lD P ops K rest F' H') ?_ fun F' H' hk=>xk rest F' H' hk
     obtain⟨dst,op,ty,pos,after,guard⟩:=o;unfold eJ at h;split at h
     ·rename_i f args argTypes XQ;cases XQ;obtain⟨r,hc,hk⟩:=h;refine pT hg hb (fun VE w tm Q next h1 h2 hn=>?_) (fun VE=>⟨_,qH VE,hk⟩);obtain⟨ok,Vz⟩:=hc VE;have Xw:=qy ok;have e1:kN F f=bK F f:=Xw f (by simp[Op.operands,Call.operands]);have e2:args.toList.map (kN F)=args.toList.map (bK F):=List.map_congr_left fun x hx=>Xw x (by simp[Op.operands,Call.operands]at hx ⊢;exact .inr hx)
      refine xa (ev:=kN F) e1 e2 Vz h1 (sQ h2) fun v r' w' H' hR g1 g2 g3=>?_
      obtain⟨rfl,rfl⟩:=hR;rw[Act.put_eq];exact hn _ w' _ H' hk g1 ((h2.ext g3).put dst (tO VE g2) []) g3
     ·rename_i f m args argTypes XQ;cases XQ;obtain⟨r,hc,hk⟩:=h;refine pT hg hb (fun VE w tm Q next h1 h2 hn=>?_) (fun VE=>⟨_,qH VE,hk⟩);obtain⟨ok,Vz⟩:=hc VE;have Xw:=qy ok;have e1:kN F f=bK F f:=Xw f (by simp[Op.operands,Call.operands]);have e2:args.toList.map (kN F)=args.toList.map (bK F):=List.map_congr_left fun x hx=>Xw x (by simp[Op.operands,Call.operands]at hx ⊢;exact .inr hx)
      refine Be (ev:=kN F) e1 e2 Vz h1 (sQ h2) fun v r' w' H' hR g1 g2 g3=>?_
      obtain⟨rfl,rfl⟩:=hR;rw[Act.put_eq];exact hn _ w' _ H' hk g1 ((h2.ext g3).put dst (tO VE g2) []) g3
     ·rename_i c x y XQ;simp only at XQ;subst XQ;obtain⟨hs,hk⟩:=h;refine pT hg hb (fun VE w tm Q next h1 h2 hn=>?_) (fun VE=>⟨_,qH VE,hk⟩);obtain⟨ok,hq⟩:=hs VE;obtain⟨v,B',hv⟩:=Jq (P:=P) (ρ:=(Act.mk tm []).eval) (dst:=dst) (ty:=ty) (pos:=pos) (after:=after) (guard:=guard) (Dk h2 c ok) (h2.eval [] x) (h2.eval [] y) hq;simp only[Oper.wp,B',Oper.upon];rw[Act.put_eq];exact hn _ w _ H hk h1 (h2.put dst (tO VE hv) []) (Ext.refl w H)
     ·split at h
      ·obtain⟨hs,hk⟩:=h;refine pT hg hb (fun VE w tm Q next h1 h2 hn=>?_) (fun VE=>⟨_,qH VE,hk⟩);obtain⟨ok,hq⟩:=hs VE;rw[<-uE _ (qy ok)]at hq;obtain⟨v,B',hv⟩:=yQ (ρ:=(Act.mk tm []).eval) ⟨dst,op,ty,pos,after,guard⟩ h1 (sQ h2) hq;simp only[Oper.wp,B',Oper.upon];rw[Act.put_eq];rw[uE _ (qy ok)]at hv;exact hn _ w _ H hk h1 (h2.put dst (tO VE hv) []) (Ext.refl w H)
      ·exact h.elim
    ·refine nB.mono (K:=fun F' H'=>lD P ops K rest F' H') ?_ fun F' H' hk=>xk rest F' H' hk
     refine pT hg hb (fun VE w tm Q next h1 h2 hn=>?_) (fun VE=>⟨_,fun w=>.any _,h.2 VE⟩);exact Cu (h.1 VE) h1 h2 (fun x=>h2.eval [] x) hn
   ·exact h.elim
def OR{id:Nat}{l:List Oper}{Q:Exit->UO}(h:lD P l.toArray (Q .normal) l F H):dJ P (.region id l.toArray false) Q F H:=
 Fa (by simpa using xk l F H h)
-- the results of a body
def kf(P:U3)(H:Hp)(F:US):List ResultVar->Option US
 |[]=>some []
 |.tmp t::rest=>(kf P H F rest).map (F.getD t .any::·)
 |.cell a t::rest=>match qj H (F.getD a .any),dv P t,cQ P t with
  |some (_,cs),some ag,some k=>(kf P H F rest).map (uo ag k cs::·)
  |_,_,_=>none
def k8(P:U3)(H:Hp)(F:US):List ResultVar->Prop
 |[]=>True
 |.tmp _::rest=>k8 P H F rest
 |.cell a t::rest=>match qj H (F.getD a .any),cQ P t with
  |some (c,cs),some k=>(c/\k<=cs.length/\1<=cs.length)/\k8 P H F rest
  |_,_=>False
def lJ:US->AV
 |[r]=>r
 |rs=>.aY rs
def wH(tm:U0):ResultVar->Sem Value
 |.tmp t=>pure (tm.getD t undef)
 |.cell a t=>do loadVar t (<-asAddr (tm.getD a undef))
def Pe(fn:Func)(tm:U0):results fn tm=(do let vs <-fn.results.mapM (wH tm);pure (if h:vs.size=1 then vs[0]else .tuple vs)):=rfl
theorem AU{w:NW}{tm:U0}(hw:aF w H)(h2:br w F tm):∀(rs:List ResultVar) (out:US),k8 P H F rs->kf P H F rs=some out->
  ∃vs:U1,bZ w out vs/\(rs.mapM (wH tm)).run P w.toWorld=.ok vs w.toWorld
 |[],out,_,h=>by simp[kf]at h;subst h;exact⟨[],⟨rfl,fun i a v ha=>by simp at ha⟩,jE⟩
 |.tmp t::rest,out,hok,h=>by
  simp only[kf,Option.map_eq_some_iff]at h;obtain⟨l,hl,rfl⟩:=h;obtain⟨vs,Vp,B'⟩:=AU hw h2 rest l hok hl;refine⟨tm.getD t undef::vs,⟨by simp[Vp.1],fun i a v ha hv=>?_⟩,?_⟩
  ·cases i with
   |zero=> simp only[List.getElem?_cons_zero,Option.some.injEq]at ha hv;subst ha hv;exact h2.eval [] (.tmp t)
   |succ i=>exact Vp.2 i a v (by simpa using ha) (by simpa using hv)
  ·rw[List.mapM_cons];simp only[wH,Sem.run_bind,Sem.run_pure,Result.andThen_ok];rw[B'];rfl
 |.cell ad t::rest,out,hok,h=>by
  simp only[kf]at h;simp only[k8]at hok;split at h
  ·rename_i c cs ag k e1 e2 e3;rw[e1,e3]at hok;obtain⟨⟨hc,Vs,Va⟩,hok⟩:=hok;simp only[Option.map_eq_some_iff]at h;obtain⟨l,hl,rfl⟩:=h;obtain⟨vs,Vp,B'⟩:=AU hw h2 rest l hok hl;obtain⟨addr,us,hv,D',hr⟩:=Fx (h2.eval [] (.tmp ad)) hw e1 hc;obtain⟨v,haD,hvr⟩:=Hb (P:=P) e2 e3 Vs Va D' hr;have Ve:tm.getD ad undef=.pointer (some addr):=hv;refine⟨v::vs,⟨by simp[Vp.1],fun i a u ha hu=>?_⟩,?_⟩
   ·cases i with
    |zero=> simp only[List.getElem?_cons_zero,Option.some.injEq]at ha hu;subst ha hu;exact hvr
    |succ i=>exact Vp.2 i a u (by simpa using ha) (by simpa using hu)
   ·rw[List.mapM_cons];have ha:(asAddr (tm.getD ad undef)).run P w.toWorld=.ok addr w.toWorld:=by rw[Ve];rfl
    have hf:(wH tm (.cell ad t)).run P w.toWorld=.ok v w.toWorld:=by simp only[wH,Sem.run_bind,ha,haD,Result.andThen_ok]
    simp only[Sem.run_bind,hf,B',Sem.run_pure,Result.andThen_ok]
  ·cases h
def RQ{fn:Func}{out:US}(hw:aF w H)(h2:br w F tm)(hok:k8 P H F fn.results.toList)(h:kf P H F fn.results.toList=some out):∃v,(results fn tm).run P w.toWorld=.ok v w.toWorld/\aw w (lJ out) v:=by
 obtain⟨vs,Vp,B'⟩:=AU (P:=P) hw h2 _ out hok h;have hm:(fn.results.mapM (wH tm)).run P w.toWorld=.ok vs.toArray w.toWorld:=by rw[Array.mapM_eq_mapM_toList];simp only[Sem.run_map,B',Result.andThen_ok]
 have hr:(results fn tm).run P w.toWorld=.ok (if h:vs.toArray.size=1 then vs.toArray[0]else .tuple vs.toArray) w.toWorld:=by rw[Pe];simp only[Sem.run_bind,hm,Result.andThen_ok,Sem.run_pure]
 refine⟨_,hr,?_⟩;match vs,out,Vp with
 |[],[],Vp=>exact .aY _ _ rfl fun i a v ha=>by simp at ha
 |[v],[a],Vp=>exact Vp.2 0 _ _ rfl rfl
 |v::v'::vs,a::a'::out,Vp=>exact .aY _ _ (by have:=Vp.1;simpa using this) fun i x y hx hy=>Vp.2 i x y hx (by simpa using hy)
 |[],_::_,Vp=>have:=Vp.1;simp at this
 |_::_,[],Vp=>have:=Vp.1;simp at this
 |[_],_::_::_,Vp=>have:=Vp.1;simp at this
 |_::_::_,[_],Vp=>have:=Vp.1;simp at this
def mw(P:U3)(fn:Func)(R:AV->List U5->Prop):Exit->UO
 |.normal,F,H|.ret,F,H=>∃out r H',kf P H F fn.results.toList=some out/\k8 P H F fn.results.toList/\iN (lJ out) H r H'/\R r H'.l
 |_,_,_=>False
def Kl{f:FuncId}{fn:Func}{c:Code}{args:US}{l:UR}{R:AV->List U5->Prop}(hf:P.funcs[f]?=some fn)(hb:fn.body=some c)(h:dJ P c (mw P fn R) (args++List.replicate (fn.ntmps-args.length) .any) (entry l)) :
  ab P f args l R:=fun w vs h1 h2=>by
 have J':args.length=vs.size:=h2.1;refine calls_of_wp hf hb (wp_mono (h w _ h1 ?_) ?_)
 ·refine⟨by simp[J'],fun i a v ha hv=>?_⟩;rcases Nat.lt_or_ge i args.length with hi|hi
  ·rw[List.getElem?_append_left hi]at ha;rw[Array.getElem?_append_left jB]at hv;exact h2.2 i a v ha hv
  ·rw[List.getElem?_append_right hi]at ha;rw[List.getElem?_replicate]at ha;split at ha<;>cases ha;exact .any _
 ·rintro e a W ⟨tm,F',H',w',rfl,rfl,hq,g1,g2,g3⟩;have fin:(∃out r VU,kf P H' F' fn.results.toList=some out/\k8 P H' F' fn.results.toList/\iN (lJ out) H' r VU/\R r VU.l)->
    ∃v,(results fn tm).run P w'.toWorld=.ok v w'.toWorld/\∃v' r VU w'',w'.toWorld=NW.toWorld w''/\Ending.returned v=.returned v'/\R r (Hp.l VU)/\aF w'' VU/\aw w'' r v'/\fU w (entry l) w'' VU:=by
   rintro⟨out,r,VU,e1,e0,e2,e3⟩;obtain⟨v,B',hv⟩:=RQ g1 g2 e0 e1;obtain⟨w'',k0,k1,k2,k3⟩:=e2 w' v g1 hv;exact⟨v,B',v,r,VU,w'',k0.symm,rfl,e3,k1,k2,g3.trans k3⟩
  cases e with
  |normal=>exact⟨rfl,fin hq⟩
  |ret=>exact⟨rfl,fin hq⟩
  |exit id=>exact hq.elim
  |goto l=>exact hq.elim
  |panic ch=>exact hq.elim
  |outgrown=>exact hq.elim
end
-- encoders of Lean data
class bD{α:Type}(enc:α->List AV)(sz:outParam Nat):Prop where
 len:∀x,(enc x).length=sz
 cI:∀x,cI (enc x)=true
 free:∀x,aR eo (enc x)=true
def QL(q:U2)(css:UQ):Prop:=∀cs∈css,aR q cs=true
def xm(q:U2):Row->Prop
 |.var _ cs=>aR q cs=true
 |.aD _ _ css=>QL q css
 |.mp _ vs=>aR q vs=true
theorem Af{q:U2}:∀(a b:US),aR q (a++b)=(aR q a && aR q b)
 |[],b=>by simp[aR]
 |x::a,b=>by simp[aR,Af a b,Bool.and_assoc]
theorem EL{q:U2}:∀{css:UQ},QL q css->aR q css.flatten=true
 |[],_=>rfl
 |cs::css,h=>by rw[List.flatten_cons,Af,h cs jE,EL (css:=css) fun c hc=>h c (by simp[hc])];rfl
variable{q:U2}
def Ek{r:Row}(h:xm q r):aR q r.cells=true:=by
 cases r with
 |var t cs=>exact h
 |aD e sz css=>exact EL h
 |mp ks vs=>exact h
def TH(q:U2):QL q []:=fun _ h=>by simp at h
def SE{a b:UQ}(h:QL q a)(k:QL q b):QL q (a++b):=fun c hc=>(List.mem_append.1 hc).elim (h c) (k c)
variable{α:Type}
def oJ{enc:α->US}[e:bD enc sz](l:List α):QL q (l.map enc):=fun c hc=>by obtain⟨x,_,rfl⟩:=List.mem_map.1 hc;exact fR (fun _ h=>by cases h) _ (e.free x)
def NQ(sz:Nat):Good sz []:=fun _ h=>by simp at h
def Ng{enc:α->US}[e:bD enc sz](l:List α):Good sz (l.map enc):=fun c hc=>by obtain⟨x,_,rfl⟩:=List.mem_map.1 hc;exact⟨e.len x,e.cI x⟩
-- calls
def si:List U5->Hp->Prop
 |[],_=>True
 |(i,r)::l,H=>H.get i=some r/\si l H
theorem C5:∀{l:UR} {H:Hp},si l H->∀i r,az l i=some r->H.get i=some r
 |[],_,_,i,r,h=>by cases h
 |(j,s)::l,H,hf,i,r,h=>by
  simp only[az]at h;split at h
  ·rename_i e;subst e;cases h;exact hf.1
  ·exact C5 hf.2 i r h
def rJ(q:U2):List U5->Prop
 |[]=>True
 |(_,r)::l=>xm q r/\rJ q l
theorem GV{q:U2}:∀{l:UR},rJ q l->∀i r,az l i=some r->aR q r.cells=true
 |[],_,i,r,h=>by cases h
 |(j,s)::l,hf,i,r,h=>by
  simp only[az]at h;split at h
  ·cases h;exact Ek hf.1
  ·exact GV hf.2 i r h
def oO(L:UW)(H:Hp):List U5->Prop
 |[]=>True
 |(i,_)::l=>(L.contains i=true\/H.get i=none)/\oO L H l
theorem Aq{L:UW}{H:Hp}:∀{l:UR},oO L H l->∀i r,az l i=some r->L.contains i=true\/H.get i=none
 |[],_,i,r,h=>by cases h
 |(j,s)::l,hf,i,r,h=>by
  simp only[az]at h;split at h
  ·rename_i e;subst e;exact hf.1
  ·exact Aq hf.2 i r h
section
variable {P:U3}{f:FuncId}{args:US}{H:Hp}{l:UR}{K:UP}
def Nh{R:AV->List U5->Prop}(hc:ab P f args l R)(h1:si l H)(h2:aR (fun i=>(ids l).contains i) args=true)(h3:rJ (fun i=>(ids l).contains i) l)
  (hk:∀r l',R r l'->oO (ids l) H l'/\(ids l').Nodup/\K r ⟨H.B,gB H.l l'⟩):cS P f args H K:=fun _ _ hw hv=>
 zC hc (C5 h1) h2 (GV h3) (fun r l' hR=>⟨Aq (hk r l' hR).1,(hk r l' hR).2⟩) hw hv
def vF{r0:AV}{l0:UR}(hc:ab P f args l fun r l'=>r=r0/\l'=l0)(h1:si l H)(h2:aR (fun i=>(ids l).contains i) args=true)(h3:rJ (fun i=>(ids l).contains i) l)
  (h4:oO (ids l) H l0) (h5:(ids l0).Nodup) (hk:K r0 ⟨H.B,gB H.l l0⟩):cS P f args H K:=
 Nh hc h1 h2 h3 fun r l' ⟨e1,e2⟩=>by rw[e1,e2];exact⟨h4,h5,hk⟩
def y0{r:AV}(hc:aL P f args r)(h2:aR eo args=true)(hk:K r H):cS P f args H K:=
 vF hc trivial (by simpa[ids]using h2) trivial trivial (by simp[ids]) hk
def nS{args:US}(hc:aW P f=true)(h:cS P f args H K):eQ P (.raw (.func (.func f) #[] #[])) args H K:=.inl ⟨hc,by simpa using h⟩
def Ri{cs:US}{args:US}(hc:aW P f=true)(h:cS P f (args++cs) H K):eQ P (.eT f cs) args H K:=.inl ⟨hc,by simpa using h⟩
def Qu{args:US}(h:u7 P f args H K):eQ P (.raw (.func (.func f) #[] #[])) args H K:=.inr (by simpa using h)
end
-- things of which D holds are let go of, and may be read from then on
def gi(D:U2):List U5->UR
 |[]=>[]
 |(j,s)::l=>bif D j then gi D l else(j,s)::gi D l
theorem El(D:U2):∀(l:UR) (i:Nat),az (gi D l) i=if D i=true then none else az l i
 |[],i=>by simp[gi,az]
 |(k,s)::l,i=>by
  have ih:=El D l i;unfold gi;cases hk:D k
  ·simp only[cond_false,az];split
   ·rename_i h;subst h;rw[hk];simp
   ·exact ih
  ·simp only[cond_true,az];rw[ih];split
   ·rfl
   ·rename_i h;rw[if_neg];rintro rfl;exact h hk
def NW.cX(w:NW)(D:U2):NW:={ w with O:=fun b=>w.O b/\∀i m t s,D i=true->w.nm i m≠some (.at b t s),nm:=fun j n=>if D j=true then none else w.nm j n }
def iY(D:U2):U2:=fun i=>!(D i)
def kI(D:U2):List U5->Prop
 |[]=>True
 |(j,r)::l=>(D j=true\/xm (iY D) r)/\kI D l
theorem G1{D:U2}:∀{l:UR},kI D l->∀{i:Nat} {r:Row},az l i=some r->D i=false->aR (iY D) r.cells=true
 |[],_,i,r,h,_=>by cases h
 |(j,s)::l,hf,i,r,h,hd=>by
  simp only[az]at h;split at h
  ·rename_i e;subst e;cases h;rcases hf.1 with h|h
   ·rw[hd]at h;cases h
   ·exact Ek h
  ·exact G1 hf.2 h hd
def sJ(w:NW)(D:U2):Keep (iY D) w (w.cX D):=⟨Nat.le_refl _,fun b _ h=>⟨rfl,fun h'=>h h'.1⟩,fun j n z hq h=>by show(if D j=true then none else w.nm j n)=_;rw[if_neg (by unfold iY at hq;intro e;rw[e]at hq;cases hq)];exact h⟩
variable{D:U2}
def Fj{w:NW}(r:aF w H)(hB:H.B.all (iY D)=true)(hl:kI D H.l):aF (w.cX D) ⟨H.B,gi D H.l⟩/\fU w H (w.cX D) ⟨H.B,gi D H.l⟩:=by
 have V9:∀j n,(w.cX D).nm j n=if D j=true then none else w.nm j n:=fun _ _=>rfl
 have gE:∀j,(Hp.mk H.B (gi D H.l)).get j=if D j=true then none else H.get j:=fun j=>El D H.l j
 refine⟨{ rows:=fun j s hj=>?_,dt:=fun j n z hz=>?_,inj:=fun j n j' n' b t s t' s' h1 h2=>?_,own:=fun j n b t s h=>?_,fin:=fun b hb=>r.fin b hb.1,bY:=r.bY.aU (sJ w D) },{ sJ w D with names:=fun j n z hq h=>?_,os:=rfl,tape:=rfl,output:=rfl,rest:=fun b hb hO Vd=>⟨rfl,⟨hO,fun i m t s _=>Vd _ _ _ _⟩,fun j n t s h=>?_⟩,base:=rfl }⟩
 ·rw[gE]at hj;split at hj
  ·cases hj
  ·rename_i e;obtain⟨h1,z,h2,h3⟩:=r.rows j s hj;refine⟨h1,z,by rw[V9,if_neg e];exact h2,?_⟩;cases z with
   |nil=>exact h3
   |«at» b t st=> obtain⟨g1,cur,g2,g3,g5⟩:=h3;exact⟨g1,cur,g2,g3,fun k a v ha hv=>(g5 k a v ha hv).aU (sJ w D) (mH (G1 hl hj (by simpa using e)) ha)⟩
 ·rw[V9]at hz;split at hz
  ·cases hz
  ·rename_i e;obtain⟨r',h1,h2⟩:=r.dt j n z hz;exact⟨r',by rw[gE,if_neg e];exact h1,h2⟩
 ·rw[V9]at h1 h2;split at h1
  ·cases h1
  ·split at h2
   ·cases h2
   ·exact r.inj _ _ _ _ _ _ _ _ _ h1 h2
 ·rw[V9]at h;split at h
  ·cases h
  ·rename_i e;exact⟨r.own _ _ _ _ _ h,fun i m t' s' hd h'=>e (by rw[r.inj _ _ _ _ _ _ _ _ _ h h'];exact hd)⟩
 ·have hq:H.B.contains j=true:=hq;have:=List.all_eq_true.1 hB j (List.contains_iff_mem.1 hq);rw[V9,if_neg (by intro e;unfold iY at this;rw[e]at this;cases this)];exact h
 ·rw[V9]at h;split at h
  ·cases h
  ·exact Vd _ _ _ _ h
inductive dn(D:Nat->Bool)(H:Hp):AV->AV->Prop
 |same (a:AV) (h:a.all (iY D)=true):dn D H a a
 |drop (a:AV):dn D H a .any
 |nil (sz:Nat) (d:List AV):dn D H (.raw (.slice none 0 0)) (.sl false sz [] d)
 |lit (x:Bool) (sz:Nat) (css:List (List AV)) (d d':List AV):dn D H (.sl x sz css d) (.sl false sz css d')
 |agg (cs ds:List AV) (hl:cs.length=ds.length) (h:∀(i:Nat) c d,cs[i]?=some c->ds[i]?=some d->dn D H c d):dn D H (.agg cs) (.agg ds)
 |aY (cs ds:List AV) (hl:cs.length=ds.length) (h:∀(i:Nat) c d,cs[i]?=some c->ds[i]?=some d->dn D H c d):dn D H (.aY cs) (.aY ds)
 |Dq (dd:List AV) (i sz m n:Nat) (e:TypeId) (css:List (List AV)) (dss:List (List AV)) (hD:D i=true) (hi:H.get i=some (.aD e sz css)) (hm:m=css.length) (hn:n<=m) (hd:dss.length=n) (Yl:∀ds∈dss,ds.length=sz) (Vd:QL eo dss)
   (h:∀k (j:Nat) c d,k<n->(css.getD k [])[j]?=some c->(dss.getD k [])[j]?=some d->dn D H c d):dn D H (.rs i m sz n) (.sl false sz dss dd)
 |pt (i k j:Nat) (t:TypeId) (cs ds:List AV) (hD:D i=true) (hi:H.get i=some (.var t cs)) (hl:(cs.drop j).length=ds.length) (Vd:aR eo ds=true) (h:∀(q:Nat) c d,(cs.drop j)[q]?=some c->ds[q]?=some d->dn D H c d):dn D H (.pt i 0 k j) (.ip ds)
def dn.sound{w:NW}(hw:aF w H){a:AV}(h:dn D H a a'):∀{v:Value},aw w a v->aw (w.cX D) a' v:=by
 induction h with
 |same a h=>intro v hv;exact hv.aU (sJ w D) h
 |drop a=>intro v hv;exact .any v
 |nil sz d=>intro v hv;have:=cZ hv;subst this;exact .hJ _ _ _ _ (fun e=>by cases e)
 |lit x sz css d d'=>
  intro v hv;have Ve:=hv.aU (sJ w D) (by simp only[AV.all]);cases Ve with
  |hJ _ _ A c _=>exact .hJ _ _ _ _ (fun e=>by cases e)
  |sl _ _ _ a c vs hn hc hx Vb hb hH D' hr=>exact .sl _ _ _ a c vs hn hc (fun e=>by cases e) Vb hb hH D' hr
 |agg cs ds hl _ ih=>
  intro v hv;cases hv with
  |agg _ vs Wv hr=>
   refine .agg ds vs jB fun i d v hd hv=>?_
   have hi:i<cs.length:=by rw[hl];exact(List.getElem?_eq_some_iff.1 hd).1
   have hc:cs[i]?=some cs[i]:=List.getElem?_eq_getElem hi;exact ih i _ d hc hd (hr i _ v hc hv)
 |aY cs ds hl _ ih=>
  intro v hv;cases hv with
  |aY _ vs Wv hr=>
   refine .aY ds vs jB fun i d v hd hv=>?_
   have hi:i<cs.length:=by rw[hl];exact(List.getElem?_eq_some_iff.1 hd).1
   have hc:cs[i]?=some cs[i]:=List.getElem?_eq_getElem hi;exact ih i _ d hc hd (hr i _ v hc hv)
 |Dq dd i sz m n e css dss hD hi hm hn hd Yl Vd _ ih=>
  intro v hv;subst hm;cases hv with
  |iH _ _ _ A Vh=> have:dss=[]:=List.length_eq_zero_iff.1 jB;rw[this];exact .hJ _ _ _ _ (fun h=>by cases h)
  |rs _ _ _ _ b t c Vh hc Vj Wp=>
   by_cases h0:n=0
   ·have:dss=[]:=List.length_eq_zero_iff.1 jB;rw[this,h0];exact .hJ _ _ _ _ (fun h=>by cases h)
   ·have hsz0:0<sz:=Wp;have:=aw.sl (w:=w.cX D) (d:=dd) false sz dss ⟨b,0,none⟩ c (fun k=>(w.cell? ⟨b,k,none⟩).getD undef) jB jB (fun h=>by cases h) Yl (hw.lt Vh) (fun h=>h.2 i _ t sz hD Vh) (fun k j hk hj=>by
     obtain⟨_,_,_,v,h1,h2⟩:=sG hw hi Vh (k:=k) (j:=j) jB hj;show w.cell? _=_;rw[j3,Nat.zero_add,h1];rfl) (fun k j u hk hu=>by
     have hj:j<sz:=by have:=(List.getElem?_eq_some_iff.1 hu).1;rwa [vu Yl hk]at this
     obtain⟨_,Vm,_,v,h1,h2⟩:=sG hw hi Vh (k:=k) (j:=j) jB hj;have hlc:=vu Vm (show k<css.length from jB);have hc:(css.getD k [])[j]?=some ((css.getD k [])[j]' jB):=List.getElem?_eq_getElem jB;rw[h1];have VO:dss.getD k []∈dss:=by
      have:dss.getD k []=dss[k]:=by simp[hk]
      rw[this];exact List.getElem_mem _
     exact(ih k j _ u jB hc hu (h2 _ hc)).lN (mH (Vd _ VO) hu))
    rw[hd]at this;exact this
 |pt i k j t cs ds hD hi hl Vd _ ih=>
  intro v hv;cases hv with
  |pt _ _ _ _ b t' s Vh=>
   obtain⟨hok,z,hz,Vl⟩:=hw.rows i _ hi;have:z=.at b t' s:=by have hz:w.nm i 0=some z:=hz;rw[Vh]at hz;cases hz;rfl
   subst this;obtain⟨rfl,cur,hh,⟨hs,Vj⟩,hr⟩:=Vl;have Wp:(Row.var t cs).bB=0:=rfl;have Vj:cs.length<=t':=Vj;have e0:k*(Row.var t cs).bB+j=j:=by rw[Wp];omega
   rw[e0];refine .ip ds ⟨b,j,none⟩ (fun q=>cur.getD (j+q) undef) (hw.lt Vh) (fun h=>h.2 i 0 _ _ hD Vh) (fun q hq=>?_) (fun q u hu=>?_)
   ·show w.cell? _=_;simp only[List.length_drop]at hl;have:j+q<cur.size:=jB;rw[j3,td b _ cur _ (0,0) hh];simp[this]
   ·have hql:q<(cs.drop j).length:=by rw[hl];exact(List.getElem?_eq_some_iff.1 hu).1
    have hc:(cs.drop j)[q]?=some (cs.drop j)[q]:=List.getElem?_eq_getElem hql;simp only[List.length_drop]at hql;have:j+q<cur.size:=jB;refine(ih q _ u hc hu (hr (j+q) _ _ (by rw[<-List.getElem?_drop];exact hc) ?_)).lN (mH Vd hu);simp[this]
theorem dn.rs{D:U2}{H:Hp}(dd:US)(i sz n:Nat)(e:UY)(css:UQ)(dss:UQ)(hD:D i=true)(hi:H.get i=some (.aD e sz css))(hn:n=css.length)(hd:dss.length=css.length)(Yl:∀ds∈dss,ds.length=sz)(Vd:QL eo dss)
  (h:∀k (j:Nat) c d,k<css.length->(css.getD k [])[j]?=some c->(dss.getD k [])[j]?=some d->dn D H c d):dn D H (.rs i n sz n) (.sl false sz dss dd):=
 .Dq dd i sz n n e css dss hD hi hn jl jB Yl Vd fun k j c d hk=>h k j c d jB
def dn.row{dd:US}{i:Nat}{e:UY}{enc:α->US}[he:bD enc sz](l:List α)(hD:D i=true)(hi:H.get i=some (.aD e sz (l.map enc)))(hn:n=l.length):dn D H (.rs i n sz n) (.sl false sz (l.map enc) dd):=
 .rs dd i sz n e _ _ hD hi (by simpa using hn) rfl (fun ds Yl=>by obtain⟨x,_,rfl⟩:=List.mem_map.1 Yl;exact he.len x) (oJ l) fun k j c d hk h1 h2=>by
  rw[h1]at h2;cases h2;have Vn:k<l.length:=by simpa using hk
  have e1:(l.map enc).getD k []=enc l[k]:=by simp[Vn]
  rw[e1]at h1;exact .same c (rA (fun _ h=>by cases h) _ (mH (he.free _) h1))
def iN.free{r r':AV}(D:U2)(hB:H.B.all (iY D)=true)(hl:kI D H.l)(hv:dn D H r r'):iN r H r' ⟨H.B,gi D H.l⟩:=fun w v h1 h2=>by obtain⟨a,b⟩:=Fj h1 hB hl;exact⟨w.cX D,rfl,a,hv.sound h1 h2,b⟩
def cn(D:U2)(H:Hp):US->US->Prop
 |[],[]=>True
 |a::l,b::m=>dn D H a b/\cn D H l m
 |_,_=>False
theorem cn.get{D:U2}{H:Hp}:∀{l m:US},cn D H l m->l.length=m.length/\∀(i:Nat) a b,l[i]?=some a->m[i]?=some b->dn D H a b
 |[],[],_=>⟨rfl,fun i a b h=>by simp at h⟩
 |x::l,y::m,h=>by
  have ih:=cn.get h.2;refine⟨by simp[ih.1],fun i a b ha hb=>?_⟩;cases i with
  |zero=>simp at ha hb;subst ha hb;exact h.1
  |succ i=>exact ih.2 i a b (by simpa using ha) (by simpa using hb)
theorem cn.agg{D:U2}{H:Hp}{cs ds:US}(h:cn D H cs ds):dn D H (.agg cs) (.agg ds):=.agg cs ds h.get.1 h.get.2
theorem cn.aY{D:U2}{H:Hp}{cs ds:US}(h:cn D H cs ds):dn D H (.aY cs) (.aY ds):=.aY cs ds h.get.1 h.get.2
def dM.free{F F':US}(D:U2)(hB:H.B.all (iY D)=true)(hl:kI D H.l)(hv:cn D H F F'):dM F H F' ⟨H.B,gi D H.l⟩:=fun w tm h1 h2=>by
 obtain⟨a,b⟩:=Fj h1 hB hl;obtain⟨Wv,hg⟩:=hv.get;refine⟨w.cX D,rfl,a,⟨by rw[<-Wv];exact h2.1,fun i c v hc hv=>?_⟩,b⟩;have hi:i<F.length:=by rw[Wv];exact(List.getElem?_eq_some_iff.1 hc).1
 exact(hg i F[i] c (List.getElem?_eq_getElem hi) hc).sound h1 (h2.2 i _ v (List.getElem?_eq_getElem hi) hv)
-- what is lent: a function that is Z4 nothing of one's own but to read
mutual
def AV.flat:AV->Bool
 |.raw _=>true
 |.any=>true
 |.agg cs=>Ag cs
 |.aY cs=>Ag cs
 |.gd _ v=>v.flat
 |_=>false
def Ag:US->Bool
 |[]=>true
 |a::l=>a.flat && Ag l
end
-- a slot that holds nothing yet, as a row of one's own without elements
theorem dM.nil{F:US}{H:Hp}(i slot:Nat)(e:UY){sz:Nat}(hi:H.get i=none)(h0:0<sz)(hs:F[slot]?=some (.raw (.slice none 0 0))\/∃x s d,F[slot]?=some (.sl true s x d)/\x=[]):dM F H (F.set slot (.rs i 0 sz 0)) (H.put i (.aD e sz [])):=fun w tm h1 h2=>by
 obtain⟨a,b⟩:=yc h1 hi e h0;refine⟨w.name i 0 .nil,rfl,a,⟨by rw[List.length_set];exact h2.1,fun k c v hc hv=>?_⟩,b.qA⟩;rw[List.getElem?_set]at hc;by_cases hk:slot=k
 ·subst hk;rw[if_pos rfl]at hc;split at hc
  ·cases hc;have Ve:∃A,v=.slice A 0 0:=by
    rcases hs with hs|⟨x,s,d,hs,rfl⟩
    ·exact⟨none,by have:=h2.2 slot _ v hs hv;cases this;rfl⟩
    ·have:=h2.2 slot _ v hs hv;cases this with
     |hJ _ _ A c hx=>have:=hx rfl;subst this;exact⟨A,rfl⟩
     |sl _ _ _ _ _ _ hn=>simp at hn
   obtain⟨A,rfl⟩:=Ve;exact .iH _ _ _ _ (NW.ci _ _ _ _)
  ·cases hc
 ·rw[if_neg hk]at hc;exact(h2.2 k c v hc hv).ext b
def nth{α:Type}[Inhabited α](l:List α)(i:Nat):α:=l.getD i default
variable{α:Type}{i:Nat}
def ee[Inhabited α]{l:List α}(h:i<l.length):nth l i=l[i]:=by simp[nth,h]
def nA[Inhabited α]{l:List α}(h:i<l.length):l.take (i+1)=l.take i++[nth l i]:=by rw[ee h,List.take_succ_eq_append_getElem h]
@[reducible] def aO{α:Type}[Inhabited α](enc:α->US)(sz:Nat)(l:List α):AV:=.sl false sz (l.map enc) (enc default)
@[go_sem] def jym:(∀(next:UO) (Q:Exit->UO) (F:US) (H:Hp),uq next Q .normal F H=next F H)/\(∀(next:UO) (Q:Exit->UO) (F:US) (H:Hp),uq next Q .ret F H=Q .ret F H)/\(∀(next:UO) (Q:Exit->UO) (id:Nat) (F:US) (H:Hp),uq next Q (.exit id) F H=Q (.exit id) F H)/\(∀(id:Nat) (Q:Exit->UO) (F:US) (H:Hp),sU id Q .normal F H=Q .normal F H)/\(∀(id:Nat) (Q:Exit->UO) (F:US) (H:Hp),sU id Q .ret F H=Q .ret F H):=by and_intros<;>(intros;rfl)
@[go_sem] def jzx(id:Nat)(Q:Exit->UO)(F:US)(H:Hp):sU id Q (.exit id) F H=Q .normal F H:=by simp[sU]
def AP(K:UP)(_:ix K):UP:=K
def wk(K:AV->Prop)(_:ix K):AV->Prop:=K
@[go_sem] def j6p:(∀(K:UP) (d:ix K) (r:AV) (H:Hp),AP K d r H=K r H)/\(∀(K:AV->Prop) (d:ix K) (r:AV),wk K d r=K r):=by and_intros<;>(intros;rfl)
variable{r:AV}{H:Hp}
def Ta{K:UP}{d:ix K}(h:K r H):AP K d r H:=h
def rn(o:Option Bool)(A:Bool->Prop)(_:ix A):Prop:=match o with
 |some b=>A b
 |none=>False
@[go_sem] def j1Z(b:Bool)(A:Bool->Prop)(d:ix A):rn (some b) A d=A b:=(rfl)
def pX(q:Bool)(A B:Prop)(_:ix A)(_:ix B):Prop:=if q=true then A else B
@[go_sem] def j7Y:(∀(A B:Prop) (d:ix A) (e:ix B),pX true A B d e=A)/\(∀(A B:Prop) (d:ix A) (e:ix B),pX false A B d e=B)/\(∀{P:U3} {ops:Array Oper} {K:UO} (F:US) (H:Hp),lD P ops K [] F H=K F H):=by and_intros<;>(intros;rfl)
variable{P:U3}{ops:Array Oper}{K:UO}
@[go_sem] def j8i(dst:Option Tmp)(op:Op)(ty:UY)(pos:String)(after:Array Edge)(rest:List Oper)(F:US)(H:Hp) :
  lD P ops K (⟨dst,op,ty,pos,after,none⟩::rest) F H=vc P (bM F) H ty (AP (fun r H'=>lD P ops K rest (cr F dst r) H') .mk) op:=(rfl)
@[go_sem] def j6c(dst:Option Tmp)(op:Op)(ty:UY)(pos:String)(after:Array Edge)(j:Nat)(want:Bool)(rest:List Oper)(F:US)(H:Hp) :
  lD P ops K (⟨dst,op,ty,pos,after,some (j,want)⟩::rest) F H=rn (mo ops F j want) (fun b=>pX (jm op || iT op) (eJ P F H b (wk (fun r=>lD P ops K rest (cr F dst r) H) .mk) op)
    ((b=true->vc P (bM F) H ty (AP (fun r H'=>lD P ops K rest (cr F dst r) H') .mk) op)/\(b=false->lD P ops K rest (cr F dst .any) H)) .mk .mk) .mk:=by
 unfold rn pX;rfl
@[go_sem] def j29(a:Nat):((a:Int)+1).toNat=a+1:=jB
@[go_sem] def j3a(a b:Nat):((a:Int)-(b:Int)).toNat=a-b:=jB
@[go_sem] def j3b(a:Nat):((a:Int)-1).toNat=a-1:=jB
attribute [go_sem] Int.cast_ofNat_Int
def rD{n:Int}(h:-9223372036854775808<=n/\n<=9223372036854775807):IntKind.i64.wrap n=n:=by have h1:(2:Int) ^ 64=18446744073709551616:=jC;have h2:(2:Int) ^ (64-1)=9223372036854775808:=jC;simp only[IntKind.wrap,IntKind.bits,IntKind.signed,Bool.true_and,h1,h2,decide_eq_true_eq];split<;>omega
variable{fn:Func}{F:US}
def SY{f:FuncId}{c:Code}{args:US}(hf:P.funcs[f]?=some fn)(hb:fn.body=some c)(hF:args++List.replicate (fn.ntmps-args.length) .any=F)
  (h:dJ P c (mw P fn fun r' l'=>r'=r/\l'=[]) F ⟨[],[]⟩):aL P f args r:=Kl hf hb (by rw[hF];exact h)
variable{l:UR}{R:AV->List U5->Prop}
def NU{f:FuncId}{c:Code}{args:US}(hf:P.funcs[f]?=some fn)(hb:fn.body=some c)(hF:args++List.replicate (fn.ntmps-args.length) .any=F){L:UW}(hL:ids l=L)
  (h:dJ P c (mw P fn R) F ⟨L,l⟩):ab P f args l R:=Kl hf hb (by rw[hF];subst hL;exact h)
section
variable {P:U3}{ev:UZ}{H:Hp}{ty:UY}{K:UP}
@[go_sem] def j9V(x:Operand):vc P ev H ty K (.move x)=K (ev x) H:=by simp[vc,di,vq]
@[go_sem] def j53(x:Operand):vc P ev H ty K (.assign x)=K (ev x) H:=by simp[vc,di,vq]
@[go_sem] def j9W(c a b:Operand):vc P ev H ty K (.pick c a b)=((ow (ev c) (ev a) (ev b)).1/\K (ow (ev c) (ev a) (ev b)).2 H):=by simp[vc,di,vq]
@[go_sem] def j19(x:Operand):vc P ev H ty K (.nilCheck x)=((qa P (ev x)).1/\K (qa P (ev x)).2 H):=by simp[vc,di,vq]
@[go_sem] def j9X(op:UnOp)(t:UY)(x:Operand):vc P ev H ty K (.unOp op t x)=((tz op (ev x)).1/\K (tz op (ev x)).2 H):=by simp[vc,di,vq]
@[go_sem] def j9U(t:UY)(x:Operand):vc P ev H ty K (.load t x)=((oq P H t (ev x)).1/\K (oq P H t (ev x)).2 H):=by simp[vc,di,vq]
@[go_sem] def jzj(t:UY)(x:Operand)(f:Nat):vc P ev H ty K (.fieldAddr t x f)=((qz P t (ev x) f).1/\K (qz P t (ev x) f).2 H):=by simp[vc,di,vq]
@[go_sem] def j8a(t:UY)(x:Operand)(f:Nat):vc P ev H ty K (.field t x f)=((wC P t (ev x) f).1/\K (wC P t (ev x) f).2 H):=by simp[vc,di,vq]
@[go_sem] def jzk(t:UY)(x i:Operand):vc P ev H ty K (.indexAddr t x i)=((sT P t (ev x) (ev i)).1/\K (sT P t (ev x) (ev i)).2 H):=by simp[vc,di,vq]
@[go_sem] def j8b(t:UY)(x i:Operand):vc P ev H ty K (.index t x i)=((tJ P t (ev x) (ev i)).1/\K (tJ P t (ev x) (ev i)).2 H):=by simp[vc,di,vq]
@[go_sem] def j3i(x:Operand)(i:Nat):vc P ev H ty K (.extract x i)=((vG (ev x) i).1/\K (vG (ev x) i).2 H):=by simp[vc,di,vq]
@[go_sem] def j8c(t:UY)(a:Operand)(lo hi mx:Option Operand):vc P ev H ty K (.slice t a lo hi mx)=((tK P t (ev a) (lo.map ev) (hi.map ev) (mx.map ev)).1/\K (tK P t (ev a) (lo.map ev) (hi.map ev) (mx.map ev)).2 H):=by simp[vc,di,vq]
@[go_sem] def j18(fn:Fn)(a b:Array Operand):vc P ev H ty K (.makeFunc fn a b)=((vk fn (a.toList.map ev) (b.toList.map ev)).1/\K (vk fn (a.toList.map ev) (b.toList.map ev)).2 H):=by simp[vc,di,vq]
@[go_sem] def jzl(t:UY)(x:Operand):vc P ev H ty K (.makeInterface t x)=((vA P t (ev x)).1/\K (vA P t (ev x)).2 H):=by simp[vc,di,vq]
@[go_sem] def j3h(s d:UY)(x:Operand):vc P ev H ty K (.convert s d x)=((wK P s d (ev x)).1/\K (wK P s d (ev x)).2 H):=by simp[vc,di,vq]
@[go_sem] def j79(t:UY)(ps:Array (Nat×Operand)):vc P ev H ty K (.build t ps)=((wJ P t (ps.toList.map fun p=>(p.1,ev p.2))).1/\K (wJ P t (ps.toList.map fun p=>(p.1,ev p.2))).2 H):=by simp[vc,di,vq]
@[go_sem] def qd9(as:Array Operand)(ts:Array UY):vc P ev H ty K (.call ⟨.builtin .len,as,ts⟩)=((lP P H .len ts.toList (as.toList.map ev)).1/\K (lP P H .len ts.toList (as.toList.map ev)).2 H):=by simp[vc,di,vq]
@[go_sem] def qd5(as:Array Operand)(ts:Array UY):vc P ev H ty K (.call ⟨.builtin .cap,as,ts⟩)=((lP P H .cap ts.toList (as.toList.map ev)).1/\K (lP P H .cap ts.toList (as.toList.map ev)).2 H):=by simp[vc,di,vq]
@[go_sem] def qec(as:Array Operand)(ts:Array UY):vc P ev H ty K (.call ⟨.builtin .max,as,ts⟩)=((lP P H .max ts.toList (as.toList.map ev)).1/\K (lP P H .max ts.toList (as.toList.map ev)).2 H):=by simp[vc,di,vq]
@[go_sem] def qed(as:Array Operand)(ts:Array UY):vc P ev H ty K (.call ⟨.builtin .min,as,ts⟩)=((lP P H .min ts.toList (as.toList.map ev)).1/\K (lP P H .min ts.toList (as.toList.map ev)).2 H):=by simp[vc,di,vq]
@[go_sem] def qd3(t:UY)(x y:Operand)(t':UY):vc P ev H ty K (.binOp .add t x y t')=((fp P .add t (ev x) (ev y)).1/\K (fp P .add t (ev x) (ev y)).2 H):=by simp[vc,di,vq]
@[go_sem] def qei(t:UY)(x y:Operand)(t':UY):vc P ev H ty K (.binOp .sub t x y t')=((fp P .sub t (ev x) (ev y)).1/\K (fp P .sub t (ev x) (ev y)).2 H):=by simp[vc,di,vq]
@[go_sem] def qee(t:UY)(x y:Operand)(t':UY):vc P ev H ty K (.binOp .mul t x y t')=((fp P .mul t (ev x) (ev y)).1/\K (fp P .mul t (ev x) (ev y)).2 H):=by simp[vc,di,vq]
@[go_sem] def qeg(t:UY)(x y:Operand)(t':UY):vc P ev H ty K (.binOp .quo t x y t')=((fp P .quo t (ev x) (ev y)).1/\K (fp P .quo t (ev x) (ev y)).2 H):=by simp[vc,di,vq]
@[go_sem] def qeh(t:UY)(x y:Operand)(t':UY):vc P ev H ty K (.binOp .rem t x y t')=((fp P .rem t (ev x) (ev y)).1/\K (fp P .rem t (ev x) (ev y)).2 H):=by simp[vc,di,vq]
@[go_sem] def qeb(t:UY)(x y:Operand)(t':UY):vc P ev H ty K (.binOp .lss t x y t')=((fp P .lss t (ev x) (ev y)).1/\K (fp P .lss t (ev x) (ev y)).2 H):=by simp[vc,di,vq]
@[go_sem] def qea(t:UY)(x y:Operand)(t':UY):vc P ev H ty K (.binOp .leq t x y t')=((fp P .leq t (ev x) (ev y)).1/\K (fp P .leq t (ev x) (ev y)).2 H):=by simp[vc,di,vq]
@[go_sem] def qd8(t:UY)(x y:Operand)(t':UY):vc P ev H ty K (.binOp .gtr t x y t')=((fp P .gtr t (ev x) (ev y)).1/\K (fp P .gtr t (ev x) (ev y)).2 H):=by simp[vc,di,vq]
@[go_sem] def qd7(t:UY)(x y:Operand)(t':UY):vc P ev H ty K (.binOp .geq t x y t')=((fp P .geq t (ev x) (ev y)).1/\K (fp P .geq t (ev x) (ev y)).2 H):=by simp[vc,di,vq]
@[go_sem] def qd6:(∀(t:UY) (x y:Operand) (t':UY),vc P ev H ty K (.binOp .eql t x y t')=qx P false t (ev x) (ev y) H K)/\(∀(t:UY) (x y:Operand) (t':UY),vc P ev H ty K (.binOp .neq t x y t')=qx P true t (ev x) (ev y) H K)/\(∀(t:UY) (x:Operand),vc P ev H ty K (.box t x)=rR H t (ev x) K)/\(∀(t:UY),vc P ev H ty K (.alloc t)=nZ P H t K)/\(∀(t:UY) (a x:Operand),vc P ev H ty K (.store t a x)=wN P H t (ev a) (ev x) K)/\(∀(t:UY) (n:Nat) (ps:Array (Nat×Operand)),vc P ev H ty K (.buildSlice t n ps)=pk P H t n (ps.toList.map fun p=>(p.1,ev p.2)) K)/\(∀(f:Operand) (as:Array Operand) (ts:Array UY),vc P ev H ty K (.call ⟨.value f,as,ts⟩)=eQ P (ev f) (as.toList.map ev) H K)/\(∀(f:Operand) (m:String) (as:Array Operand) (ts:Array UY),vc P ev H ty K (.call ⟨.invoke f m,as,ts⟩)=qW P (ev f) m (as.toList.map ev) H K):=by and_intros<;>(intros;rfl)
@[go_sem] def j10(t:UY)(v:AV)(m:String)(args:US):qW P (.iS t v) m args H K=match oS P t m with|some f=>eQ P (.raw (.func (.func f) #[] #[])) (v::args) H K|none=>False:=(rfl)
@[go_sem] def j52(t:UY)(a x:Operand):vc P ev H ty K (.call ⟨.builtin .append,#[a,x],#[t,t]⟩)=sf P t t (ev a) (ev x) H K:=by simp[vc]
@[go_sem] def j17(t t':UY)(a x:Operand):vc P ev H ty K (.call ⟨.builtin .append,#[a,x],#[t,t']⟩)=sf P t t' (ev a) (ev x) H K:=by simp[vc]
@[go_sem] def j9T(as:Array Operand)(ts:Array UY):vc P ev H ty K (.call ⟨.builtin .copy,as,ts⟩)=re P .copy ts.toList (as.toList.map ev) H K:=by simp[vc,di]
end
section
variable {P:U3}{F:US}{H:Hp}{g:Bool}{K:AV->Prop}
@[go_sem] def j92(c a b:Operand):eJ P F H g K (.pick c a b)=((g=true->(jZ (bM F c)).1=true/\(ow (bK F c) (bM F a) (bM F b)).1)/\K (.gd g (ow (bK F c) (bM F a) (bM F b)).2)):=(rfl)
@[go_sem] def j2d(x:Operand):eJ P F H g K (.nilCheck x)=((g=true->gp F (.nilCheck x)=true/\(qa P (bK F x)).1)/\K (.gd g (qa P (bK F x)).2)):=by simp[eJ,iT,di,vq]
@[go_sem] def j93(op:UnOp)(t:UY)(x:Operand):eJ P F H g K (.unOp op t x)=((g=true->gp F (.unOp op t x)=true/\(tz op (bK F x)).1)/\K (.gd g (tz op (bK F x)).2)):=by simp[eJ,iT,di,vq]
@[go_sem] def j90(t:UY)(x:Operand):eJ P F H g K (.load t x)=((g=true->gp F (.load t x)=true/\(oq P H t (bK F x)).1)/\K (.gd g (oq P H t (bK F x)).2)):=by simp[eJ,iT,di,vq]
@[go_sem] def jzm(t:UY)(x:Operand)(f:Nat):eJ P F H g K (.fieldAddr t x f)=((g=true->gp F (.fieldAddr t x f)=true/\(qz P t (bK F x) f).1)/\K (.gd g (qz P t (bK F x) f).2)):=by simp[eJ,iT,di,vq]
@[go_sem] def jzn(t:UY)(x i:Operand):eJ P F H g K (.indexAddr t x i)=((g=true->gp F (.indexAddr t x i)=true/\(sT P t (bK F x) (bK F i)).1)/\K (.gd g (sT P t (bK F x) (bK F i)).2)):=by simp[eJ,iT,di,vq]
@[go_sem] def j8j(t:UY)(x i:Operand):eJ P F H g K (.index t x i)=((g=true->gp F (.index t x i)=true/\(tJ P t (bK F x) (bK F i)).1)/\K (.gd g (tJ P t (bK F x) (bK F i)).2)):=by simp[eJ,iT,di,vq]
@[go_sem] def j8k(t:UY)(a:Operand)(lo hi mx:Option Operand):eJ P F H g K (.slice t a lo hi mx)=((g=true->gp F (.slice t a lo hi mx)=true/\(tK P t (bK F a) (lo.map (bK F)) (hi.map (bK F)) (mx.map (bK F))).1)/\K (.gd g (tK P t (bK F a) (lo.map (bK F)) (hi.map (bK F)) (mx.map (bK F))).2)):=by simp[eJ,iT,di,vq]
@[go_sem] def qen(as:Array Operand)(ts:Array UY):eJ P F H g K (.call ⟨.builtin .len,as,ts⟩)=((g=true->gp F (.call ⟨.builtin .len,as,ts⟩)=true/\(lP P H .len ts.toList (as.toList.map (bK F))).1)/\K (.gd g (lP P H .len ts.toList (as.toList.map (bK F))).2)):=by simp[eJ,iT,di,vq]
@[go_sem] def qej(t:UY)(x y:Operand)(t':UY):eJ P F H g K (.binOp .add t x y t')=((g=true->gp F (.binOp .add t x y t')=true/\(fp P .add t (bK F x) (bK F y)).1)/\K (.gd g (fp P .add t (bK F x) (bK F y)).2)):=by simp[eJ,iT,di,vq]
@[go_sem] def qep(t:UY)(x y:Operand)(t':UY):eJ P F H g K (.binOp .lss t x y t')=((g=true->gp F (.binOp .lss t x y t')=true/\(fp P .lss t (bK F x) (bK F y)).1)/\K (.gd g (fp P .lss t (bK F x) (bK F y)).2)):=by simp[eJ,iT,di,vq]
@[go_sem] def qeo(t:UY)(x y:Operand)(t':UY):eJ P F H g K (.binOp .leq t x y t')=((g=true->gp F (.binOp .leq t x y t')=true/\(fp P .leq t (bK F x) (bK F y)).1)/\K (.gd g (fp P .leq t (bK F x) (bK F y)).2)):=by simp[eJ,iT,di,vq]
@[go_sem] def qem(t:UY)(x y:Operand)(t':UY):eJ P F H g K (.binOp .gtr t x y t')=((g=true->gp F (.binOp .gtr t x y t')=true/\(fp P .gtr t (bK F x) (bK F y)).1)/\K (.gd g (fp P .gtr t (bK F x) (bK F y)).2)):=by simp[eJ,iT,di,vq]
@[go_sem] def qel(t:UY)(x y:Operand)(t':UY):eJ P F H g K (.binOp .geq t x y t')=((g=true->gp F (.binOp .geq t x y t')=true/\(fp P .geq t (bK F x) (bK F y)).1)/\K (.gd g (fp P .geq t (bK F x) (bK F y)).2)):=by simp[eJ,iT,di,vq]
@[go_sem] def j91(x:Operand):eJ P F H g K (.move x)=((g=true->gp F (.move x)=true)/\K (.gd g (bK F x))):=by simp[eJ,iT,di,vq]
@[go_sem] def qek(t:UY)(x y:Operand)(t':UY):eJ P F H g K (.binOp .eql t x y t')=((g=true->gp F (.binOp .eql t x y t')=true/\(fp P .eql t (bK F x) (bK F y)).1)/\K (.gd g (fp P .eql t (bK F x) (bK F y)).2)):=by simp[eJ,iT,vq]
@[go_sem] def qeq(t:UY)(x y:Operand)(t':UY):eJ P F H g K (.binOp .neq t x y t')=((g=true->gp F (.binOp .neq t x y t')=true/\(fp P .neq t (bK F x) (bK F y)).1)/\K (.gd g (fp P .neq t (bK F x) (bK F y)).2)):=by simp[eJ,iT,vq]
@[go_sem] def j6d:(∀(f:Operand) (m:String) (as:Array Operand) (ts:Array UY),eJ P F H g K (.call ⟨.invoke f m,as,ts⟩)=∃r,(g=true->gp F (.call ⟨.invoke f m,as,ts⟩)=true/\qW P (bK F f) m (as.toList.map (bK F)) H fun r' H'=>r'=r/\H'=H)/\K (.gd g r))/\(∀(f:Operand) (as:Array Operand) (ts:Array UY),eJ P F H g K (.call ⟨.value f,as,ts⟩)=∃r,(g=true->gp F (.call ⟨.value f,as,ts⟩)=true/\eQ P (bK F f) (as.toList.map (bK F)) H fun r' H'=>r'=r/\H'=H)/\K (.gd g r)):=by and_intros<;>(intros;rfl)
@[go_sem] def j8A:(∀(t:Tmp),bM F (.tmp t)=F.getD t .any)/\(∀(v:Value),bM F (.const v)=.raw v)/\(∀(f:FuncId),bM F (.func f)=.raw (.func (.func f) #[] #[]))/\(∀(d:Tmp) (a:AV),cr F (some d) a=F.set d a)/\(∀(a:AV),cr F none a=F):=by and_intros<;>(intros;rfl)
end
attribute [go_sem] bK gp jZ mo jm iT di ow qa yC Ah xr fp tz oq qj qz wC Aj sT tJ vG q9 tK Jx vk vA wK u6 Ae wV lP rQ wJ wN qx pk kT
attribute [go_sem] cI Op.operands Call.operands xy
section
@[go_sem] def j3F:(∀(cs:US),(AV.agg cs).cells=cs)/\(∀(k:IntKind) (n:Int),(AV.raw (.int k n)).cells=[.raw (.int k n)])/\(∀(s:UX),(AV.raw (.string s)).cells=[.raw (.string s)])/\(∀(a:Option Addr) (n c:Nat),(AV.raw (.slice a n c)).cells=[.raw (.slice a n c)])/\(∀(x:Bool) (sz:Nat) (css:UQ) (d:US),(AV.sl x sz css d).cells=[.sl x sz css d])/\(∀(i m k j:Nat),(AV.pt i m k j).cells=[.pt i m k j])/\(∀(i m k j:Nat),(AV.rs i m k j).cells=[.rs i m k j])/\(∀(k:IntKind) (n:Int),(AV.raw (.int k n)).one=true)/\(∀(s:UX),(AV.raw (.string s)).one=true)/\(∀(a:Option Addr) (n c:Nat),(AV.raw (.slice a n c)).one=true)/\(∀(x:Bool) (sz:Nat) (css:UQ) (d:US),(AV.sl x sz css d).one=true)/\(∀(i m k j:Nat),(AV.pt i m k j).one=true)/\(∀(i m k j:Nat),(AV.rs i m k j).one=true):=by and_intros<;>(intros;rfl)
end
attribute [go_sem] Hp.get Hp.put az aZ AD gB entry ids wB C7 zD room zy CW mX
attribute [go_sem] AV.all aR eo AV.flat Ag xm rJ si oO kI gi iY JF Em cn
@[go_sem] def j4B(sz:Nat):Good sz []=True:=by simp[NQ]
@[go_sem] def j2V(sz:Nat)(cs:US)(css:UQ):Good sz (cs::css)=((cs.length=sz/\cI cs=true)/\Good sz css):=by simp[Good]
@[go_sem] def j4A(enc:α->US)(sz:Nat)[bD enc sz](l:List α):Good sz (l.map enc)=True:=by simp[Ng]
@[go_sem] def j9B(q:U2):QL q []=True:=by simp[TH]
@[go_sem] def j7T(q:U2)(cs:US)(css:UQ):QL q (cs::css)=(aR q cs=true/\QL q css):=by simp[QL]
@[go_sem] def j27(q:U2)(a b:UQ):QL q (a++b)=(QL q a/\QL q b):=by apply propext;exact⟨fun h=>⟨fun c hc=>h c (List.mem_append_left _ hc),fun c hc=>h c (List.mem_append_right _ hc)⟩,fun h=>SE h.1 h.2⟩
variable{sz:Nat}
@[go_sem] def j9A(q:U2)(enc:α->US)[bD enc sz](l:List α):QL q (l.map enc)=True:=by simp[oJ]
@[go_sem] def j4z[Inhabited α](enc:α->US)(l:List α)(k:Nat)(h:k<l.length):(l.map enc).getD k []=enc (nth l k):=by simp[nth,h]
@[go_sem] def j2U[Inhabited α](enc:α->US)(l:List α)(k:Nat):(l.map enc).getD k (enc default)=enc (nth l k):=by unfold nth;rcases Nat.lt_or_ge k l.length with h|h<;>simp[h]
@[go_sem] def j5b(enc:α->US)(l:List α)(k:Nat):(l.map enc).drop k=(l.drop k).map enc:=jE
@[go_sem] def j5c(enc:α->US)(l:List α)(k:Nat):(l.map enc).take k=(l.take k).map enc:=jE
@[go_sem] def j5N(l:List α):l.take l.length=l:=jE
@[go_sem] def j08{β:Type}(f:α->β)(l:List α):(l.map f).length=l.length:=jE
@[go_sem] def jvU(a b:List α):(a++b).length=a.length+b.length:=jE
@[go_sem] def j1f{β:Type}(f:α->β)(a b:List α):(a++b).map f=a.map f++b.map f:=jE
@[go_sem] def jwu(i:Nat):([]:UW).contains i=false:=(rfl)
@[go_sem] def jvR(i j:Nat)(l:UW):(j::l).contains i=(i == j || l.contains i):=List.contains_cons
@[go_sem] def j1F(e e':UY)(sz sz':Nat)(a b:UQ):(Row.aD e sz a=Row.aD e' sz' b)=(e=e'/\sz=sz'/\a=b):=jE
@[go_sem] def j1E(e e':UY)(a b:US):(Row.var e a=Row.var e' b)=(e=e'/\a=b):=jE
attribute [go_sem] List.getD_cons_zero List.getD_cons_succ List.getD_nil List.set_cons_zero List.set_cons_succ List.set_nil List.map_nil List.map_cons List.getElem?_cons_zero List.getElem?_cons_succ List.getElem?_nil List.getElem?_toArray List.all_nil List.all_cons List.append_nil List.nil_append List.cons_append List.length_cons List.length_nil List.take_succ_cons List.take_zero List.take_nil List.drop_succ_cons List.drop_zero List.drop_nil List.flatten_nil List.flatten_cons
def Rv(b:Bool):(b == true)=b:=by cases b<;>rfl
def RF(b:Bool):(b == false)=!b:=by cases b<;>rfl
attribute [go_sem] if_true if_false true_and and_true false_and and_false Option.map_some Option.map_none Option.getD_some Option.getD_none Option.bind_some Option.bind_none Option.isSome_some Option.isNone_some Option.isNone_none Option.some.injEq Bool.and_true Bool.true_and Bool.and_self Bool.not_true Bool.not_false Rv RF Bool.false_eq_true Bool.true_eq_false reduceCtorEq imp_self implies_true forall_const or_true true_or or_self or_false false_or not_true_eq_false not_false_eq_true eq_self ne_eq and_self List.foldl_cons List.foldl_nil Bool.not_eq_true' Bool.or_true Bool.or_false Bool.true_or Bool.false_or decide_true decide_false Nat.zero_add Nat.add_zero Nat.le_refl Int.toNat_natCast
@[go_sem] def j2o(c x:Bool):yf c x false=(c && x):=by cases c<;>rfl
@[go_sem] def j3E(c y:Bool):yf c true y=(c || y):=by cases c<;>rfl
@[go_sem] def j3q(b:Bool):(false ^^ b)=b:=by cases b<;>rfl
@[go_sem] def j6l(b:Bool):(true ^^ b)=!b:=by cases b<;>rfl
@[go_sem] def jvP(id id':Nat)(Q:Exit->UO)(F:US)(H:Hp):sU id Q (.exit id') F H=if id'=id then Q .normal F H else Q (.exit id') F H:=(rfl)
def oR(J:List (Nat×AV))(F:US):US:=J.foldl (fun F p=>F.set p.1 p.2) F
attribute [go_sem] oR ph ER List.replicate_succ List.replicate_zero
def Next(n:Nat){S:Type}(W:List (Nat×Nat))(ok:S->Prop)(J:S->List (Nat×AV))(G:S->Hp)(μ:S->Nat)(F₀ F:US)(H:Hp):Prop:=∃s,μ s<n/\dM F H (oR (J s) (ph W F₀)) (G s)/\ok s
variable{n:Nat}{W:List (Nat×Nat)}{F₀:US}
def dO{S:Type}{ok:S->Prop}{J:S->List (Nat×AV)}{G:S->Hp}{μ:S->Nat}(s:S)(h1:ok s)(h2:μ s<n)(h4:H=G s)(h3:kS F (oR (J s) (ph W F₀))):Next n W ok J G μ F₀ F H:=⟨s,h2,by rw[<-h4];exact dM.pt H h3,h1⟩
def Is{S:Type}{ok:S->Prop}{J:S->List (Nat×AV)}{G:S->Hp}{μ:S->Nat}(D:U2)(s:S)(h1:ok s)(h2:μ s<n)(hB:H.B.all (iY D)=true)(hl:kI D H.l)(h4:⟨H.B,gi D H.l⟩=G s)(h3:cn D H F (oR (J s) (ph W F₀))):Next n W ok J G μ F₀ F H:=⟨s,h2,by rw[<-h4];exact dM.free D hB hl h3,h1⟩
def dw{c:Code}{Q:Exit->UO}{S:Type}(W:List (Nat×Nat))(ok:S->Prop)(J:S->List (Nat×AV))(G:S->Hp)(μ:S->Nat)(s₀:S)(h0:ok s₀)(Vj:dM F H (oR (J s₀) (ph W F)) (G s₀))
  (round:∀s,ok s->∀K:UO,(∀F' H',Next (μ s) W ok J G μ F F' H'->K F' H')->dJ P c (uq K Q) (oR (J s) (ph W F)) (G s)):dJ P (.loop c) Q F H:=by
 refine P9 (S:=S) (fun s F' H'=>F'=oR (J s) (ph W F)/\H'=G s/\ok s) μ s₀ Vj ⟨rfl,rfl,h0⟩ ?_;rintro s F' H' ⟨rfl,rfl,hok⟩;refine round s hok _ ?_;rintro F'' VU ⟨s',h1,h2,h3⟩;exact⟨s',_,_,h1,h2,rfl,rfl,h3⟩
def dx{F':US}{H':Hp}(h1:H=H')(h2:kS F F'):dM F H F' H':=by rw[<-h1];exact dM.pt H h2
variable{out:US}
def vE{e:Exit}(he:e=.normal\/e=.ret)(ho:kf P H F fn.results.toList=some out)(hok:k8 P H F fn.results.toList)(r:AV)(H':Hp)(Vj:iN (lJ out) H r H')(hR:R r H'.l):mw P fn R e F H:=by rcases he with rfl|rfl<;>exact⟨out,r,H',ho,hok,Vj,hR⟩
variable{t:UY}{K:UP}{zs:U1}
def zO(i:Nat)(hz:dS P t=some zs)(hi:H.get i=none)(h:K (.pt i 0 0 0) (H.put i (.var t (zs.map .raw)))):nZ P H t K:=by unfold nZ;rw[hz];exact⟨i,hi,h⟩
def yH{x:AV}(i:Nat)(ho:cI x.cells=true)(hi:H.get i=none)(h:K (.pt i 0 0 0) (H.put i (.var t x.cells))):rR H t x K:=⟨ho,i,hi,h⟩
def Ap:List U5->Nat->Nat
 |[],m=>m
 |(i,_)::l,m=>Ap l (if m<=i then i+1 else m)
def nx(l:UR):Nat:=Ap l 0
theorem EU:∀(l:UR) (m i:Nat),Ap l m<=i->az l i=none/\m<=i
 |[],m,i,h=>⟨rfl,h⟩
 |(j,r)::l,m,i,h=>by
  obtain⟨h1,h2⟩:=EU l _ i h;simp only[az];split at h2
  ·rw[jN];exact⟨h1,jB⟩
  ·rw[jN];exact⟨h1,h2⟩
def Ak(l:UR)(i:Nat)(h:nx l<=i):az l i=none:=(EU l 0 i h).1
attribute [go_sem] Ap
attribute [go_sem] nx
@[go_sem] def j1q:((none:Option Operand).toArray.toList=[])/\(∀(x:Operand),(some x).toArray.toList=[x]):=by and_intros<;>(intros;rfl)
def OM{A:Nat->Prop}{d:ix A}(h:A (nx H.l)):v7 H A d:=⟨_,Ak _ _ jl,h⟩
def N6(hz:dS P t=some zs)(h:K (.pt (nx H.l) 0 0 0) (H.put (nx H.l) (.var t (zs.map .raw)))):nZ P H t K:=zO _ hz (Ak _ _ jl) h
def Pk{x:AV}(ho:cI x.cells=true)(h:K (.pt (nx H.l) 0 0 0) (H.put (nx H.l) (.var t x.cells))):rR H t x K:=yH _ ho (Ak _ _ jl) h
variable{css:UQ}
def Rb{e:UY}(h1:aR eo css.flatten=true)(h2:K (.sl true sz css []) H):tU e sz css H K:=.inl ⟨h1,h2⟩
def Iz{e:UY}(i:Nat)(h0:0<sz)(hi:H.get i=none)(h2:K (.rs i css.length sz css.length) (H.put i (.aD e sz css))):tU e sz css H K:=.inr ⟨h0,i,hi,h2⟩
def Ug{e:UY}(h0:0<sz)(h2:K (.rs (nx H.l) css.length sz css.length) (H.put (nx H.l) (.aD e sz css))):tU e sz css H K:=Iz _ h0 (Ak _ _ jl) h2
def SF{e:UY}(h0:0<sz)(h2:K (.rs (nx H.l) 0 sz 0) (H.put (nx H.l) (.aD e sz []))):tU e sz [] H K:=Ug h0 h2
def gW(a a':AV):Prop:=∀(w:NW) v,aw w a v->aw w a' v
def gW.refl(a:AV):gW a a:=fun _ _ h=>h
theorem gW.sl{x:Bool}{sz:Nat}{css:UQ}{d d':US}:gW (.sl x sz css d) (.sl false sz css d'):=fun w v hr=>by
 cases hr with
 |hJ _ _ A c _=>exact .hJ _ _ _ _ (fun e=>by cases e)
 |sl _ _ _ a c vs hn hc hx Vb hb hH D' hr=>exact .sl _ _ _ a c vs hn hc (fun e=>by cases e) Vb hb hH D' hr
def gW.nil{d:US}:gW (.raw (.slice none 0 0)) (.sl false sz [] d):=fun w v hr=>by have:=cZ hr;subst this;exact .hJ _ _ _ _ (fun e=>by cases e)
def qb:US->US->Prop
 |[],[]=>True
 |a::l,b::m=>gW a b/\qb l m
 |_,_=>False
theorem qb.get:∀{l m:US},qb l m->l.length=m.length/\∀(i:Nat) a b,l[i]?=some a->m[i]?=some b->gW a b
 |[],[],_=>⟨rfl,fun i a b h=>by simp at h⟩
 |x::l,y::m,h=>by
  have ih:=qb.get h.2;refine⟨by simp[ih.1],fun i a b ha hb=>?_⟩;cases i with
  |zero=>simp at ha hb;subst ha hb;exact h.1
  |succ i=>exact ih.2 i a b (by simpa using ha) (by simpa using hb)
attribute [go_sem] lJ
@[go_sem] def j2T(l:US)(n m:Nat):(l.drop n).getD m .any=l.getD (n+m) .any:=by simp[List.getD_eq_getElem?_getD]
attribute [go_sem] List.drop_drop List.length_drop Array.toList_append
def Mj{e:Exit}(he:e=.normal\/e=.ret)(ho:kf P H F fn.results.toList=some out)(hok:k8 P H F fn.results.toList)(h1:lJ out=r)(h2:H.l=l):mw P fn (fun r' l'=>r'=r/\l'=l) e F H:=
 vE he ho hok r H (iN.of_eq H h1) ⟨rfl,h2⟩
def Pw{e:Exit}(D:U2)(he:e=.normal\/e=.ret)(ho:kf P H F fn.results.toList=some out)(hok:k8 P H F fn.results.toList)(hB:H.B.all (iY D)=true)(hl:kI D H.l)(hv:dn D H (lJ out) r)(h2:gi D H.l=l):mw P fn (fun r' l'=>r'=r/\l'=l) e F H:=
 vE he ho hok r _ (iN.free D hB hl hv) ⟨rfl,h2⟩
def BL{D:U2}{a a':AV}(h:a=a')(hq:a.all (iY D)=true):dn D H a a':=by subst h;exact .same _ hq
def mZ(B:UW):U2:=fun i=>!(B.contains i)
def K4{e:Exit}(he:e=.normal\/e=.ret)(ho:kf P H F fn.results.toList=some out)(hok:k8 P H F fn.results.toList)(hl:kI (mZ H.B) H.l)(hv:dn (mZ H.B) H (lJ out) r)(h2:gi (mZ H.B) H.l=l):mw P fn (fun r' l'=>r'=r/\l'=l) e F H:=
 Pw (mZ H.B) he ho hok (by rw[List.all_eq_true];intro x hx;simp[iY,mZ,hx]) hl hv h2
attribute [go_sem] kf k8
def DV{e:Exit}(rs:List ResultVar)(Xx:fn.results.toList=rs)(he:e=.normal\/e=.ret)(ho:kf P H F rs=some out)(hok:k8 P H F rs)(hl:kI (mZ H.B) H.l)(hv:dn (mZ H.B) H (lJ out) r)(h2:gi (mZ H.B) H.l=l):mw P fn (fun r' l'=>r'=r/\l'=l) e F H:=by subst Xx;exact K4 he ho hok hl hv h2
def OQ{e:Exit}(rs:List ResultVar)(Xx:fn.results.toList=rs)(he:e=.normal\/e=.ret)(ho:kf P H F rs=some out)(hok:k8 P H F rs)(h1:lJ out=r)(h2:H.l=l):mw P fn (fun r' l'=>r'=r/\l'=l) e F H:=by subst Xx;exact Mj he ho hok h1 h2
attribute [go_sem] mZ cond_true cond_false uo
def lc{S:Type}{ok:S->Prop}{J:S->List (Nat×AV)}{G:S->Hp}{μ:S->Nat}(L:UW)(s:S)(h1:ok s)(h2:μ s<n)(hB:H.B.all (iY fun i=>L.contains i)=true)(hl:kI (fun i=>L.contains i) H.l)(h4:⟨H.B,gi (fun i=>L.contains i) H.l⟩=G s)(h3:cn (fun i=>L.contains i) H F (oR (J s) (ph W F₀))):Next n W ok J G μ F₀ F H:=Is _ s h1 h2 hB hl h4 h3
def LP{D:U2}(a:AV):dn D H a .any:=.drop a
@[go_sem] def j1X(i:Nat)(e:UY)(m sz:Nat)(css ys:UQ)(H:Hp)(K:UP):uD i e m sz m css ys H K=K (.rs i (m+ys.length) sz (m+ys.length)) (H.put i (.aD e sz (css++ys))):=if_pos rfl
def Mt{enc:α->US}(vars more ys:List α){e:UY}{m:Nat}{yss:UQ}(hm:m=vars.length+more.length)(hn:n=vars.length)(hc:css=(vars++more).map enc)(hy:yss=ys.map enc)
  (h:K (.rs i (vars.length+ys.length+(more.drop ys.length).length) sz (vars.length+ys.length)) (H.put i (.aD e sz ((vars++ys++more.drop ys.length).map enc)))):uD i e m sz n css yss H K:=by
 subst hm hn hc hy;unfold uD;split
 ·rename_i h';have:more=[]:=List.length_eq_zero_iff.1 jB;subst this;simpa using h
 ·have e1:max (vars.length+more.length) (vars.length+(ys.map enc).length)=vars.length+ys.length+(more.drop ys.length).length:=by simp;omega
  have e2:fl ((vars++more).map enc) vars.length (ys.map enc)=(vars++ys++more.drop ys.length).map enc:=by
   unfold fl;rw[<-List.map_take,List.take_left',<-List.map_drop,List.length_map,List.drop_append,List.drop_eq_nil_of_le jB,List.nil_append]
   ·simp
   ·rfl
  rw[e1,e2];simpa using h
def Uc{b c:Bool}(h:b=c):AV.raw (.bool b)=AV.raw (.bool c):=by rw[h]
def Mo{k:IntKind}{b c:Int}(h:b=c):AV.raw (.int k b)=AV.raw (.int k c):=by rw[h]
section
variable {P:U3}{ops:Array Oper}{H:Hp}
def yl(ops:Array Oper)(o:Oper)(F G:US):Prop:=(∀x∈o.op.operands.toList,bM G x=bM F x)/\∀j b,o.guard=some (j,b)->mo ops G j b=mo ops F j b
def QV(P:U3)(ops:Array Oper)(o:Oper)(F:US)(H:Hp)(r:AV):Prop:=∀G,yl ops o F G->nB P ops o G H fun F' H'=>F'=cr G o.dst r/\H'=H
variable{K:UP}
def zZ{f:AV}{args:US}{K':UP}(h:eQ P f args H K)(hk:∀r H,K r H->K' r H):eQ P f args H K':=by
 unfold eQ at*;split at h
 ·rcases h with h|h
  ·exact .inl ⟨h.1,h.2.mono hk⟩
  ·exact .inr fun w vs h1 h2=>by obtain⟨v,w',r,H',e,k,g⟩:=h w vs h1 h2;exact⟨v,w',r,H',e,hk _ _ k,g⟩
 ·exact h.elim
def pG(P:U3)(t:UY)(n:Nat)(parts:List (Nat×AV))(K:AV->Prop):Prop:=match iE P t with
 |some e=>match cQ P e with
  |some sz=>((parts.length=n/\xy sz 0 parts/\n*sz<=16777216/\(n*sz=0\/(dS P e).isSome=true))/\aR eo (mX parts).flatten=true)/\K (.sl true sz (mX parts) [])
  |none=>False
 |none=>False
variable{t:UY}{n:Nat}{parts:List (Nat×AV)}
def Uw(h:pG P t n parts fun r=>K r H):pk P H t n parts K:=by
 unfold pG at h;unfold pk;split at h
 ·rename_i e he;split at h
  ·rename_i sz hs;try simp only[he,hs]
   exact⟨h.1.1,.inl ⟨h.1.2,h.2⟩⟩
  ·exact h.elim
 ·exact h.elim
variable{K:AV->Prop}
def CU(h:pG P t n parts K):∃r,K r/\∀K':AV->Prop,K' r->pG P t n parts K':=by
 unfold pG at h;split at h
 ·rename_i e he;split at h
  ·rename_i sz hs;exact⟨_,h.2,fun K' hk=>by unfold pG;rw[he];simp only[hs];exact⟨h.1,hk⟩⟩
  ·exact h.elim
 ·exact h.elim
def oG:Op->Bool
 |.binOp .eql ..=>true
 |.binOp .neq ..=>true
 |_=>false
variable{o:Oper}{F:US}
def SI{K:UO}(hg:o.guard=none)(hq:(vq P (bM F) H o.op).1)(hk:K (cr F o.dst (vq P (bM F) H o.op).2) H):nB P ops o F H K:=
 LZ hg (On (K:=fun r H'=>K (cr F o.dst r) H') hq hk)
def wQ(hg:o.guard=none)(hq:(vq P (bM F) H o.op).1):QV P ops o F H (vq P (bM F) H o.op).2:=fun G hG=>by have e:vq P (bM G) H o.op=vq P (bM F) H o.op:=uE _ hG.1;exact SI hg (by rw[e];exact hq) ⟨by rw[e],rfl⟩
variable{dst:Option Tmp}{after:Array Edge}
def Ky{f:Operand}{args:Array Operand}{ts:Array UY}{ty:UY}{pos:String}{r:AV}(h:eQ P (bM F f) (args.toList.map (bM F)) H fun r' H'=>r'=r/\H'=H) :
  QV P ops ⟨dst,.call ⟨.value f,args,ts⟩,ty,pos,after,none⟩ F H r:=fun G hG=>by
 refine qR (K:=fun F' H'=>F'=cr G dst r/\H'=H) rfl ?_;show eQ P (bM G f) (args.toList.map (bM G)) H _;rw[hG.1 f (by simp[Op.operands,Call.operands]),List.map_congr_left (g:=bM F) (fun x hx=>hG.1 x (by simp[Op.operands,Call.operands]at hx ⊢;exact .inr hx))];exact zZ h fun r' H' ⟨e1,e2⟩=>⟨by rw[e1],e2⟩
def A8{parts:Array (Nat×Operand)}{ty:UY}{pos:String}{r:AV}(h:pG P t n (parts.toList.map fun p=>(p.1,bM F p.2)) fun r'=>r'=r) :
  QV P ops ⟨dst,.buildSlice t n parts,ty,pos,after,none⟩ F H r:=fun G hG=>by
 refine qR (K:=fun F' H'=>F'=cr G dst r/\H'=H) rfl ?_;show pk P H t n (parts.toList.map fun p=>(p.1,bM G p.2)) (fun r_1 H'=>cr G dst r_1=cr G dst r/\H'=H);rw[List.map_congr_left (g:=fun p=>(p.1,bM F p.2)) (fun x hx=>by rw[hG.1 x.2 (by simp[Op.operands]at hx ⊢;exact⟨_,hx⟩)])];refine Uw ?_;obtain⟨r',e,hk⟩:=CU h;subst e;exact hk _ ⟨rfl,rfl⟩
variable{G:US}
def CD(o:Op)(h:∀x∈o.operands.toList,bM G x=bM F x):gp G o=gp F o:=by unfold gp;rw[Bool.eq_iff_iff,List.all_eq_true,List.all_eq_true];constructor<;>intro hh x hx<;>have:=hh x hx<;>rw[h x hx]at*<;>exact this
def yk:Op->Bool
 |.pick ..=>true
 |.call { callee:=.invoke ..,.. }=>true
 |_=>false
def zF{g:Bool}(o:Op)(h:jm o=false)(hp:yk o=false):eJ P F H g K o=if iT o then(g=true->gp F o=true/\(vq P (bK F) H o).1)/\K (.gd g (vq P (bK F) H o).2)else False:=by
 cases o
 case call c=>
  obtain⟨callee,args,ts⟩:=c;cases callee
  case value f=>cases h
  case invoke f m=>cases hp
  all_goals rfl
 case pick=>cases hp
 all_goals rfl
def A0{g:Bool}{o:Op}(h:eJ P F H g K o):∃r,K (.gd g r)/\∀(G:US) (K':AV->Prop),(∀x∈o.operands.toList,bM G x=bM F x)->K' (.gd g r)->eJ P G H g K' o:=by
 cases hc:jm o with
 |false=>
  by_cases hp:yk o=true
  ·cases o<;>try cases hp
   case call c=>
    obtain⟨callee,args,ts⟩:=c;cases callee<;>try cases hp
    rename_i f m;obtain⟨r,h1,h2⟩:=h;refine⟨r,h2,fun G K' hG hk=>⟨r,fun hg=>⟨CD _ hG ▸ (h1 hg).1,?_⟩,hk⟩⟩;have he:∀x∈(Op.call ⟨.invoke f m,args,ts⟩).operands.toList,bK G x=bK F x:=fun x hx=>by unfold bK;rw[hG x hx]
    rw[he f (by simp[Op.operands,Call.operands]),List.map_congr_left (g:=bK F) (fun x hx=>he x (by simp[Op.operands,Call.operands]at hx ⊢;exact .inr hx))];exact(h1 hg).2
   rename_i c a b;refine⟨_,h.2,fun G K' hG hk=>?_⟩;have he:∀x∈(Op.pick c a b).operands.toList,bK G x=bK F x:=fun x hx=>by unfold bK;rw[hG x hx]
   show(g=true->(jZ (bM G c)).1=true/\(ow (bK G c) (bM G a) (bM G b)).1)/\K' (.gd g (ow (bK G c) (bM G a) (bM G b)).2);rw[hG c (by simp[Op.operands]),hG a (by simp[Op.operands]),hG b (by simp[Op.operands]),he c (by simp[Op.operands])];exact⟨h.1,hk⟩
  have hp:yk o=false:=by simpa using hp
  rw[zF o hc hp]at h;split at h
  ·rename_i hq;refine⟨_,h.2,fun G K' hG hk=>?_⟩;have he:∀x∈o.operands.toList,bK G x=bK F x:=fun x hx=>by unfold bK;rw[hG x hx]
   rw[zF o hc hp,if_pos hq,uE _ he,CD o hG];exact⟨h.1,hk⟩
  ·exact h.elim
 |true=>
  cases o<;>try cases hc
  rename_i c;obtain⟨callee,args,ts⟩:=c;cases callee<;>try cases hc
  rename_i f;obtain⟨r,h1,h2⟩:=h;refine⟨r,h2,fun G K' hG hk=>⟨r,fun hg=>⟨CD _ hG ▸ (h1 hg).1,?_⟩,hk⟩⟩;have he:∀x∈(Op.call ⟨.value f,args,ts⟩).operands.toList,bK G x=bK F x:=fun x hx=>by unfold bK;rw[hG x hx]
  rw[he f (by simp[Op.operands,Call.operands]),List.map_congr_left (g:=bK F) (fun x hx=>he x (by simp[Op.operands,Call.operands]at hx ⊢;exact .inr hx))];exact(h1 hg).2
def C1{j:Nat}{want b:Bool}{r:AV}(hg:o.guard=some (j,want))(hb:mo ops F j want=some b)(hq:(jm o.op || iT o.op)=true)(h:eJ P F H b (fun r'=>r'=r) o.op):QV P ops o F H r:=fun G hG=>by
 have hv:lD P ops (fun F' H'=>F'=cr G o.dst r/\H'=H) [o] G H:=by simp only[lD,hg,hG.2 j want hg,hb,hq,if_true];obtain⟨r',h1,h2⟩:=A0 h;exact h2 G _ hG.1 ⟨by rw[h1],trivial⟩
 have hs:=xk [o] G H hv;intro w tm Q next h1 h2 hn;have:=hs w tm (fun e a w=>match e with|.normal=>next a w|e=>Q e a w) h1 h2 hn;simp only[wpList]at this;unfold te;split
 ·rename_i hw;rw[if_pos hw]at this;rcases this with h|⟨ha,hl⟩
  ·refine .inl ?_;unfold Oper.wp at*;generalize (execOp (Act.mk tm []).eval o).run P w=res at*;cases res with
   |ok n w'=>
    cases n<;>simp only[Oper.upon]at h ⊢
    case enter f args=>exact Calls.mono h fun e w'' he=>by cases e<;>exact he
    all_goals exact h
   |halt x w'=>cases x<;>simp only[Oper.upon]at h ⊢;exact h
  ·exact .inr ⟨ha,hl⟩
 ·rename_i hw;rw[if_neg hw]at this;exact this
def iD(P:U3)(ops:Array Oper)(H:Hp)(K:US->Prop):List Oper->US->Prop
 |[],F=>K F
 |o::rest,F=>match o.guard with
  |none=>match o.op with
   |.call { callee:=.value f,args,.. }=>∃r,(eQ P (bM F f) (args.toList.map (bM F)) H fun r' H'=>r'=r/\H'=H)/\iD P ops H K rest (cr F o.dst r)
   |.buildSlice t n parts=>pG P t n (parts.toList.map fun p=>(p.1,bM F p.2)) fun r=>iD P ops H K rest (cr F o.dst r)
   |op=>(vq P (bM F) H op).1/\iD P ops H K rest (cr F o.dst (vq P (bM F) H op).2)
  |some (j,want)=>match mo ops F j want with
   |some b=>(jm o.op || iT o.op)=true/\eJ P F H b (fun r=>iD P ops H K rest (cr F o.dst r)) o.op
   |none=>False
def zR(P:U3)(ops:Array Oper)(H:Hp)(K:US->Prop):List Oper->US->US->Prop
 |[],F,rs=>rs=[]/\K F
 |o::rest,F,rs=>∃r V4,rs=r::V4/\QV P ops o F H r/\zR P ops H K rest (cr F o.dst r) V4
theorem Fo{K:US->Prop}:∀(l:List Oper) (F:US),iD P ops H K l F->∃rs,zR P ops H K l F rs
 |[],F,h=>⟨[],rfl,h⟩
 |o::rest,F,h=>by
  have mk:∀r,QV P ops o F H r->iD P ops H K rest (cr F o.dst r)->∃rs,zR P ops H K (o::rest) F rs:=fun r h1 h2=>by obtain⟨rs,h3⟩:=Fo rest _ h2;exact⟨r::rs,r,rs,rfl,h1,h3⟩
  obtain⟨dst,op,ty,pos,after,guard⟩:=o;cases guard with
  |none=>
   unfold iD at h;simp only at h;split at h
   ·obtain⟨r,h1,h2⟩:=h;exact mk r (Ky h1) h2
   ·rename_i t n parts;obtain⟨r,h1,h2⟩:=CU h;exact mk r (A8 (h2 _ rfl)) h1
   ·exact mk _ (wQ rfl h.1) h.2
  |some g=>
   obtain⟨j,want⟩:=g;unfold iD at h;simp only at h;split at h
   ·rename_i b hb;obtain⟨hq,hv⟩:=h;obtain⟨r,h1,h2⟩:=A0 hv;exact mk _ (C1 rfl hb hq (r:=.gd b r) (h2 F _ (fun _ _=>rfl) rfl)) h1
   ·exact h.elim
-- the order
def FL(os:List Oper)(rs:US)(L:U2)(F:US):Nat->US
 |0=>F
 |m+1=>if L m then cr (FL os rs L F m) ((os[m]?).bind (·.dst)) (rs.getD m .any)else FL os rs L F m
def lU(os:List Oper)(rs:US)(L:U2)(F:US)(s:Nat):Nat->AV
 |0=>F.getD s .any
 |m+1=>if L m=true/\(os[m]?).bind (·.dst)=some s then rs.getD m .any else lU os rs L F s m
theorem lW(os:List Oper)(rs:US)(L:U2)(F:US):∀m,(FL os rs L F m).length=F.length
 |0=>rfl
 |m+1=>by
  unfold FL;split
  ·rw[<-lW os rs L F m];cases(os[m]?).bind (·.dst)<;>simp[cr]
  ·exact lW os rs L F m
theorem tA(os:List Oper)(rs:US)(L:U2)(F:US){s:Nat}(hs:s<F.length):∀m,(FL os rs L F m).getD s .any=lU os rs L F s m
 |0=>rfl
 |m+1=>by
  have ih:=tA os rs L F hs m;have hl:=lW os rs L F m;unfold FL lU;cases hd:(os[m]?).bind (·.dst)with
  |none=>
   have Vd:¬(L m=true/\(none:Option Tmp)=some s):=fun h=>by have:=h.2;cases this
   rw[if_neg Vd];cases hL:L m
   ·exact ih
   ·exact ih
  |some d=>
   cases hL:L m
   ·simpa using ih
   ·simp only[if_true,cr,true_and,Option.some.injEq];by_cases e:d=s
    ·subst e;simp[hl,hs]
    ·rw[if_neg e];have:(List.set (FL os rs L F m) d (rs.getD m .any)).getD s .any=(FL os rs L F m).getD s .any:=by simp[List.getElem?_set,e]
     rw[this,ih]
variable{os:List Oper}
def HV{rs:US}{L L':U2}{m m':Nat}(hG:G.length=F.length)(h:∀s,s<F.length->G.getD s .any=lU os rs L F s m):G=FL os rs L F m:=by
 refine List.ext_getElem? fun s=>?_
 rcases Nat.lt_or_ge s F.length with hs|hs
 ·have h1:=h s hs;rw[<-tA os rs L F hs m]at h1;have h2:G[s]?=some (G.getD s .any):=by simp[hG,hs]
  have h3:(FL os rs L F m)[s]?=some ((FL os rs L F m).getD s .any):=by simp[lW,hs]
  rw[h2,h3,h1]
 ·rw[List.getElem?_eq_none jB,List.getElem?_eq_none (by rw[lW];omega)]
def looks(os:List Oper)(o:Oper):UW:=
 (o.op.operands.toList.filterMap fun|.tmp t=>some t|_=>none)++
 (match o.guard with
   |some (g,_)=>((os[g]?).bind (·.dst)).toList
   |none=>[])
def qI:UW->UW
 |[]=>[]
 |x::l=>if(qI l).contains x then qI l else x::qI l
theorem Dv{x:Nat}:∀{l:UW},x∈qI l<->x∈l
 |[]=>Iff.rfl
 |y::l=>by
  have ih:x∈qI l<->x∈l:=Dv;unfold qI;split
  ·rename_i h;rw[ih,List.mem_cons];refine⟨.inr,fun h'=>h'.elim (fun e=>?_) id⟩;subst e;exact ih.1 (List.contains_iff_mem.1 h)
  ·rw[List.mem_cons,List.mem_cons,ih]
def nG(Wn:List UW)(o:Oper):List UW:=Wn++[qI ((o.after.toList.filter (Region.binds .any)).flatMap fun e=>e.on::Wn.getD e.on [])]
def kK(os:List Oper):List UW:=os.foldl nG []
def ue(os:List Oper)(a b:Oper):Bool:=
 (match a.dst with
   |some d=>(looks os b).contains d || b.dst == some d
   |none=>false) ||
 (match b.dst with
   |some d=>(looks os a).contains d
   |none=>false)
def uO(os:List Oper):Bool:=
 let ps:=kK os
 (List.range os.length).all fun j=>match os[j]? with
  |some b=>(b.after.toList.all fun e=>!Region.binds .any e || decide (e.on<j)) &&
   (List.range j).all fun i=>match os[i]? with
    |some a=>!ue os a b || (ps.getD j []).contains i
    |none=>true
  |none=>true
theorem Cr:∀(os:List Oper) (Wn:List UW) (j:Nat),j<Wn.length->(os.foldl nG Wn)[j]?=Wn[j]?
 |[],Wn,j,_=>rfl
 |o::os,Wn,j,h=>by simp only[List.foldl_cons];rw[Cr os _ j (by simp[nG];omega)];unfold nG;rw[List.getElem?_append_left h]
theorem GD:∀(os:List Oper) (Wn:List UW) (j:Nat) (o:Oper),os[j]?=some o->(os.foldl nG Wn).getD (Wn.length+j) []=qI ((o.after.toList.filter (Region.binds .any)).flatMap fun e=>e.on::(if e.on<Wn.length+j then(os.foldl nG Wn).getD e.on []else[]))
 |[],Wn,j,o,h=>by simp at h
 |o'::os,Wn,0,o,h=>by
  simp only[List.getElem?_cons_zero,Option.some.injEq]at h;subst h;simp only[List.foldl_cons,Nat.add_zero];have h1:(os.foldl nG (nG Wn o')).getD Wn.length []=qI ((o'.after.toList.filter (Region.binds .any)).flatMap fun e=>e.on::Wn.getD e.on []):=by rw[List.getD_eq_getElem?_getD,Cr os _ _ (by simp[nG])];unfold nG;rw[List.getElem?_append_right jl];simp
  rw[h1];congr 2
  funext e
  congr 1
  split
  ·rename_i I';rw[List.getD_eq_getElem?_getD,List.getD_eq_getElem?_getD,Cr os _ _ (by simp[nG];omega)];unfold nG;rw[List.getElem?_append_left I']
  ·rename_i hge;rw[List.getD_eq_getElem?_getD,List.getElem?_eq_none jB];rfl
 |o'::os,Wn,j+1,o,h=>by
  simp only[List.foldl_cons];have:=GD os (nG Wn o') j o (by simpa using h);have e:(nG Wn o').length+j=Wn.length+(j+1):=by simp[nG];omega
  rw[e]at this;exact this
def IW{j:Nat}(h:os[j]?=some o):(kK os).getD j []=qI ((o.after.toList.filter (Region.binds .any)).flatMap fun e=>e.on::(if e.on<j then(kK os).getD e.on []else[])):=by have:=GD os [] j o h;simp only[List.length_nil,Nat.zero_add]at this;exact this
def oD(os:List Oper)(L:U2):Prop:=∀j o,os[j]?=some o->L j=true->∀e∈o.after.toList,Region.binds .any e=true->L e.on=true
def v8{L:U2}(hc:oD os L)(I':∀j o,os[j]?=some o->∀e∈o.after.toList,Region.binds .any e=true->e.on<j):∀n j,j<n->∀o,os[j]?=some o->(∀e∈o.after.toList,Region.binds .any e=true->L e.on=true)->∀i∈(kK os).getD j [],L i=true:=by
 intro n;induction n with
 |zero=>intro j hj;omega
 |succ n ih=>
  intro j hj o ho hL i hi;rw[IW ho,Dv]at hi;obtain⟨e,he,hi⟩:=List.mem_flatMap.1 hi;obtain⟨X6,ZQ⟩:=List.mem_filter.1 he;have hon:=hL e X6 ZQ;rcases List.mem_cons.1 hi with rfl|hi
  ·exact hon
  ·rw[if_pos (I' j o ho e X6 ZQ)]at hi;have hlt':=I' j o ho e X6 ZQ;have hjlen:=(List.getElem?_eq_some_iff.1 ho).1;have W6:os[e.on]?=some (os[e.on]' jB):=List.getElem?_eq_getElem jB;exact ih e.on jB _ W6 (fun e' h1 h2=>hc _ _ W6 hon e' h1 h2) i hi
theorem AZ(o:Oper)(os:List Oper)(r:AV)(rs:US)(F:US):∀m,FL (o::os) (r::rs) (fun _=>true) F (m+1)=FL os rs (fun _=>true) (cr F o.dst r) m
 |0=>by simp[FL]
 |m+1=>by have ih:=AZ o os r rs F m;rw[FL,if_pos rfl,ih,FL,if_pos rfl];simp
theorem FQ{K:US->Prop}:∀(l:List Oper) (F:US) (rs:US),zR P ops H K l F rs->(∀i o,l[i]?=some o->QV P ops o (FL l rs (fun _=>true) F i) H (rs.getD i .any))/\K (FL l rs (fun _=>true) F l.length)
 |[],F,rs,h=>⟨fun i o hi=>by simp at hi,h.2⟩
 |o::l,F,rs,h=>by
  obtain⟨r,V4,rfl,h1,h2⟩:=h;obtain⟨g1,g2⟩:=FQ l _ V4 h2;refine⟨fun i o' hi=>?_,by rw[List.length_cons,AZ];exact g2⟩;cases i with
  |zero=> simp only[List.getElem?_cons_zero,Option.some.injEq]at hi;subst hi;exact h1
  |succ i=> rw[AZ];exact g1 i o' (by simpa using hi)
def wj(h:uO os=true):(∀j o,os[j]?=some o->∀e∈o.after.toList,Region.binds .any e=true->e.on<j)/\
  ∀i j a b,i<j->os[i]?=some a->os[j]?=some b->ue os a b=true->i∈(kK os).getD j []:=by
 simp only[uO,List.all_eq_true,List.mem_range]at h;constructor
 ·intro j o ho e he hb;have:=h j (List.getElem?_eq_some_iff.1 ho).1;rw[ho]at this;simp only[Bool.and_eq_true,List.all_eq_true]at this;have:=this.1 e he;simpa[hb]using this
 ·intro i j a b hij ha hb hc;have:=h j (List.getElem?_eq_some_iff.1 hb).1;rw[hb]at this;simp only[Bool.and_eq_true,List.all_eq_true,List.mem_range]at this;have:=this.2 i hij;rw[ha]at this;simp only[hc,Bool.not_true,Bool.false_or]at this;simpa using this
theorem JD{os:List Oper}{rs F:US}{L:U2}{i s:Nat}(hw:∀k o,os[k]?=some o->o.dst=some s->L k=decide (k<i)):∀m,lU os rs L F s m=lU os rs (fun _=>true) F s (min m i)
 |0=>by simp[lU]
 |m+1=>by
  have ih:=JD (rs:=rs) (F:=F) hw m;rw[lU];by_cases hd:(os[m]?).bind (·.dst)=some s
  ·obtain⟨o,ho,hs⟩:=Option.bind_eq_some_iff.1 hd;have hL:=hw m o ho hs;by_cases hm:m<i
   ·rw[if_pos ⟨by rw[hL];simpa using hm,hd⟩,show min (m+1) i=m+1 from jB,lU,if_pos ⟨rfl,hd⟩]
   ·rw[if_neg (by rw[hL];simp[hm]),ih,show min (m+1) i=min m i from jB]
  ·rw[if_neg (by simp[hd]),ih];by_cases hm:m<i
   ·rw[show min (m+1) i=m+1 from jB,show min m i=m from jB,lU,if_neg (by simp[hd])]
   ·rw[show min (m+1) i=min m i from jB]
theorem Bf{os:List Oper}{rs F:US}{L L':U2}{i s:Nat}{o:Oper}(ho:os[i]?=some o)(W7:∀k,L' k=(L k || k == i))(hw:∀k o',os[k]?=some o'->o'.dst=some s->L k=decide (k<i))(hs:o.dst=some s):∀m,i<m->lU os rs L' F s m=rs.getD i .any
 |0,h=>by omega
 |m+1,h=>by
  rw[lU];by_cases hm:m=i
  ·subst hm;rw[if_pos ⟨by rw[W7];simp,by rw[ho];exact hs⟩]
  ·rw[if_neg]
   ·exact Bf ho W7 hw hs m jB
   ·rintro⟨h1,h2⟩;obtain⟨o',W6,Yi⟩:=Option.bind_eq_some_iff.1 h2;rw[W7,hw m o' W6 Yi]at h1;simp at h1;omega
theorem BJ{os:List Oper}{rs F:US}{L L':U2}{i s:Nat}{o:Oper}(ho:os[i]?=some o)(W7:∀k,L' k=(L k || k == i))(hs:o.dst≠some s):∀m,lU os rs L' F s m=lU os rs L F s m
 |0=>rfl
 |m+1=>by
  have ih:=BJ (rs:=rs) (F:=F) ho W7 hs m;rw[lU,lU,ih,W7];by_cases hm:m=i
  ·subst hm;rw[ho];simp[hs]
  ·simp[hm]
def Mb{t:Nat}(h:Operand.tmp t∈o.op.operands.toList):t∈looks os o:=
 List.mem_append_left _ (List.mem_filterMap.2 ⟨_,h,rfl⟩)
def GU(hl:F.length=G.length)(h:∀s∈looks os o,s<F.length->G.getD s .any=F.getD s .any):yl os.toArray o F G:=by
 have Vo:∀s∈looks os o,G[s]?=F[s]?:=fun s hs=>by
  rcases Nat.lt_or_ge s F.length with h1|h1
  ·have:=h s hs h1;have e1:G[s]?=some (G.getD s .any):=by simp[<-hl,h1]
   have e2:F[s]?=some (F.getD s .any):=by simp[h1]
   rw[e1,e2,this]
  ·rw[List.getElem?_eq_none jB,List.getElem?_eq_none h1]
 constructor
 ·intro x hx;cases x with
  |tmp t=>simp only[bM,List.getD_eq_getElem?_getD,Vo t (Mb hx)]
  |const v=>rfl
  |global g=>rfl
  |func f=>rfl
 ·intro j b hg;unfold mo;cases hd:(os.toArray[j]?).bind (·.dst)with
  |none=>rfl
  |some d=> simp only;rw[Vo d (List.mem_append_right _ (by rw[hg];simp at hd ⊢;simpa using hd))]
variable{Q:Exit->UO}
def Su{l:List Oper}{rs:US}(hok:uO l=true)(hqv:∀i o,l[i]?=some o->QV P l.toArray o (FL l rs (fun _=>true) F i) H (rs.getD i .any))(hK:Q .normal (FL l rs (fun _=>true) F l.length) H)(w0:NW) :
  ∀(fuel:Nat) (listed:Array Bool),listed.size=l.length->oD l (fun i=>listed.getD i false)->(List.range l.length).countP (fun i=>!listed.getD i false)=fuel->
   ∀(w:NW) tm,aF w H->br w (FL l rs (fun i=>listed.getD i false) F l.length) tm->Ext w0 H w H->wpAny P .any l.toArray (gZ Q w0 H) fuel listed ⟨tm,[]⟩ w.toWorld:=by
 obtain⟨I',U9⟩:=wj hok
 -- when all are done
 have fin:∀(listed:Array Bool),(∀i,i<l.length->listed.getD i false=true)->∀(w:NW) tm,aF w H->br w (FL l rs (fun i=>listed.getD i false) F l.length) tm->Ext w0 H w H->gZ Q w0 H .normal ⟨tm,[]⟩ w.toWorld:=by
  intro listed Vm w tm h1 h2 h3;have e:FL l rs (fun i=>listed.getD i false) F l.length=FL l rs (fun _=>true) F l.length:=by
   have gen:∀m,m<=l.length->FL l rs (fun i=>listed.getD i false) F m=FL l rs (fun _=>true) F m:=by
    intro m;induction m with
    |zero=>intro _;rfl
    |succ m ih=>intro hm;rw[FL,FL,ih jB,Vm m jB]
   exact gen _ jl
  rw[e]at h2;exact⟨tm,_,H,w,rfl,rfl,hK,h1,h2,h3.qA⟩
 intro fuel;induction fuel with
 |zero=>
  intro listed Vb Xg YQ w tm h1 h2 h3;have Vm:∀i,i<l.length->listed.getD i false=true:=fun i hi=>by have:=(List.countP_eq_zero.1 YQ) i (List.mem_range.2 hi);simpa using this
  refine⟨?_,fin listed Vm w tm h1 h2 h3⟩;rw[List.eq_nil_iff_forall_not_mem];intro j hj;obtain⟨hj0,o,ho,_⟩:=mem_ready.1 hj;have Xh:j<l.length:=by have:=(Array.getElem?_eq_some_iff.1 ho).1;simpa using this
  have:=Vm j Xh;simp[Vb,Xh]at this hj0;rw[this]at hj0;cases hj0
 |succ fuel ih=>
  intro listed Vb Xg YQ w tm h1 h2 h3;refine⟨fun hac=>?_,fun i hi=>?_⟩
  ·-- some operation is ready
   exfalso;have hex:∃i,i<l.length/\listed.getD i false=false:=by have VK:0<(List.range l.length).countP (fun i=>!listed.getD i false):=jB;obtain⟨i,hi,hp⟩:=List.countP_pos_iff.1 VK;exact⟨i,List.mem_range.1 hi,by simpa using hp⟩
   obtain⟨i,⟨hi,hf⟩,XW⟩:=exists_least hex;have ho:l[i]?=some l[i]:=List.getElem?_eq_getElem hi;have:i∈Region.ready .any l.toArray listed:=mem_ready.2 ⟨by simp[Vb,hi]at hf ⊢;exact hf,l[i],by simp[hi],fun e he hb=>by
    have h4:=I' i _ ho e (by simpa using he) hb;cases hv:listed.getD e.on false with
    |true=>rfl
    |false=>have:=XW e.on ⟨jB,hv⟩;omega⟩
   rw[hac]at this;cases this
  ·obtain⟨Xi,o,ho,V5⟩:=mem_ready.1 hi;have W6:l[i]?=some o:=by simpa using ho
   have WK:=(List.getElem?_eq_some_iff.1 W6).1;have Yn:listed.getD i false=false:=by simp[Vb,WK]at Xi ⊢;exact Xi
   have Wr:∀e∈o.after.toList,Region.binds .any e=true->listed.getD e.on false=true:=fun e he hb=>V5 e (by simpa using he) hb
   have VA:=v8 Xg I' (i+1) i jB o W6 Wr
   -- who writes where o touches
   have hwr:∀k o' s,l[k]?=some o'->o'.dst=some s->(s∈looks l o\/o.dst=some s)->listed.getD k false=decide (k<i):=by
    intro k o' s hk hs VH;rcases Nat.lt_trichotomy k i with h|h|h
    ·rw[decide_eq_true h];refine VA k (U9 k i o' o h hk W6 ?_);unfold ue;rw[hs];rcases VH with h5|h5
     ·simp[h5]
     ·simp[h5]
    ·subst h;simpa using Yn
    ·rw[decide_eq_false jB];cases hv:listed.getD k false with
     |false=>rfl
     |true=>
      have WA:i∈(kK l).getD k []:=U9 i k o o' h W6 hk (by
       unfold ue;rw[hs];rcases VH with h5|h5
       ·simp[h5]
       ·simp[h5])
      have:=v8 Xg I' (k+1) k jB o' hk (fun e he hb=>Xg k o' hk hv e he hb) i WA;rw[Yn]at this;cases this
   have WC:yl l.toArray o (FL l rs (fun _=>true) F i) (FL l rs (fun i=>listed.getD i false) F l.length):=by
    refine GU (by rw[lW,lW]) fun s hs J'=>?_
    rw[lW]at J';rw[tA _ _ _ _ J',tA _ _ _ _ J',JD (fun k o' hk hd=>hwr k o' s hk hd (.inl hs)),show min l.length i=i from jB]
   have W3:=hqv i o W6 _ WC;have W7:∀k,(listed.setIfInBounds i true).getD k false=(listed.getD k false || k == i):=fun k=>by
    by_cases hk:k=i
    ·subst hk;simp[Vb,WK]
    ·simp[Array.getElem?_setIfInBounds_ne (Ne.symm hk),hk]
   have X7:cr (FL l rs (fun i=>listed.getD i false) F l.length) o.dst (rs.getD i .any)=FL l rs (fun k=>(listed.setIfInBounds i true).getD k false) F l.length:=by
    refine HV (m':=0) (L':=fun _=>true) (by cases o.dst<;>simp[cr,lW]) fun s hs=>?_
    by_cases hd:o.dst=some s
    ·rw[Bf (L:=fun i=>listed.getD i false) W6 W7 (fun k o' hk hd'=>hwr k o' s hk hd' (.inr hd)) hd _ WK,hd];simp[cr,lW,hs]
    ·rw[BJ (L:=fun i=>listed.getD i false) W6 W7 hd,<-tA _ _ _ _ hs];cases hd':o.dst with
     |none=>rfl
     |some d=>
      have:d≠s:=fun e=>hd (by rw[hd',e])
      simp[cr,List.getElem?_set,this]
   have:=W3 w tm (gZ Q w0 H) (wpAny P .any l.toArray (gZ Q w0 H) fuel (listed.setIfInBounds i true)) h1 h2 (by
    rintro VI w' F' H' ⟨rfl,rfl⟩ g1 g2 g3;refine ih (listed.setIfInBounds i true) (by simpa using Vb) ?_ ?_ w' VI g1 (by rw[<-X7];exact g2) (h3.trans g3)
    ·intro j o' hj WW e he hb;simp only[W7]at WW ⊢;rcases Bool.or_eq_true_iff.1 WW with h6|h6
     ·have h7:listed.getD e.on false=true:=Xg j o' hj h6 e he hb;rw[h7];rfl
     ·obtain rfl:j=i:=by simpa using h6
      rw[W6]at hj;cases hj;rw[Wr e he hb];rfl
    ·have:∀(n:Nat),i<n->(List.range n).countP (fun k=>!(listed.setIfInBounds i true).getD k false)+1=(List.range n).countP (fun k=>!listed.getD k false):=by
      intro n;induction n with
      |zero=>intro h;omega
      |succ n ihn=>
       intro h;rw[List.range_succ,List.countP_append,List.countP_append];by_cases hn:n=i
       ·subst hn;have:(List.range n).countP (fun k=>!(listed.setIfInBounds n true).getD k false)=(List.range n).countP (fun k=>!listed.getD k false):=by
         refine List.countP_congr fun k hk=>?_
         rw[W7];have:k≠n:=by have:=List.mem_range.1 hk;omega
         simp[this]
        rw[this];simp only[List.countP_singleton,W7,Yn];simp
       ·rw[<-ihn jB];simp only[List.countP_singleton,W7];have:(n == i)=false:=by simpa using hn
        rw[this,Bool.or_false];omega
     have:=this l.length WK;omega)
   unfold wpOp;rw[ho];exact this
def Oh{id:Nat}{l:List Oper}(hm:P.follows .mixedOrders=true)(hok:uO l=true)(h:iD P l.toArray H (fun F'=>Q .normal F' H) l F):dJ P (.region id l.toArray true) Q F H:=fun w tm h1 h2=>by
 obtain⟨rs,B'⟩:=Fo l F h;obtain⟨hqv,hK⟩:=FQ l F rs B';have hz:∀i,(Array.replicate l.toArray.size false).getD i false=false:=fun i=>by by_cases hi:i<l.length<;>simp[Array.getElem?_replicate,hi]
 refine wp_region_any hm ?_;have e0:FL l rs (fun i=>(Array.replicate l.toArray.size false).getD i false) F l.length=F:=by
  have gen:∀m,FL l rs (fun i=>(Array.replicate l.toArray.size false).getD i false) F m=F:=by
   intro m;induction m with
   |zero=>rfl
   |succ m ih=>rw[FL,hz,if_neg jE,ih]
  exact gen _
 exact Su hok hqv hK w l.toArray.size (Array.replicate l.toArray.size false) jE (fun j o _ hj=>by have:=(hz j).symm.trans hj;cases this) (by rw[List.countP_eq_length.2 (fun i _=>by rw[hz];rfl)];simp) (w.to w.drew) tm h1.drew (by rw[e0];exact h2.ext (Ext.drew w H)) (Ext.drew w H)
end
section
variable {P:U3}{ops:Array Oper}{H:Hp}{K:US->Prop}{F:US}{dst:Option Tmp}{ty:UY}{pos:String}{after:Array Edge}{rest:List Oper}
@[go_sem] def j8g:iD P ops H K [] F=K F:=(rfl)
@[go_sem] def j6a(x:Operand):iD P ops H K (⟨dst,.move x,ty,pos,after,none⟩::rest) F=iD P ops H K rest (cr F dst (bM F x)):=by simp[iD,vq]
@[go_sem] def j2c(x:Operand):iD P ops H K (⟨dst,.assign x,ty,pos,after,none⟩::rest) F=iD P ops H K rest (cr F dst (bM F x)):=by simp[iD,vq]
@[go_sem] def jyf:(∀(x:Operand),iD P ops H K (⟨dst,.nilCheck x,ty,pos,after,none⟩::rest) F=((qa P (bM F x)).1/\iD P ops H K rest (cr F dst (qa P (bM F x)).2)))/\(∀(t:UY) (x:Operand),iD P ops H K (⟨dst,.load t x,ty,pos,after,none⟩::rest) F=((oq P H t (bM F x)).1/\iD P ops H K rest (cr F dst (oq P H t (bM F x)).2)))/\(∀(t:UY) (x:Operand) (f:Nat),iD P ops H K (⟨dst,.fieldAddr t x f,ty,pos,after,none⟩::rest) F=((qz P t (bM F x) f).1/\iD P ops H K rest (cr F dst (qz P t (bM F x) f).2)))/\(∀(as:Array Operand) (ts:Array UY),iD P ops H K (⟨dst,.call ⟨.builtin .len,as,ts⟩,ty,pos,after,none⟩::rest) F=((lP P H .len ts.toList (as.toList.map (bM F))).1/\iD P ops H K rest (cr F dst (lP P H .len ts.toList (as.toList.map (bM F))).2)))/\(∀(op:BinOp) (t:UY) (x y:Operand) (t':UY),iD P ops H K (⟨dst,.binOp op t x y t',ty,pos,after,none⟩::rest) F=((fp P op t (bM F x) (bM F y)).1/\iD P ops H K rest (cr F dst (fp P op t (bM F x) (bM F y)).2)))/\(∀(f:Operand) (as:Array Operand) (ts:Array UY),iD P ops H K (⟨dst,.call ⟨.value f,as,ts⟩,ty,pos,after,none⟩::rest) F=∃r,(eQ P (bM F f) (as.toList.map (bM F)) H fun r' H'=>r'=r/\H'=H)/\iD P ops H K rest (cr F dst r)):=by and_intros<;>(intros;rfl)
end
end Go.Gd