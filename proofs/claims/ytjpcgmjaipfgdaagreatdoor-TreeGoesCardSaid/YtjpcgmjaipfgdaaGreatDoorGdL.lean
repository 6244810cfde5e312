/- Lemmas. No conditions. -/
import Derived.Test.YtjpcgmjaipfgdaaGreatDoorGdE
import Derived.Deep.RegionWith
import Derived.Laws.Append
set_option linter.all false
namespace Go.Gd
open Go
section
variable {P:TL}{w:NW}{H:Hp}
variable{a:Option AV}{v:Option Value}
def lP{i:Option Int}(ha:ru a=some i)(hr:∀x y,a=some x->v=some y->aw w x y)(hs:a.isSome=v.isSome):(i=none/\v=none)\/∃k n,i=some n/\v=some (.int k n):=by
 cases a with
 |none=>
  simp[ru]at ha;cases v with
  |none=>exact .inl ⟨ha.symm,rfl⟩
  |some _=>simp at hs
 |some x=>
  cases v with
  |none=>simp at hs
  |some y=>
   unfold ru at ha;split at ha<;>try cases ha
   ·rename_i h;cases h
   ·rename_i k n h;cases h;have:=db (hr _ _ rfl rfl);subst this;exact .inr ⟨k,n,rfl,rfl⟩
variable{vlo vhi:Option Value}{lo:Option Int}
def ta{isSlice:Bool}{len cap:Nat}{hi:Option Int}(Ta:(lo=none/\vlo=none)\/∃k n,lo=some n/\vlo=some (.int k n))(Wm:(hi=none/\vhi=none)\/∃k n,hi=some n/\vhi=some (.int k n))
  (h0:0<=lo.getD 0) (h1:lo.getD 0<=hi.getD len) (h2:hi.getD len<=cap):(Instr.sliceBounds isSlice len cap vlo vhi none).run P w=.ok ((lo.getD 0).toNat,(hi.getD len).toNat,cap) w:=by
 rcases Ta with⟨rfl,rfl⟩|⟨k,n,rfl,rfl⟩<;>rcases Wm with⟨rfl,rfl⟩|⟨k',m,rfl,rfl⟩<;>simp only[Option.getD_some,Option.getD_none]at*
 ·simp[Instr.sliceBounds]
 ·simp[Instr.sliceBounds,run_sliceBound w _ _ _ _ (show 0<=m from jB) h2]
 ·simp[Instr.sliceBounds,run_sliceBound w _ _ _ _ h0 h1]
 ·simp[Instr.sliceBounds,run_sliceBound w _ _ _ _ (show 0<=m from jB) h2,run_sliceBound w _ _ _ _ h0 (show n<=((m.toNat:Nat):Int) from jB)]
def Hj{len cap:Nat}{k k2:IntKind}{m q:Int}(Ta:(lo=none/\vlo=none)\/∃k n,lo=some n/\vlo=some (.int k n))
  (h0:0<=lo.getD 0) (h1:lo.getD 0<=q) (h2:q<=m) (h3:m<=cap):(Instr.sliceBounds true len cap vlo (some (.int k2 q)) (some (.int k m))).run P w.toWorld=.ok ((lo.getD 0).toNat,q.toNat,m.toNat) w.toWorld:=by
 rcases Ta with⟨rfl,rfl⟩|⟨k1,n,rfl,rfl⟩<;>simp only[Option.getD_some,Option.getD_none]at*
 ·simp[Instr.sliceBounds,run_sliceBound w.toWorld _ _ _ _ (show 0<=m from jB) h3,run_sliceBound w.toWorld _ _ _ _ (show 0<=q from jB) (show q<=((m.toNat:Nat):Int) from jB)]
 ·simp[Instr.sliceBounds,run_sliceBound w.toWorld _ _ _ _ (show 0<=m from jB) h3,run_sliceBound w.toWorld _ _ _ _ (show 0<=q from jB) (show q<=((m.toNat:Nat):Int) from jB),run_sliceBound w.toWorld _ _ _ _ h0 (show n<=((q.toNat:Nat):Int) from jB)]
variable{vmx:Option Value}
def oq{t e:TG}{sz:Nat}(hu:P.underlying t=some (.slice e))(hs:de P e=some sz){A:Option Addr}{n c lo hi mx:Nat}(hb:(Instr.sliceBounds true n c vlo vhi vmx).run P w.toWorld=.ok (lo,hi,mx) w.toWorld) :
  ∃A',(Instr.sliceAt t (.slice A n c) vlo vhi vmx).run P w.toWorld=.ok (.slice A' (hi-lo) (mx-lo)) w.toWorld/\((A=none/\A'=none)\/∃ad,A=some ad/\A'=some (if mx=lo then ad else ad.add (lo*sz))):=by
 cases A with
 |none=>exact⟨none,by simp[Instr.sliceAt,run_underlying hu,Instr.slice,hb,lq hs],.inl ⟨rfl,rfl⟩⟩
 |some ad=>exact⟨some (if mx=lo then ad else ad.add (lo*sz)),by simp only[Instr.sliceAt,run_underlying hu,Instr.slice,hb,lq hs,Sem.run_bind,Result.andThen_ok,Sem.run_pure,Option.map_some];split<;>rfl,.inr ⟨ad,rfl,rfl⟩⟩
def xU{i:Int}(ha:ru a=some (some i))(hr:∀x y,a=some x->v=some y->aw w x y)(hs:a.isSome=v.isSome):∃k,v=some (.int k i):=by
 rcases lP ha hr hs with⟨h,_⟩|⟨k,n,h,rfl⟩
 ·cases h
 ·cases h;exact⟨k,rfl⟩
def qq(ha:ru a=some none)(hr:∀x y,a=some x->v=some y->aw w x y)(hs:a.isSome=v.isSome):v=none:=by
 rcases lP ha hr hs with⟨_,h⟩|⟨k,n,h,rfl⟩
 ·exact h
 ·cases h
def Sl(t:TG){a:AV}{lo hi mx:Option AV}{va:Value}(ha:aw w a va)(Ta:∀x y,lo=some x->vlo=some y->aw w x y)(slo:lo.isSome=vlo.isSome)
  (Wm:∀x y,hi=some x->vhi=some y->aw w x y) (shi:hi.isSome=vhi.isSome) (Wa:∀x y,mx=some x->vmx=some y->aw w x y) (smx:mx.isSome=vmx.isSome):ka P w (Instr.sliceAt t va vlo vhi vmx) (sT P t a lo hi mx):=by
 intro hq;unfold sT at*;split at hq<;>try exact hq.elim
 ·rename_i s l h e1 e2 e3;obtain rfl:=qq e3 Wa smx;have:=db ha;subst this;have ht:=zx hq.1;obtain⟨h0,h1,h2⟩:=hq.2;have hb:=ta (P:=P) (w:=w) (isSlice:=false) (lP e1 Ta slo) (lP e2 Wm shi) h0 h1 h2;exact⟨_,by simp[Instr.sliceAt,run_underlying ht,Instr.slice,hb],.raw _⟩
 ·rename_i x sz css d l h e1 e2 e3;obtain rfl:=qq e3 Wa smx;obtain⟨e,hu,hs⟩:=oM hq.1;obtain⟨h0,h1,h2⟩:=hq.2;have key:∀n c:Nat,n=css.length->n<=c->(Instr.sliceBounds true n c vlo vhi none).run P w.toWorld=.ok ((l.getD 0).toNat,(h.getD css.length).toNat,c) w.toWorld:=fun n c hn hc=>by
   subst hn;exact ta (P:=P) (w:=w) (isSlice:=true) (lP e1 Ta slo) (lP e2 Wm shi) h0 h1 jB
  generalize hL:l.getD 0=L at*;generalize hh:h.getD (css.length:Int)=Hh at*;obtain⟨Ln,rfl⟩:=Int.eq_ofNat_of_zero_le h0;obtain⟨Hn,rfl⟩:=Int.eq_ofNat_of_zero_le (show(0:Int)<=Hh from jB);simp only[Int.toNat_natCast]at key ⊢;have I':((css.drop Ln).take (Hn-Ln)).length=Hn-Ln:=by simp;omega
  cases ha with
  |gz _ _ A c hx=>
   obtain⟨A',B',_⟩:=oq hu hs (A:=A) (key 0 c rfl (Nat.zero_le _));obtain rfl:Hn=0:=by simp at h2;omega
   refine⟨_,B',?_⟩;simp only[Nat.zero_sub,List.take_zero];exact .gz _ _ _ _ (fun h=>by cases h)
  |sl _ _ _ ad c vs hn hc hx Ti T5 hH D' hr=>
   obtain⟨A',B',hA⟩:=oq hu hs (A:=some ad) (key _ c rfl hc);refine⟨_,B',?_⟩;by_cases hz:Hn-Ln=0
   ·rw[hz,List.take_zero];exact .gz _ _ _ _ (fun h=>by cases h)
   ·rcases hA with⟨h,_⟩|⟨ad',h,rfl⟩
    ·cases h
    cases h;rw[jN];have hg:∀i,i<Hn-Ln->((css.drop Ln).take (Hn-Ln)).getD i []=css.getD (Ln+i) []:=fun i hi=>by simp[List.getElem?_take,hi]
    have:=aw.sl (w:=w) (d:=d) false sz ((css.drop Ln).take (Hn-Ln)) (ad.add (Ln*sz)) (c-Ln) (fun j=>vs (Ln*sz+j)) jB jB (fun h=>by cases h) (fun cs Ug=>Ti _ (List.mem_of_mem_drop (List.mem_of_mem_take Ug))) (by rw[po];exact T5) (by rw[po];exact hH)
     (fun i j hi hj=>by
      rw[wB,show Ln*sz+(i*sz+j)=(Ln+i)*sz+j by rw[Nat.add_mul];omega];exact D' _ j jB hj) (fun i j u hi hu=>by
      rw[hg i jB]at hu;rw[show Ln*sz+(i*sz+j)=(Ln+i)*sz+j by rw[Nat.add_mul];omega];exact hr _ j u jB hu)
    rw[I']at this;exact this
 ·rename_i d m sz n h e1 e2 e3;obtain rfl:=qq e3 Wa smx;obtain rfl:=qq e1 Ta slo;obtain⟨e,hu,hs⟩:=oM hq.1;obtain⟨h1,h2⟩:=hq.2;have key:∀c:Nat,n<=c->(Instr.sliceBounds true n c none vhi none).run P w.toWorld=.ok (0,(h.getD n).toNat,c) w.toWorld:=fun c hc=>by
   have:=ta (P:=P) (w:=w) (isSlice:=true) (len:=n) (cap:=c) (lo:=none) (vlo:=none) (.inl ⟨rfl,rfl⟩) (lP e2 Wm shi) jE (by simpa using h1) jB;simpa using this
  cases ha with
  |iA _ _ _ A hn=>
   obtain⟨A',B',_⟩:=oq hu hs (A:=A) (key 0 (Nat.zero_le _));have h0:(h.getD 0).toNat=0:=by simp at h2;omega
   refine⟨_,B',?_⟩;simp only[Nat.sub_zero,Int.ofNat_zero];rw[h0];exact .iA d m sz A' hn
  |rs _ _ _ _ b t c hn hc Ts Uz=>
   obtain⟨A',B',hA⟩:=oq hu hs (A:=some ⟨b,0,none⟩) (key c Ts);refine⟨_,B',?_⟩;rcases hA with⟨h',_⟩|⟨ad',h',rfl⟩
   ·cases h'
   cases h';have:(if c=0 then(⟨b,0,none⟩:Addr)else(⟨b,0,none⟩:Addr).add (0*sz))=⟨b,0,none⟩:=by rw[Nat.zero_mul,An];simp
   rw[this];simp only[Nat.sub_zero];exact .rs d m sz _ b t c hn hc jB Uz
 ·rename_i d m sz n l h e1 e2 e3;obtain rfl:=qq e3 Wa smx;obtain⟨e,hu,hs⟩:=oM hq.1;obtain⟨h0,h1,h2⟩:=hq.2;have key:∀c:Nat,n<=c->(Instr.sliceBounds true n c vlo vhi none).run P w.toWorld=.ok (l.toNat,(h.getD n).toNat,c) w.toWorld:=fun c hc=>
   ta (P:=P) (w:=w) (isSlice:=true) (len:=n) (cap:=c) (lo:=some l) (lP e1 Ta slo) (lP e2 Wm shi) h0 h1 jB
  cases ha with
  |iA _ _ _ A hn=>
   obtain⟨A',B',_⟩:=oq hu hs (A:=A) (key 0 (Nat.zero_le _));refine⟨_,B',?_⟩;have:(h.getD (0:Nat)).toNat-l.toNat=0:=by simp at h1 h2 ⊢;omega
   rw[this];exact .jf d m sz _ _ _
  |rs _ _ _ _ b t c hn hc Ts Uz=>
   obtain⟨A',B',hA⟩:=oq hu hs (A:=some ⟨b,0,none⟩) (key c Ts);refine⟨_,B',?_⟩;by_cases hz:(h.getD n).toNat-l.toNat=0
   ·rw[hz];exact .jf d m sz _ _ _
   ·rcases hA with⟨h',_⟩|⟨ad',h',rfl⟩
    ·cases h'
    cases h';rw[jN,je,Nat.zero_add];exact .rv d m sz _ _ b t _ hn jB
 ·rename_i d m sz n h e1 e2 e3;obtain rfl:=qq e3 Wa smx;obtain rfl:=qq e1 Ta slo;obtain⟨e,hu,hs⟩:=oM hq.1;obtain⟨h1,h2⟩:=hq.2;cases ha with
  |rc _ _ _ _ b t hn hc Ts Uz=>
   have key:(Instr.sliceBounds true n m none vhi none).run P w.toWorld=.ok (0,(h.getD n).toNat,m) w.toWorld:=by have:=ta (P:=P) (w:=w) (isSlice:=true) (len:=n) (cap:=m) (lo:=none) (vlo:=none) (.inl ⟨rfl,rfl⟩) (lP e2 Wm shi) jE (by simpa using h1) jB;simpa using this
   obtain⟨A',B',hA⟩:=oq hu hs (A:=some ⟨b,0,none⟩) key;refine⟨_,B',?_⟩;rcases hA with⟨h',_⟩|⟨ad',h',rfl⟩
   ·cases h'
   cases h';have:(if m=0 then(⟨b,0,none⟩:Addr)else(⟨b,0,none⟩:Addr).add (0*sz))=⟨b,0,none⟩:=by rw[Nat.zero_mul,An];simp
   rw[this];simp only[Nat.sub_zero];exact .rc d m sz _ b t hn hc jB Uz
 ·rename_i d m sz n l h e1 e2 e3;obtain rfl:=qq e3 Wa smx;obtain⟨e,hu,hs⟩:=oM hq.1;obtain⟨h0,h1,h2⟩:=hq.2;cases ha with
  |rc _ _ _ _ b t hn hc Ts Uz=>
   have key:(Instr.sliceBounds true n m vlo vhi none).run P w.toWorld=.ok (l.toNat,(h.getD n).toNat,m) w.toWorld:=
    ta (P:=P) (w:=w) (isSlice:=true) (len:=n) (cap:=m) (lo:=some l) (lP e1 Ta slo) (lP e2 Wm shi) h0 h1 jB
   obtain⟨A',B',hA⟩:=oq hu hs (A:=some ⟨b,0,none⟩) key;refine⟨_,B',?_⟩;by_cases hz:(h.getD n).toNat-l.toNat=0
   ·rw[hz];exact .jf d m sz _ _ _
   ·rcases hA with⟨h',_⟩|⟨ad',h',rfl⟩
    ·cases h'
    cases h';rw[jN,je,Nat.zero_add];exact .rv d m sz _ _ b t _ hn jB
 ·rename_i d m sz n l h x e1 e2 e3;obtain⟨kx,rfl⟩:=xU e3 Wa smx;obtain⟨kh,rfl⟩:=xU e2 Wm shi;obtain⟨e,hu,hs⟩:=oM hq.1;obtain⟨h0,h1,h2,h3⟩:=hq.2;cases ha with
  |rc _ _ _ _ b t hn hc Ts Uz=>
   have key:(Instr.sliceBounds true n m vlo (some (.int kh h)) (some (.int kx x))).run P w.toWorld=.ok ((l.getD 0).toNat,h.toNat,x.toNat) w.toWorld:=
    Hj (P:=P) (w:=w) (len:=n) (cap:=m) (lP e1 Ta slo) h0 h1 h2 jB
   obtain⟨A',B',hA⟩:=oq hu hs (A:=some ⟨b,0,none⟩) key;refine⟨_,B',?_⟩;by_cases hz:h.toNat-(l.getD 0).toNat=0
   ·rw[hz];exact .jf d m sz _ _ _
   ·rcases hA with⟨h',_⟩|⟨ad',h',rfl⟩
    ·cases h'
    cases h';rw[jN,je,Nat.zero_add];exact .rv d m sz _ _ b t _ hn jB
 ·rename_i d m sz o n l h e1 e2 e3;obtain rfl:=qq e3 Wa smx;obtain⟨e,hu,hs⟩:=oM hq.1;obtain⟨h0,h1,h2⟩:=hq.2;have key:∀c:Nat,n<=c->(Instr.sliceBounds true n c vlo vhi none).run P w.toWorld=.ok ((l.getD 0).toNat,(h.getD n).toNat,c) w.toWorld:=fun c hc=>
   ta (P:=P) (w:=w) (isSlice:=true) (len:=n) (cap:=c) (lP e1 Ta slo) (lP e2 Wm shi) h0 h1 jB
  cases ha with
  |jf _ _ _ _ c A=>
   obtain⟨A',B',_⟩:=oq hu hs (A:=A) (key c (Nat.zero_le _));refine⟨_,B',?_⟩;have:(h.getD (0:Nat)).toNat-(l.getD 0).toNat=0:=by simp at h1 h2 ⊢;omega
   rw[this];exact .jf d m sz _ _ _
  |rv _ _ _ _ _ b t c hn Ts=>
   obtain⟨A',B',hA⟩:=oq hu hs (A:=some ⟨b,o*sz,none⟩) (key c Ts);refine⟨_,B',?_⟩;by_cases hz:(h.getD n).toNat-(l.getD 0).toNat=0
   ·rw[hz];exact .jf d m sz _ _ _
   ·rcases hA with⟨h',_⟩|⟨ad',h',rfl⟩
    ·cases h'
    cases h';rw[jN,je,<-Nat.add_mul];exact .rv d m sz _ _ b t _ hn jB
 ·rename_i d m sz n l h x e1 e2 e3;obtain⟨kx,rfl⟩:=xU e3 Wa smx;obtain⟨kh,rfl⟩:=xU e2 Wm shi;obtain⟨e,hu,hs⟩:=oM hq.1;obtain⟨h0,h1,h2,h3⟩:=hq.2;have key:∀c:Nat,n<=c->(Instr.sliceBounds true n c vlo (some (.int kh h)) (some (.int kx x))).run P w.toWorld=.ok ((l.getD 0).toNat,h.toNat,x.toNat) w.toWorld:=fun c hc=>
   Hj (P:=P) (w:=w) (len:=n) (cap:=c) (lP e1 Ta slo) h0 h1 h2 jB
  cases ha with
  |iA _ _ _ A hn=>
   obtain⟨A',B',_⟩:=oq hu hs (A:=A) (key 0 (Nat.zero_le _));refine⟨_,B',?_⟩;have:h.toNat-(l.getD 0).toNat=0:=by simp at h1 h2 h3 ⊢;omega
   rw[this];exact .jf d m sz _ _ _
  |rs _ _ _ _ b t c hn hc Ts Uz=>
   obtain⟨A',B',hA⟩:=oq hu hs (A:=some ⟨b,0,none⟩) (key c Ts);refine⟨_,B',?_⟩;by_cases hz:h.toNat-(l.getD 0).toNat=0
   ·rw[hz];exact .jf d m sz _ _ _
   ·rcases hA with⟨h',_⟩|⟨ad',h',rfl⟩
    ·cases h'
    cases h';rw[jN,je,Nat.zero_add];exact .rv d m sz _ _ b t _ hn jB
 ·rename_i l h e1 e2 e3;obtain rfl:=qq e3 Wa smx;have:=db ha;subst this;obtain⟨_,Ti,h0,h1⟩:=hq;obtain⟨sz,Ti⟩:=Option.isSome_iff_exists.1 Ti;obtain⟨e,hu,hs⟩:=oM Ti;have hb:=ta (P:=P) (w:=w) (isSlice:=true) (len:=0) (cap:=0) (lP e1 Ta slo) (lP e2 Wm shi) jB jF jF;simp only[h0,Int.toNat_zero,h1,Int.ofNat_zero]at hb;exact⟨_,by simp[Instr.sliceAt,run_underlying hu,Instr.slice,hb,lq hs],.raw _⟩
def PZ(s d:TG){a:AV}{v:Value}(h:aw w a v):ka P w (convert s d v) (u9 P s d a):=by
 intro hq;unfold u9 at*;split at hq<;>try exact hq.elim
 ·rename_i k' n k e;have:=db h;subst this;have hd:P.underlying d=some (.int k):=by unfold Au at e;split at e<;>simp_all
  obtain⟨ds,hs⟩:=Option.isSome_iff_exists.1 hq;refine⟨.int k (k.wrap n),?_,.raw _⟩;cases ds<;>simp[convert,run_underlying hs,run_underlying hd,Conv.intToInt]
 ·rename_i s' e;have:=db h;subst this;have hd:=zx hq.2;obtain⟨ds,hs⟩:=Option.isSome_iff_exists.1 hq.1;refine⟨.string s',?_,.raw _⟩;cases ds<;>simp[convert,run_underlying hs,run_underlying hd]
def G3(mx:Bool)(ts:Array TG)(ty:TG){l:TB}{vs:TJ}(h:cd w l vs):ka P w (if mx then Builtin.max_ ts ty vs.toArray else Builtin.min_ ts ty vs.toArray) (xd mx l):=by
 intro hq;unfold xd at*;split at hq<;>try exact hq.elim
 rename_i k a k' b;obtain⟨hl,hr⟩:=h;match vs,hl with
 |[x,y],_=> obtain rfl:k=k':=hq;obtain rfl:=db (hr 0 _ _ rfl rfl);obtain rfl:=db (hr 1 _ _ rfl rfl);cases mx<;>exact⟨_,by simp[Builtin.max_,Builtin.min_,Builtin.max2,Builtin.min2];rfl,by simpa using aw.raw _⟩
theorem zW{pl:Nat->Option (Nat×Nat)}:∀{parts:List (Nat×AV)} {vparts:List (Nat×Value)} {cells:TB} {cur:TI} {out:TB},
  qM pl cells parts=some out->parts.map (·.1)=vparts.map (·.1)->(∀(i:Nat) a v,parts[i]?=some a->vparts[i]?=some v->cd w a.2.cells v.2.cells.toList)->cd w cells cur.toList->
  ∃vs,Instr.fill pl cur vparts=some vs/\cd w out vs.toList
 |[],[],cells,cur,out,h,_,_,hc=>by simp only[qM,Option.some.injEq]at h;subst h;exact⟨cur,rfl,hc⟩
 |[],_::_,_,_,_,_,he,_,_=>by simp at he
 |_::_,[],_,_,_,_,he,_,_=>by simp at he
 |(i,a)::parts,(i',v)::vparts,cells,cur,out,h,he,hr,hc=>by
  simp only[List.map_cons,List.cons.injEq]at he;obtain⟨rfl,he⟩:=he;simp only[qM]at h;split at h
  ·rename_i off k hp;split at h
   ·rename_i hk;have hv:=hr 0 _ _ rfl rfl;simp only at hv;have I':v.cells.size=k:=by have:=hv.1;simp at this;omega
    have V7:cells.length=cur.size:=by simpa using hc.1
    have Td:∀(l:TJ) (o:Nat) (c:TI),(l.toArray.zipIdx.foldl (fun cs (x,j)=>cs.setIfInBounds (o+j) x) c)=(c.toList.take o++l++c.toList.drop (o+l.length)).toArray\/c.size<o+l.length:=by
     intro l o c;by_cases hb:c.size<o+l.length
     ·exact .inr hb
     ·refine .inl ?_;have gen:∀(l:TJ) (s:Nat) (c:TI),o+s+l.length<=c.size->((l.zipIdx s).foldl (fun(cs:TI) (p:Value×Nat)=>cs.setIfInBounds (o+p.2) p.1) c)=(c.toList.take (o+s)++l++c.toList.drop (o+s+l.length)).toArray:=by
       intro l;induction l with
       |nil=>intro s c _;simp
       |cons x l ih=>
        intro s c hb;simp only[List.zipIdx_cons,List.foldl_cons];rw[ih (s+1) _ (by simp at hb ⊢;omega)];apply Array.ext';simp only[Array.toList_setIfInBounds];apply List.ext_getElem?;intro m;simp only[List.length_cons]at hb;rcases Nat.lt_or_ge m (o+s)with h1|h1
        ·rw[List.append_assoc,List.getElem?_append_left jF,List.append_assoc,List.getElem?_append_left jF];simp only[List.getElem?_take,List.getElem?_set];rw[jP,jN,if_pos h1]
        ·rcases Nat.lt_or_ge m (o+s+1)with h2|h2
         ·obtain rfl:m=o+s:=jB;rw[List.append_assoc,List.getElem?_append_left jF,List.append_assoc,List.getElem?_append_right jF];simp only[List.getElem?_take,List.getElem?_set,List.length_take,Array.length_toList];rw[jP];simp only[Nat.add_assoc,if_true];rw[jP,show o+s-min (o+s) c.size=0 from jB];rfl
         ·rw[List.append_assoc,List.append_assoc,List.cons_append,List.getElem?_append_right (l₁:=List.take (o+(s+1)) _) jF,List.getElem?_append_right (l₁:=List.take (o+s) _) jF];simp only[List.length_take,List.length_set,Array.length_toList];rw[show m-min (o+s) c.size=(m-min (o+(s+1)) c.size)+1 from jB,List.getElem?_cons_succ];rcases Nat.lt_or_ge (m-min (o+(s+1)) c.size) l.length with h3|h3
          ·rw[List.getElem?_append_left h3,List.getElem?_append_left h3]
          ·rw[List.getElem?_append_right h3,List.getElem?_append_right h3];simp only[List.getElem?_drop,List.getElem?_set,List.length_cons];rw[jN];congr 1
           omega
      have:=gen l 0 c jB;simp only[Nat.add_zero]at this;rw[<-this,<-Array.foldl_toList];simp
    have T1:¬(cur.size<off+v.cells.toList.length):=by simp;omega
    have hs:=(Td v.cells.toList off cur).resolve_right T1;rw[Array.toArray_toList]at hs;obtain⟨vs,h1,h2⟩:=zW (cur:=(cur.toList.take off++v.cells.toList++cur.toList.drop (off+v.cells.toList.length)).toArray) h he (fun i a v ha hv=>hr (i+1) a v (by simpa using ha) (by simpa using hv)) (by
     refine⟨by simp[ky];omega,fun m x y hx hy=>?_⟩;simp only[ky]at hx;rcases Nat.lt_or_ge m off with g1|g1
     ·rw[List.append_assoc,List.getElem?_append_left jF,List.getElem?_take,if_pos g1]at hx hy;exact hc.2 m x y hx hy
     ·rcases Nat.lt_or_ge m (off+a.cells.length)with g2|g2
      ·rw[List.append_assoc,List.getElem?_append_right jF,List.getElem?_append_left jF]at hx hy;simp only[List.length_take,Array.length_toList]at hx hy;rw[show m-min off cells.length=m-off from jB]at hx;rw[show m-min off cur.size=m-off from jB]at hy;exact hv.2 _ x y hx hy
      ·rw[List.getElem?_append_right jF]at hx hy;simp only[List.length_append,List.length_take,Array.length_toList,List.getElem?_drop]at hx hy;rw[show off+a.cells.length+(m-(min off cells.length+a.cells.length))=m from jB]at hx;rw[show off+v.cells.size+(m-(min off cur.size+v.cells.size))=m from jB]at hy;exact hc.2 m x y hx hy)
    refine⟨vs,?_,h2⟩;simp only[Instr.fill,hp];rw[if_neg jF,hs];exact h1
   ·cases h
  ·cases h
def SS{t:TG}{pl:List (Nat×Nat)}(h:iY P t=some pl):∃fs:Array Field,P.underlying t=some (.struct fs)/\(fs.mapM (m:=Sem) fun f=>do pure (f.offset,<-sizeOf f.type)).run P w.toWorld=.ok pl.toArray w.toWorld:=by
 unfold iY at h;split at h
 ·rename_i fs hu;refine⟨fs,hu,?_⟩;rw[Array.mapM_eq_mapM_toList];have gen:∀(l:List Field) (pl:List (Nat×Nat)),l.mapM (fun f=>(de P f.type).map fun k=>(f.offset,k))=some pl->(l.mapM (m:=Sem) fun f=>do pure (f.offset,<-sizeOf f.type)).run P w.toWorld=.ok pl w.toWorld:=by
   intro l;induction l with
   |nil=>intro pl h;simp at h;subst h;simp
   |cons f l ih=> intro pl h;rw[List.mapM_cons]at h;simp only[Option.bind_eq_bind,Option.bind_eq_some_iff,Option.map_eq_some_iff,Option.pure_def,Option.some.injEq]at h;obtain⟨p,⟨k,hk,rfl⟩,rest,Tr,rfl⟩:=h;rw[List.mapM_cons];simp only[Sem.run_bind,lq hk,Result.andThen_ok,Sem.run_pure,ih rest Tr]
  simp only[Sem.run_map,gen fs.toList pl h,Result.andThen_ok]
 ·cases h
def J3(t:TG){parts:List (Nat×AV)}{vparts:Array (Nat×Value)}(h1:parts.map (·.1)=vparts.toList.map (·.1))(h2:∀(i:Nat) a v,parts[i]?=some a->vparts.toList[i]?=some v->aw w a.2 v.2):ka P w (Instr.build t vparts) (vY P t parts):=by
 intro hq;unfold vY at*;split at hq<;>try exact hq.elim
 rename_i zs pl e1 e2;split at hq<;>try exact hq.elim
 rename_i out hf;obtain⟨z,hz,rfl⟩:=zI (w:=w) e1;obtain⟨fs,hu,hp⟩:=SS (w:=w) e2;simp only[cI,List.all_eq_true]at hq;have Vu:∀(i:Nat) a,parts[i]?=some a->cI a.2.cells=true:=fun i a ha=>by simp only[cI,List.all_eq_true];intro x hx;exact hq x (List.mem_flatten.2 ⟨_,List.mem_map.2 ⟨a,List.mem_of_getElem? ha,rfl⟩,hx⟩)
 obtain⟨vs,g1,g2⟩:=zW (w:=w) (cur:=z.cells) hf h1 (fun i a v ha hv=>(h2 i a v ha hv).gD (Vu i a ha))
  ⟨jE,fun i a v ha hv=>by simp only[List.getElem?_map,Option.map_eq_some_iff]at ha;obtain⟨x,hx,rfl⟩:=ha;rw[hx]at hv;cases hv;exact .raw _⟩
 refine⟨.agg vs,?_,.agg _ _ (by have:=g2.1;simpa using this) fun i a v ha hv=>g2.2 i a v ha (by simpa using hv)⟩;have e:(fun i:Nat=>pl.toArray[i]?)=(fun i:Nat=>pl[i]?):=by funext i;simp
 simp only[Instr.build,Sem.run_bind,hz,Result.andThen_ok,run_underlying hu,hp,e,g1,Sem.run_pure]
end
section
variable {P:TL}{w:NW}{H:Hp}{ρ:Operand->Value}{ev:TH}
def vu(hr:∀x,aw w (ev x) (ρ x))(l:List Operand):cd w (l.map ev) (l.map ρ):=
 ⟨jE,fun i a v ha hv=>by simp only[List.getElem?_map,Option.map_eq_some_iff]at ha hv;obtain⟨x,hx,rfl⟩:=ha;obtain⟨y,hy,rfl⟩:=hv;rw[hx]at hy;cases hy;exact hr x⟩
def Aq(hr:∀x,aw w (ev x) (ρ x))(o:Option Operand):∀x y,o.map ev=some x->o.map ρ=some y->aw w x y:=by
 intro x y hx hy;cases o with
 |none=>cases hx
 |some z=>cases hx;cases hy;exact hr z
def mj{s:Sem Value}{q:PA}(hq:q.1)(h:ka P w s q):∃v,(do pure (Next.value (<-s)):Sem Next).run P w.toWorld=.ok (.value v) w.toWorld/\aw w q.2 v:=by obtain⟨v,h1,h2⟩:=h hq;exact⟨v,by simp[h1],h2⟩
def Fk{c a b:Operand}{x y z:AV}{dst:Option Tmp}{ty:TG}{pos:String}{after:Array Edge}{guard:Option (Nat×Bool)}(hc:aw w x (ρ c))(ha:aw w y (ρ a))(hb:aw w z (ρ b))(hq:(nA x y z).1) :
  ∃v,(execOp ρ ⟨dst,.pick c a b,ty,pos,after,guard⟩).run P w.toWorld=.ok (.value v) w.toWorld/\aw w (nA x y z).2 v:=by
 obtain⟨v,h1,h2⟩:=H5 (P:=P) hc ha hb hq;refine⟨v,?_,h2⟩;simp only[execOp,Sem.run_bind,Sem.run_pure]at h1 ⊢;cases hb:(asBool (ρ c)).run P w with
 |ok x w'=>rw[hb]at h1;simp only[Result.andThen_ok,Result.ok.injEq]at h1 ⊢;exact⟨by rw[h1.1],h1.2⟩
 |halt e w'=>rw[hb]at h1;simp at h1
def zv(o:Oper)(hw:aI w H)(hr:∀x,aw w (ev x) (ρ x))(hq:(vq P ev H o.op).1):∃v,(execOp ρ o).run P w.toWorld=.ok (.value v) w.toWorld/\aw w (vq P ev H o.op).2 v:=by
 obtain⟨dst,op,ty,pos,after,guard⟩:=o;cases op
 case move x=>exact⟨_,rfl,hr x⟩
 case assign x=>exact⟨_,rfl,hr x⟩
 case pick c a b=>
  obtain⟨v,h1,h2⟩:=H5 (P:=P) (hr c) (hr a) (hr b) hq;refine⟨v,?_,h2⟩;simp only[execOp,Sem.run_bind,Sem.run_pure]at h1 ⊢;cases hb:(asBool (ρ c)).run P w with
  |ok x w'=>rw[hb]at h1;simp only[Result.andThen_ok,Result.ok.injEq]at h1 ⊢;exact⟨by rw[h1.1],h1.2⟩
  |halt e w'=>rw[hb]at h1;simp at h1
 case nilCheck x=>exact Pf x rfl (hr x) _ rfl hq
 case binOp op t x y t'=>exact mj hq (IJ op t x y (hr x) (hr y))
 case unOp op t x=>exact mj hq (SF op (hr x))
 case load t a=>exact mj hq (QF t (hr a) hw)
 case fieldAddr t a f=>exact mj hq (K5 t f (hr a))
 case field t a f=>exact mj hq (OU t f (hr a))
 case indexAddr t a i=>exact mj hq (NU t (hr a) (hr i))
 case index t a i=>exact mj hq (Jw t (hr a) (hr i))
 case extract a i=>exact mj hq (P1 (hr a) i)
 case slice t a lo hi mx=>exact mj hq (Sl t (hr a) (Aq hr lo) (by cases lo<;>rfl) (Aq hr hi) (by cases hi<;>rfl) (Aq hr mx) (by cases mx<;>rfl))
 case makeFunc fn first captured=>
  have:=KS (P:=P) fn (vu hr first.toList) (vu hr captured.toList);have e1:(first.toList.map ρ).toArray=first.map ρ:=by rw[<-Array.toList_map,Array.toArray_toList]
  have e2:(captured.toList.map ρ).toArray=captured.map ρ:=by rw[<-Array.toList_map,Array.toArray_toList]
  rw[e1,e2]at this;exact mj hq this
 case makeInterface t x=>exact mj hq (KX t (hr x))
 case convert s d x=>exact mj hq (PZ s d (hr x))
 case build t parts=> refine mj hq (J3 t jE fun i a v ha hv=>?_);simp only[List.getElem?_map,Option.map_eq_some_iff,Array.toList_map,Array.getElem?_toList]at ha hv;obtain⟨x,hx,rfl⟩:=ha;obtain⟨y,hy,rfl⟩:=hv;rw[hx]at hy;cases hy;exact hr x.2
 case call c=>
  obtain⟨callee,args,argTypes⟩:=c;cases callee
  case builtin b=>
   simp only[vq]at hq ⊢;generalize Z9:argTypes.toList=ts at*;obtain rfl:argTypes=ts.toArray:=by rw[<-Z9]
   have Vc:=vu hr args.toList;have UF:args.map ρ=(args.toList.map ρ).toArray:=by rw[<-Array.toList_map,Array.toArray_toList]
   have B':∀s:Sem Value,(∀cs,builtin b ts.toArray ty cs (args.toList.map ρ).toArray=(do pure (Next.value (<-s))))->(execOp ρ ⟨dst,.call ⟨.builtin b,args,ts.toArray⟩,ty,pos,after,guard⟩)=(do pure (Next.value (<-s))):=by intro s hs;simp only[execOp,resolve,pure_bind,invoke,UF];exact hs _
   generalize hus:args.toList.map ρ=us at*;generalize hals:args.toList.map ev=als at*;unfold mc at*;split at hq<;>try exact hq.elim
   ·rename_i t ts x als;cases us with
    |nil=>have:=Vc.1;simp at this
    |cons u us=> rw[B' _ (fun _=>rfl)];exact mj hq (RB ty t ts us hw (Vc.2 0 _ _ rfl rfl))
   ·rename_i t ts x als;cases us with
    |nil=>have:=Vc.1;simp at this
    |cons u us=> rw[B' _ (fun _=>rfl)];exact mj hq (RT ty t ts us (Vc.2 0 _ _ rfl rfl))
   ·rw[B' _ (fun _=>rfl)];have:=G3 (P:=P) true ts.toArray ty Vc;exact mj hq this
   ·rw[B' _ (fun _=>rfl)];have:=G3 (P:=P) false ts.toArray ty Vc;exact mj hq this
  all_goals exact hq.elim
 all_goals exact hq.elim
end
universe u
def aT(P:Program)(f:FuncId):Bool:=match P.funcs[f]? with
 | some fn => fn.body.isSome && !(fn.name == "runtime.NumGoroutine")
 |none=>false
def aB(P:TL)(f:FuncId)(args:TB)(r:AV):Prop:=ab P f args [] fun r' l'=>r'=r/\l'=[]
def di(P:TL)(f:FuncId)(args:TB)(H:Hp)(K:S8):Prop:=
 ∀(w:NW) (vs:TI),aI w H->bq w args vs->Calls P f vs w.toWorld fun e W=>∃v r H' w',W=NW.toWorld w'/\e=.returned v/\K r H'/\aI w' H'/\aw w' r v/\Ext w H w' H'
theorem di.mono{P:TL}{f:FuncId}{args:TB}{H:Hp}{K K':S8}(h:di P f args H K)(hk:∀r H,K r H->K' r H):di P f args H K':=
 fun w vs h1 h2=>(h w vs h1 h2).mono fun _ _ ⟨v,r,H',w',e0,e,k,g⟩=>⟨v,r,H',w',e0,e,hk _ _ k,g⟩
def Bh:AV->Option (FuncId×TB×TB)
 |.raw (.func (.func f) first captured)=>some (f,first.toList.map .raw,captured.toList.map .raw)
 |.dP f cs=>some (f,[],cs)
 |.bd f fs=>some (f,fs,[])
 |_=>none
-- what follows is hidden from simp: an argument that a later one's type hangs on is held fixed
inductive im{α:Sort u}(a:α):Type
 |mk
def vR(H:Hp)(A:Nat->Prop)(_:im A):Prop:=∃i,H.get i=none/\A i
def vn(P:TL)(H:Hp)(t:TG)(a x:AV)(K:S8):Prop:=match a,de P t with
 |.pt i m k j,some n=>match H.get i with
  |some r=>(cI x.cells=true/\x.cells.length=n/\Ab r m k j n)/\K .any (H.put i (yr r k j x.cells))
  |none=>False
 |_,_=>False
def nH(P:TL)(H:Hp)(t:TG)(K:S8):Prop:=match dM P t with
 |some zs=>vR H (fun i=>K (.pt i 0 0 0) (H.put i (.var t (zs.map .raw)))) .mk
 |none=>False
def qE(H:Hp)(t:TG)(x:AV)(K:S8):Prop:=cI x.cells=true/\vR H (fun i=>K (.pt i 0 0 0) (H.put i (.var t x.cells))) .mk
def xJ(sz:Nat):Nat->List (Nat×AV)->Prop
 |_,[]=>True
 |k,(i,a)::rest=>(i=k/\cI a.cells=true/\a.cells.length=sz)/\xJ sz (k+1) rest
theorem Gw{sz:Nat}:∀{k:Nat} {l:List (Nat×AV)},xJ sz k l->l.map (·.1)=List.range' k l.length/\∀p∈l,cI p.2.cells=true/\p.2.cells.length=sz
 |_,[],_=>⟨rfl,fun p hp=>by simp at hp⟩
 |k,(i,a)::rest,h=>by
  obtain⟨⟨rfl,h1,h2⟩,h3⟩:=h;obtain⟨g1,g2⟩:=Gw h3;refine⟨by simp[g1,List.range'_succ],fun p hp=>?_⟩;rcases List.mem_cons.1 hp with rfl|hp
  ·exact⟨h1,h2⟩
  ·exact g2 p hp
def l7(parts:List (Nat×AV)):S9:=parts.map (·.2.cells)
def rT(e:TG)(sz:Nat)(css:S9)(H:Hp)(K:S8):Prop:=
 (aW dU css.flatten=true/\K (.sl true sz css []) H)\/(0<sz/\∃i,H.get i=none/\K (.rs i css.length sz css.length) (H.put i (.aF e sz css)))
def oz(P:TL)(H:Hp)(t:TG)(n:Nat)(parts:List (Nat×AV))(K:S8):Prop:=match ij P t with
 |some e=>match de P e with
  |some sz=>(parts.length=n/\xJ sz 0 parts/\n*sz<=16777216/\(n*sz=0\/(dM P e).isSome=true))/\
   rT e sz (l7 parts) H K
  |none=>False
 |none=>False
def p9(P:TL)(ne:Bool)(t:TG)(x y:AV)(H:Hp)(K:S8):Prop:=match x,y with
 |.sl _ _ css _,.raw (.slice none 0 0)=>gT P t=true/\∀b:Bool,(b=true->css=[])->K (.raw (.bool (ne ^^ b))) H
 |.rs _ _ _ n,.raw (.slice none 0 0)=>gT P t=true/\∀b:Bool,(b=true->n=0)->K (.raw (.bool (ne ^^ b))) H
 |x,y=>(fF P (if ne then .neq else .eql) t x y).1/\K (fF P (if ne then .neq else .eql) t x y).2 H
def tE(H:Hp):AV->Option (Prop×S9)
 |.sl _ _ css _=>some (True,css)
 |.rs i m sz n=>match H.get i with
  |some (.aF _ sz' css)=>some (sz'=sz/\m=css.length/\n<=m,css.take n)
  |_=>none
 |.rv i m sz o n=>match H.get i with
  |some (.aF _ sz' css)=>some (sz'=sz/\m=css.length/\o+n<=m,(css.drop o).take n)
  |_=>none
 |.raw (.slice none 0 0)=>some (True,[])
 |_=>none
def ki(P:TL)(t:TG):Nat:=((P.info? t).map (·.bytes)).getD 0
def room(by_ n:Nat):Prop:=n*by_<=140737488355328/\n<=9223372036854775807
def dr(css:S9)(n:Nat)(ys:S9):S9:=css.take n++ys++css.drop (n+ys.length)
def uc(i:Nat)(e:TG)(m sz n:Nat)(css ys:S9)(H:Hp)(K:S8):Prop:=if n=m then K (.rs i (m+ys.length) sz (n+ys.length)) (H.put i (.aF e sz (css++ys)))else K (.rs i (max m (n+ys.length)) sz (n+ys.length)) (H.put i (.aF e sz (dr css n ys)))
def Pb(css ys:S9):dr css css.length ys=css++ys:=by simp[dr]
variable{css:S9}{n:Nat}
def ur(ys:S9)(h:n<=css.length):(dr css n ys).length=max css.length (n+ys.length):=by simp[dr];omega
variable{sz:Nat}{H:Hp}{K:S8}
def Ma{i:Nat}{e:TG}{ys:S9}(h:uc i e css.length sz n css ys H K):K (.rs i (max css.length (n+ys.length)) sz (n+ys.length)) (H.put i (.aF e sz (dr css n ys))):=by
 unfold uc at h;split at h
 ·rename_i e;subst e;rw[Pb,Nat.max_eq_right jB];exact h
 ·exact h
def CG(by_:Nat)(e:TG)(sz:Nat)(ys:S9)(a:AV)(H:Hp)(K:S8):Prop:=match a with
 |.rs i m sz' n=>match H.get i with
  |some (.aF e' sz'' css)=>(e'=e/\sz'=sz/\sz''=sz/\m=css.length/\n<=m/\room by_ (n+ys.length))/\uc i e m sz n css ys H K
  |_=>False
 |.raw (.slice none 0 0)=>room by_ ys.length/\vR H (fun i=>K (.rs i ys.length sz ys.length) (H.put i (.aF e sz ys))) .mk
 |.sl true sz' css _=>(sz'=sz/\room by_ (css.length+ys.length)/\(css.length=0\/0<ys.length))/\vR H (fun i=>K (.rs i (css.length+ys.length) sz (css.length+ys.length)) (H.put i (.aF e sz (css++ys)))) .mk
 |_=>False
def zi(P:TL)(t:TG)(a x:AV)(H:Hp)(K:S8):Prop:=match ij P t with
 |some e=>match de P e,dM P e,tE H x with
  |some sz,some zs,some (c,ys)=>(zs.length=sz/\0<sz/\c/\Good sz ys)/\CG (ki P e) e sz ys a H K
  |_,_,_=>False
 |none=>False
def p6(P:TL)(t t':TG)(a x:AV)(H:Hp)(K:S8):Prop:=
 ∀(w:NW) va vx ty,aI w H->aw w a va->aw w x vx->∃(w':NW) (H':Hp) (r:AV) (v:Value),(Builtin.append_ #[t,t'] ty #[va,vx]).run P w.toWorld=.ok v w'.toWorld/\K r H'/\aI w' H'/\aw w' r v/\Ext w H w' H'
def pI(P:TL)(b:Builtin)(ts:List TG)(args:TB)(H:Hp)(K:S8):Prop:=
 ∀(w:NW) vs ty cs,aI w H->cd w args vs->∃(w':NW) (H':Hp) (r:AV) (v:Value),(builtin b ts.toArray ty cs vs.toArray).run P w.toWorld=.ok (.value v) w'.toWorld/\K r H'/\aI w' H'/\aw w' r v/\Ext w H w' H'
def jy(P:TL)(o:Op)(ty:TG)(ev:TH)(H:Hp)(K:S8):Prop:=
 ∀(w:NW) ρ dst pos after guard,aI w H->(∀x∈o.operands.toList,aw w (ev x) (ρ x))->∃(w':NW) (H':Hp) (r:AV),K r H'/\aI w' H'/\Ext w H w' H'/\
  ((∃v,(execOp ρ ⟨dst,o,ty,pos,after,guard⟩).run P w.toWorld=.ok (.value v) w'.toWorld/\aw w' r v)\/((execOp ρ ⟨dst,o,ty,pos,after,guard⟩).run P w.toWorld=.ok .skip w'.toWorld/\r=.any))
def tv(P:TL)(f:FuncId)(args:TB)(H:Hp)(K:S8):Prop:=
 ∀(w:NW) vs,aI w H->bq w args vs->∃(v:Value) (w':NW) (r:AV) (H':Hp),(callFunc f vs).run P w.toWorld=.ok (.value v) w'.toWorld/\K r H'/\aI w' H'/\aw w' r v/\Ext w H w' H'
def ff(P:TL)(f:AV)(args:TB)(H:Hp)(K:S8):Prop:=match Bh f with
 |some (f,first,captured)=>(aT P f=true/\di P f (first++args++captured) H K)\/tv P f (first++args++captured) H K
 |none=>False
def qp(P:TL)(a:AV)(m:String)(args:TB)(H:Hp)(K:S8):Prop:=match a with
 |.iG t v=>match oG P t m with
  |some f=>ff P (.raw (.func (.func f) #[] #[])) (v::args) H K
  |none=>False
 |_=>False
def dn:Op->Bool
 |.box .. |.alloc _|.store .. |.buildSlice .. |.makeMap .. |.makeSlice .. |.mapUpdate .. |.insert .. |.lookup .. |.range .. |.next .. |.entry .. |.typeAssert ..=>false
 |.binOp .eql .. |.binOp .neq ..=>false
 |.call { callee:=.builtin b,.. }=>match b with
  |.len|.cap|.max|.min=>true
  |_=>false
 |.call _=>false
 |_=>true
def vc(P:TL)(ev:TH)(H:Hp)(ty:TG)(K:S8):Op->Prop
 |.box t x=>qE H t (ev x) K
 |.alloc t=>nH P H t K
 |.store t a x=>vn P H t (ev a) (ev x) K
 |.buildSlice t n parts=>oz P H t n (parts.toList.map fun p=>(p.1,ev p.2)) K
 |.binOp .eql t x y _=>p9 P false t (ev x) (ev y) H K
 |.binOp .neq t x y _=>p9 P true t (ev x) (ev y) H K
 |.call { callee:=.value f,args,.. }=>ff P (ev f) (args.toList.map ev) H K
 |.call { callee:=.invoke r m,args,.. }=>qp P (ev r) m (args.toList.map ev) H K
 |.call { callee:=.builtin .append,args,argTypes }=>match argTypes.toList,args.toList with
  |[t,t'],[a,x]=>p6 P t t' (ev a) (ev x) H K
  |_,_=>False
 |.call { callee:=.builtin b,args,argTypes }=>if dn (.call ⟨.builtin b,args,argTypes⟩)then(vq P ev H (.call ⟨.builtin b,args,argTypes⟩)).1/\K (vq P ev H (.call ⟨.builtin b,args,argTypes⟩)).2 H else pI P b argTypes.toList (args.toList.map ev) H K
 |o=>if dn o then(vq P ev H o).1/\K (vq P ev H o).2 H else jy P o ty ev H K
section
variable {P:TL}{ops:Array Oper}{F:TB}{H:Hp}
variable{K:S8}
def QY{o:Oper}(hq:(vq P (cr F) H o.op).1)(hk:K (vq P (cr F) H o.op).2 H):BQ P o F H K:=fun w tm h1 h2=>by obtain⟨v,hr,hv⟩:=zv o h1 (fun x=>h2.eval [] x) hq;exact⟨w,H,_,hk,h1,Ext.refl w H,.inl ⟨v,hr,hv⟩⟩
theorem It{sz:Nat}:∀(parts:List (Nat×AV)) (k:Nat) (pre zs:TB),parts.map (·.1)=List.range' k parts.length->(∀p∈parts,p.2.cells.length=sz)->pre.length=k*sz->zs.length=parts.length*sz->
  qM (fun i=>some (i*sz,sz)) (pre++zs) parts=some (pre++(parts.map (·.2.cells)).flatten)
 |[],k,pre,zs,_,_,_,hz=>by
  have:zs=[]:=by simpa using hz
  simp[qM,this]
 |(i,a)::parts,k,pre,zs,hp,hs,hk,hz=>by
  simp only[List.map_cons,List.length_cons,List.range'_succ,List.cons.injEq]at hp;obtain⟨rfl,hp⟩:=hp;have ha:a.cells.length=sz:=hs (i,a) jE;have T2:zs.length=parts.length*sz+sz:=by rw[hz,List.length_cons,Nat.add_mul,Nat.one_mul]
  simp only[qM];rw[if_pos ⟨ha,by simp;omega⟩];have e:ky (pre++zs) (i*sz) a.cells=(pre++a.cells)++zs.drop sz:=by
   unfold ky;rw[<-hk,List.take_left',List.drop_append,ha]
   ·simp
   ·rfl
  rw[e,It parts (i+1) (pre++a.cells) (zs.drop sz) hp (fun p hp=>hs p (by simp[hp])) (by simp[hk,ha,Nat.add_mul]) jF];simp[List.append_assoc]
variable{w:NW}
def L6{l:TB}{vs:TJ}(h:cd w l vs){k:Nat}{u:AV}(hu:l[k]?=some u):aw w u (vs.toArray.getD k undef):=by
 have hk:k<vs.length:=by rw[<-h.1];exact(List.getElem?_eq_some_iff.1 hu).1
 refine h.2 k u _ hu ?_;simp[hk]
variable{t:TG}
def JI{n:Nat}{parts:List (Nat×AV)}{vparts:Array (Nat×Value)}(hw:aI w H)(h1:parts.map (·.1)=vparts.toList.map (·.1))(h2:∀(i:Nat) a v,parts[i]?=some a->vparts.toList[i]?=some v->aw w a.2 v.2)
  (hv:oz P H t n parts K):∃(w':NW) (H':Hp) (r:AV) (v:Value),(Instr.buildSlice t n vparts).run P w.toWorld=.ok v w'.toWorld/\K r H'/\aI w' H'/\aw w' r v/\Ext w H w' H':=by
 unfold oz at hv;split at hv;rotate_left
 ·exact hv.elim
 rename_i e he;split at hv;rotate_left
 ·exact hv.elim
 rename_i sz UW;obtain⟨⟨I',hok,hn,hz⟩,hk⟩:=hv;have hu:P.underlying t=some (.slice e):=by unfold ij at he;split at he<;>simp_all
 obtain⟨hp,hs⟩:=Gw hok;rw[I',<-List.range_eq_range']at hp;have hzr:∃z:TI,(n*sz=0/\z=#[])\/(n*sz≠0/\∃v,(zeroValue e).run P w.toWorld=.ok v w.toWorld/\v.cells=z):=by
  by_cases h0:n*sz=0
  ·exact⟨#[],.inl ⟨h0,rfl⟩⟩
  ·have T2:=hz.resolve_left h0;obtain⟨zs,W4⟩:=Option.isSome_iff_exists.1 T2;obtain⟨z,Ty,_⟩:=zI (w:=w.toWorld) W4;exact⟨z.cells,.inr ⟨h0,z,Ty,rfl⟩⟩
 obtain⟨z,hz⟩:=hzr;generalize V7:(Array.range (n*sz)).map (z[· % z.size]!)=cur;have Ug:cur.size=n*sz:=by subst V7;simp
 have hf:=It (sz:=sz) parts 0 [] (cur.toList.map .raw) (by rw[hp,I',List.range_eq_range']) (fun p hp=>(hs p hp).2) jE (by simp[Ug,I']);simp only[List.nil_append]at hf;obtain⟨vs,g1,g2⟩:=zW (w:=w) (cur:=cur) hf h1 (fun i a v ha hv=>(h2 i a v ha hv).gD (hs _ (List.mem_of_getElem? ha)).1)
  ⟨jE,fun i a v ha hv=>by simp only[List.getElem?_map,Option.map_eq_some_iff]at ha;obtain⟨x,hx,rfl⟩:=ha;rw[hx]at hv;cases hv;exact .raw _⟩
 have B':(Instr.buildSlice t n vparts).run P w.toWorld=.ok (.slice (some ⟨w.heap.size,0,none⟩) n n) (w.alloc (.cells vs e)):=by
  have U2:¬(n*sz>2 ^ 24):=jB;rcases hz with⟨h0,rfl⟩|⟨h0,v,hv,rfl⟩
  ·simp only[Instr.buildSlice,Sem.run_bind,run_underlying hu,Result.andThen_ok,lq UW,if_neg U2,if_pos h0,Sem.run_pure,V7,g1,newRow,run_newObj];rfl
  ·simp only[Instr.buildSlice,Sem.run_bind,run_underlying hu,Result.andThen_ok,lq UW,if_neg U2,if_neg h0,hv,Sem.run_pure,V7,g1,newRow,run_newObj];rfl
 have Uk:(l7 parts).length=n:=by simp[l7,I']
 have Yd:∀cs∈l7 parts,cs.length=sz:=fun cs Ug=>by obtain⟨p,hp,rfl⟩:=List.mem_map.1 Ug;exact(hs p hp).2
 have Ux:(l7 parts).flatten.length=n*sz:=by rw[gh Yd,Uk]
 have VG:vs.size=n*sz:=by have:=g2.1;simp only[Array.length_toList]at this;rw[<-this];exact Ux
 rcases hk with⟨Te,hk⟩|⟨h0,i,hi,hk⟩
 ·have ex:=Ext.fk hw (.cells vs e);refine⟨_,H,_,_,B',hk,hw.fk _,?_,ex⟩;by_cases h0:n=0
  ·have:l7 parts=[]:=List.length_eq_zero_iff.1 jB;rw[this,h0];exact .gz true sz _ 0 (fun _=>rfl)
  ·have:=aw.sl (w:=w.to (w.alloc (.cells vs e))) (d:=[]) true sz (l7 parts) ⟨w.heap.size,0,none⟩ n (fun j=>vs.getD j undef) jB jB (fun _=>⟨Uk.symm,vs,e,heap_alloc_new w.toWorld _⟩) Yd jE (fun h=>by have:=hw.fin _ h;simp at this) (fun i j hi hj=>by
    rw[je,sD w.heap.size _ vs e (0,0) (heap_alloc_new w.toWorld _)];have:=zo hi hj;rw[Uk]at this;simp[show i*sz+j<vs.size from jB]) (fun i j u hi hu=>by
    have hj:j<sz:=by have:=(List.getElem?_eq_some_iff.1 hu).1;rwa [u6 Yd hi]at this
    have hx:=L6 g2 (k:=i*sz+j) (u:=u) (by rw[<-hu];exact pW Yd hi hj);rw[Array.toArray_toList]at hx;refine(hx.lb (k8 Te (i:=i*sz+j) (by rw[<-hu];exact pW Yd hi hj))).aU ex.toKeep.bare (l6 u))
   rw[Uk]at this;exact this
 ·obtain⟨q1,q2⟩:=vf (row:=.aF e sz (l7 parts)) hw (hw.none hi _) (fun r' hr=>by rw[hi]at hr;cases hr) ⟨h0,Yd⟩ vs ⟨rfl,by show(l7 parts).flatten.length<=_;omega⟩ (fun k a v ha hv=>g2.2 k a v ha (by simpa using hv));refine⟨_,_,_,_,B',hk,q1,?_,q2⟩;have:=aw.rs (w:=((w.to (w.alloc ((Row.aF e sz (l7 parts)).obj vs))).ga w.heap.size).name i (Row.aF e sz (l7 parts)).fB (.at w.heap.size vs.size (Row.aF e sz (l7 parts)).bB)) i (l7 parts).length sz (l7 parts).length w.heap.size vs.size n (NW.cw _ _ _ _) VG.symm jB h0;rw[Uk]at this ⊢;exact this
def FB(ne:Bool)(t:TG){a b:AV}{va vb:Value}(x y:Operand)(ha:aw w a va)(hb:aw w b vb)(hv:p9 P ne t a b H K) :
  ∃r v,(do eqGuard (if ne then .neq else .eql) t x y va vb;binOp (if ne then .neq else .eql) t va vb:Sem Value).run P w.toWorld=.ok v w.toWorld/\K r H/\aw w r v:=by
 have key:∀{n:Nat},gT P t=true->(∀b:Bool,(b=true->n=0)->K (.raw (.bool (ne ^^ b))) H)->(∃A c,va=.slice A n c/\(A=none->n=0))->vb=.slice none 0 0->
   ∃r v,(do eqGuard (if ne then .neq else .eql) t x y va vb;binOp (if ne then .neq else .eql) t va vb:Sem Value).run P w.toWorld=.ok v w.toWorld/\K r H/\aw w r v:=fun{n} h1 h2 h3 h4=>by
  obtain⟨e,hu⟩:=oT h1;obtain⟨A,c,rfl,hA⟩:=h3;subst h4;have he:(Op.equal t (.slice A n c) (.slice none 0 0)).run P w.toWorld=.ok A.isNone w.toWorld:=by refine rj (fun d=>?_);cases A<;>simp[Op.equalIn,run_underlying hu]
  obtain⟨v,h1,h3⟩:=ry (P:=P) (w:=w) (ne:=ne) (t:=t) (x:=x) (y:=y) (fun op=>eqGuard_at_slice _ _ _ _ _ _ _ _) rfl rfl he;exact⟨_,v,h1,h2 A.isNone (fun h=>hA (by simpa using h)),h3⟩
 unfold p9 at hv;split at hv
 ·rename_i z sz css _;refine key (n:=css.length) hv.1 (fun b hb=>hv.2 b fun h=>List.length_eq_zero_iff.1 (hb h)) ?_ (db hb);cases ha with
  |gz _ _ A c _=>exact⟨A,c,rfl,fun _=>rfl⟩
  |sl _ _ _ ad c _ _ _ _ _ _ _ _ _=>exact⟨some ad,c,rfl,fun h=>by cases h⟩
 ·rename_i i m sz n;refine key (n:=n) hv.1 hv.2 ?_ (db hb);cases ha with
  |iA _ _ _ A _=>exact⟨A,0,rfl,fun _=>rfl⟩
  |rs _ _ _ _ b t c _ _ _ _=>exact⟨some ⟨b,0,none⟩,c,rfl,fun h=>by cases h⟩
 ·obtain⟨v,h1,h2⟩:=IJ (P:=P) (if ne then .neq else .eql) t x y ha hb hv.1;exact⟨_,v,h1,hv.2,h2⟩
-- appends
def cd.append{a b:TB}{x y:TJ}(h:cd w a x)(k:cd w b y):cd w (a++b) (x++y):=by
 refine⟨by simp[h.1,k.1],fun i u v hu hv=>?_⟩;rcases Nat.lt_or_ge i a.length with h1|h1
 ·rw[List.getElem?_append_left h1]at hu;rw[List.getElem?_append_left (by rw[<-h.1];exact h1)]at hv;exact h.2 i u v hu hv
 ·rw[List.getElem?_append_right h1]at hu;rw[List.getElem?_append_right (by rw[<-h.1];exact h1),<-h.1]at hv;exact k.2 _ u v hu hv
def Ba(w:NW)(sz:Nat)(v:Value)(ys:S9):Prop:=∃A c news,v=.slice A ys.length c/\cd w ys.flatten news/\(0<ys.length->∃ad,A=some ad/\∀(j:Nat) v,news[j]?=some v->w.cell? (ad.add j)=some v)
variable{sz:Nat}
def vP(A:Option Addr)(c:Nat):Ba w sz (.slice A 0 c) []:=⟨A,c,[],rfl,⟨rfl,fun i a v h=>by simp at h⟩,fun h=>by simp at h⟩
variable{ys:S9}
def zR{c:Nat}{ad:Addr}(hl:∀y∈ys,y.length=sz)(h:∀i j,i<ys.length->j<sz->∃v,w.cell? (ad.add (i*sz+j))=some v/\∀u,(ys.getD i [])[j]?=some u->aw w u v):Ba w sz (.slice (some ad) ys.length c) ys:=by
 have Ux:=gh hl;refine⟨some ad,c,(List.range (ys.length*sz)).map fun k=>(w.cell? (ad.add k)).getD undef,rfl,⟨by simp[Ux],fun k a v ha hv=>?_⟩,fun _=>⟨ad,rfl,fun k v hv=>?_⟩⟩
 ·have hk:k<ys.length*sz:=by have:=(List.getElem?_eq_some_iff.1 ha).1;omega
  obtain⟨i,j,hi,hj,rfl⟩:=uA hk;rw[pW hl hi hj]at ha;obtain⟨v',h1,h2⟩:=h i j hi hj;simp only[List.getElem?_map,List.getElem?_range hk,Option.map_some,Option.some.injEq,h1,Option.getD_some]at hv;subst hv;exact h2 a ha
 ·have hk:k<ys.length*sz:=by have:=(List.getElem?_eq_some_iff.1 hv).1;simpa using this
  obtain⟨i,j,hi,hj,rfl⟩:=uA hk;obtain⟨v',h1,h2⟩:=h i j hi hj;simp only[List.getElem?_map,List.getElem?_range hk,Option.map_some,Option.some.injEq,h1,Option.getD_some]at hv;subst hv;exact h1
variable{css:S9}
def rL(hw:aI w H){i:Nat}{e:TG}{b t s:Nat}(hi:H.get i=some (.aF e sz css))(hn:w.nm i css.length=some (.at b t s)){k j:Nat}(hk:k<css.length)(hj:j<sz) :
  s=sz/\(∀cs∈css,cs.length=sz)/\css.length*sz<=t/\∃v,w.cell? ⟨b,k*sz+j,none⟩=some v/\∀u,(css.getD k [])[j]?=some u->aw w u v:=by
 obtain⟨hok,z,hz,Tp⟩:=hw.rows i _ hi;have:z=.at b t s:=by have hz:w.nm i css.length=some z:=hz;rw[hn]at hz;cases hz;rfl
 subst this;obtain⟨hs_,cur,hh,⟨hs,hl⟩,hr⟩:=Tp;have hs_:sz=s:=hs_.symm;subst hs_;have Ux:(Row.aF e sz css).cells.length=css.length*sz:=gh hok.2;have h3:=zo hk hj;have h4:k*sz+j<cur.size:=jB;refine⟨rfl,hok.2,jB,cur[k*sz+j],?_,fun u hu=>?_⟩
 ·rw[sD b _ cur _ (0,0) hh];simp[h4]
 ·refine hr (k*sz+j) u _ ?_ (by simp[h4]);show css.flatten[k*sz+j]?=some u;rw[pW hok.2 hk hj];exact hu
def zA(hw:aI w H){x:AV}{vx:Value}(hx:aw w x vx){c:Prop}(h:tE H x=some (c,ys))(hc:c)(hg:Good sz ys):Ba w sz vx ys:=by
 unfold tE at h;split at h
 ·rename_i xx sz' css _;cases h;cases hx with
  |gz=>exact vP _ _
  |sl _ _ _ ad c vs hn Uw hx Ti hb hH D' hr=>
   have hz:sz'=sz:=by rw[<-Ti (ys[0]) (List.getElem_mem hn),(hg _ (List.getElem_mem hn)).1]
   subst hz;exact zR Ti fun i j hi hj=>⟨_,D' i j hi hj,fun u hu=>(hr i j u hi hu).l4⟩
 ·rename_i i m sz' n;split at h
  ·rename_i e sz2 css hi;cases h;obtain⟨rfl,rfl,hn⟩:=hc;cases hx with
   |iA _ _ _ A Th=>rw[List.take_zero];exact vP _ _
   |rs _ _ _ _ b t c Th Uw Ts Uz=>
    have I':(css.take n).length=n:=by simp;omega
    by_cases h0:n=0
    ·subst h0;rw[List.take_zero];exact vP _ _
    have hz:sz2=sz:=by obtain⟨_,Tu,_⟩:=rL hw hi Th (k:=0) (j:=0) jB Uz;have h1:(css.take n)[0]' jB∈css.take n:=List.getElem_mem _;rw[<-Tu _ (List.mem_of_mem_take h1),(hg _ h1).1]
    subst hz;have:=zR (w:=w) (sz:=sz2) (c:=c) (ys:=css.take n) (ad:=⟨b,0,none⟩) (fun y hy=>(hg y hy).1) fun i' j U7 hj=>by obtain⟨_,_,_,v,h1,h2⟩:=rL hw hi Th (k:=i') (j:=j) jB hj;refine⟨v,by rw[je,Nat.zero_add];exact h1,fun u hu=>h2 u ?_⟩;rw[<-hu];simp[List.getElem?_take,show i'<n from jB]
    rw[I']at this;exact this
  ·cases h
 ·rename_i i m sz' o n;split at h
  ·rename_i e sz2 css hi;cases h;obtain⟨rfl,rfl,hn⟩:=hc;have I':((css.drop o).take n).length=n:=by simp;omega
   cases hx with
   |jf _ _ _ _ A=>rw[List.take_zero];exact vP _ _
   |rv _ _ _ _ _ b t c Th Ts=>
    by_cases h0:n=0
    ·subst h0;rw[List.take_zero];exact vP _ _
    have h1:((css.drop o).take n)[0]' jB∈(css.drop o).take n:=List.getElem_mem _;obtain⟨hok,_⟩:=hw.rows i _ hi;have hz:sz2=sz:=by rw[<-hok.2 _ (List.mem_of_mem_drop (List.mem_of_mem_take h1)),(hg _ h1).1]
    subst hz;have:=zR (w:=w) (sz:=sz2) (c:=c) (ys:=(css.drop o).take n) (ad:=⟨b,o*sz2,none⟩) (fun y hy=>(hg y hy).1) fun i' j U7 hj=>by obtain⟨_,_,_,v,h1,h2⟩:=rL hw hi Th (k:=o+i') (j:=j) jB hj;refine⟨v,by rw[je,<-Nat.add_assoc,<-Nat.add_mul];exact h1,fun u hu=>h2 u ?_⟩;rw[<-hu];simp[List.getElem?_take,show i'<n from jB]
    rw[I']at this;exact this
  ·cases h
 ·cases h;have:=db hx;subst this;exact vP _ _
 ·cases h
def sF{e:TG}(he:ij P t=some e):P.underlying t=some (.slice e):=by unfold ij at he;split at he<;>simp_all
def tG{e:TG}{zs:TJ}(Ti:de P e=some sz)(hz:dM P e=some zs)(hl:zs.length=sz):∃i z,P.info? e=some i/\i.size=sz/\i.zero=some z/\z.cells.size=sz/\ki P e=i.bytes:=by
 unfold de at Ti;cases hi:P.info? e with
 |none=>rw[hi]at Ti;cases Ti
 |some i=> rw[hi]at Ti;unfold dM at hz;rw[hi]at hz;simp only[Option.bind_some,Option.map_eq_some_iff]at hz;obtain⟨z,Ty,YA⟩:=hz;refine⟨i,z,rfl,by simpa using Ti,Ty,?_,by simp[ki,hi]⟩;rw[<-hl,<-YA];simp
def sA(hw:aI w H){i:Nat}{e:TG}{cap:Nat}{cF:TJ}{rest:TI}(h0:0<sz)(I':∀cs∈css,cs.length=sz)(Tz:cd w css.flatten cF)(Wb:css.length<=cap)(Tr:rest.size=(cap-css.length)*sz)
  (Xd:w.nm i css.length=none) (V5:∀r,H.get i=some r->r.fB<=css.length) :
  ∃w':NW,w'.toWorld=w.drew.alloc (.cells (cF.toArray++rest) e)/\aI w' (H.put i (.aF e sz css))/\Ext w H w' (H.put i (.aF e sz css))/\aw w' (.rs i css.length sz css.length) (.slice (some ⟨w.heap.size,0,none⟩) css.length cap):=by
 have Ux:=gh I';have XP:cF.length=css.length*sz:=by rw[<-Tz.1,Ux]
 have Ti:(cF.toArray++rest).size=cap*sz:=by simp only[Array.size_append,List.size_toArray,XP,Tr];rw[<-Nat.add_mul];congr 1;omega
 have Ts:=Nat.mul_le_mul_right sz Wb;obtain⟨g1,g2⟩:=vf (row:=.aF e sz css) hw.drew Xd V5 ⟨h0,I'⟩ (cF.toArray++rest) ⟨rfl,by show css.flatten.length<=_;omega⟩ (fun k a v ha hv=>by
  have hi:k<cF.length:=by rw[<-Tz.1];exact(List.getElem?_eq_some_iff.1 ha).1
  rw[Array.getElem?_append_left (by simpa using hi)]at hv;exact(Tz.2 k a v ha (by simpa using hv)).ext (Ext.drew w H))
 refine⟨_,rfl,g1,(Ext.drew w H).trans g2,?_⟩;exact aw.rs i css.length sz css.length w.heap.size (cF.toArray++rest).size cap (NW.cw _ _ _ _) Ti.symm Wb h0
def J8{a x:AV}(h:zi P t a x H K):p6 P t t a x H K:=by
 intro w va vx ty hw Vo YB;unfold zi at h;split at h;rotate_left
 ·exact h.elim
 rename_i e he;split at h;rotate_left
 ·exact h.elim
 rename_i sz zs c ys UW WI VH;obtain⟨⟨VC,h0,hc,hg⟩,h⟩:=h;have hu:=sF he;obtain⟨i,z,hi,TS,Vv,W4,Xg⟩:=tG UW WI VC;obtain⟨A,cx,news,rfl,TU,Us⟩:=zA hw YB VH hc hg;have Ux:ys.flatten.length=ys.length*sz:=gh fun y hy=>(hg y hy).1
 have Vb:news.length=ys.length*sz:=by rw[<-TU.1,Ux]
 have Wn:∀m,(Builtin.zeroCells z.cells m).size=m*sz:=fun m=>by simp[Builtin.zeroCells,W4]
 have Vp:∀need old,need<=grownCap w.toWorld need old e:=fun need old=>by unfold grownCap Question.cut;simp
 have UZ:cI ys.flatten=true:=by simp only[cI,List.all_eq_true];intro u WJ;obtain⟨y,hy,XG⟩:=List.mem_flatten.1 WJ;have:=(hg y hy).2;simp only[cI,List.all_eq_true]at this;exact this u XG
 have hf0:∀A:Option Addr,ys.length=0->(Builtin.firstCells i.size 0 (.slice A 0 cx)).run P w.toWorld=.ok #[] w.toWorld:=fun A _=>by cases A<;>simp[Builtin.firstCells,loadCells,loadCellsFrom]
 rw[Xg]at h;unfold CG at h;split at h
 ·-- a row of one's own
  rename_i d m sz' n;split at h;rotate_left
  ·exact h.elim
  rename_i e' sz2 css hd;obtain⟨⟨rfl,rfl,rfl,rfl,Zj,Ut,Y2⟩,hk⟩:=h;have hk:=Ma hk;have hok:=(hw.rows d _ hd).1;have Tx:∀cs∈dr css n ys,cs.length=sz2:=fun cs h=>by
   unfold dr at h;rcases List.mem_append.1 h with h|h
   ·rcases List.mem_append.1 h with h|h
    ·exact hok.2 _ (List.mem_of_mem_take h)
    ·exact(hg cs h).1
   ·exact hok.2 _ (List.mem_of_mem_drop h)
  have Vg:=gh hok.2;have Tm:=ur ys Zj;cases Vo with
  |iA _ _ _ A Th=>
   -- nowhere yet
   obtain⟨_,z',T2,Tp⟩:=hw.rows d _ hd;have:z'=.nil:=by have T2:w.nm d css.length=some z':=T2;rw[Th]at T2;cases T2;rfl
   subst this;obtain⟨e2,sz3,Tp⟩:=Tp;cases Tp;simp only[dr,List.take_nil,List.drop_nil,List.append_nil,List.nil_append,List.length_nil,Nat.zero_add,Nat.zero_max]at hk Tm;by_cases hy:ys.length=0
   ·have:ys=[]:=List.length_eq_zero_iff.1 hy;subst this;refine⟨w,_,_,.slice A 0 0,?_,hk,?_,.iA _ _ _ _ Th,?_⟩
    ·cases A<;>simp[Builtin.append_,run_underlying hu,sizeOf,typeInfo,hi,Builtin.lenOf,hf0,storeCells]
    ·refine{ hw with rows:=fun j r hj=>?_,cU:=fun j q z hz=>?_ }
     ·rw[Hp.bj]at hj;split at hj
      ·rename_i e;subst e;exact hw.rows j r (by rw[hd];exact hj)
      ·exact hw.rows j r hj
     ·rw[Hp.bj];split
      ·rename_i e;subst e;obtain⟨r,g1,g2⟩:=hw.cU j q z hz;rw[hd]at g1;cases g1;exact⟨_,rfl,g2⟩
      ·exact hw.cU j q z hz
    ·exact{ Ext.refl w H with base:=rfl }
   ·obtain⟨ad,rfl,D'⟩:=Us jB;obtain⟨w',e1,g1,g2,g3⟩:=sA (i:=d) (e:=e') (cap:=grownCap w.toWorld ys.length 0 e') (css:=ys) (rest:=Builtin.zeroCells z.cells (grownCap w.toWorld ys.length 0 e'-ys.length)) hw h0 (fun y hy=>(hg y hy).1) TU (Vp _ _) (Wn _) (hw.later hd (by show([]:S9).length<_;simp;omega)) (fun r hr=>by rw[hd]at hr;cases hr;exact Nat.zero_le _);refine⟨w',_,_,_,?_,hk,by simpa using g1,by simpa using g3,by simpa using g2⟩;rw[e1];cases A with
    |none=> have:=run_append_nil w.toWorld t ty e' i z hu hi Vv ad ys.length cx news (by rw[TS];exact Vb) D' jB (by simp at Y2;omega) (by simp at Ut;omega);exact this
    |some b=>
     have:=run_append_grow (P:=P) w.toWorld t ty e' i z hu hi Vv b 0 0 [] jE (fun j v h=>by simp at h) ad ys.length cx news (by rw[TS];exact Vb) D' jB (by simp at Y2;simp;omega) (by rw[Nat.zero_add,nextslicecap_zero jB];simp at Ut;omega)
     simpa using this
  |rs _ _ _ _ b t' cap Th UK Ts Uz=>
   obtain⟨_,z',T2,Tp⟩:=hw.rows d _ hd;have:z'=.at b t' sz2:=by have T2:w.nm d css.length=some z':=T2;rw[Th]at T2;cases T2;rfl
   subst this;obtain⟨_,cur,hh,⟨Ug,Tc⟩,Vh⟩:=Tp;have hh:w.heap[b]?=some (.cells cur e' (0,0)):=hh;have Tc:css.flatten.length<=t':=Tc;have Wb:css.length<=cap:=by rw[Vg,<-UK]at Tc;exact Nat.le_of_mul_le_mul_right Tc h0
   have Vq:(css.take n).flatten.length=n*sz2:=by rw[gh fun c hc=>hok.2 c (List.mem_of_mem_take hc),List.length_take,Nat.min_eq_left Zj]
   have Zk:(css.take n).flatten=css.flatten.take (n*sz2):=by
    have:css.flatten=(css.take n).flatten++(css.drop n).flatten:=by rw[<-List.flatten_append,List.take_append_drop]
    rw[this,<-Vq,List.take_left'];rfl
   by_cases T1:n+ys.length<=cap
   ·-- in place
    have UP:n*sz2+ys.flatten.length<=t':=by rw[Ux,<-Nat.add_mul,<-UK];exact Nat.mul_le_mul_right _ T1
    obtain⟨w',B',g1,g2,g3⟩:=tg (P:=P) (off:=n*sz2) (r':=.aF e' sz2 (dr css n ys)) hw hd Th TU UZ UP rfl rfl rfl rfl (by show css.length<=(dr css n ys).length;rw[Tm];omega) ⟨h0,Tx⟩ (by show(dr css n ys).flatten.length<=t';rw[gh Tx,Tm,<-UK];exact Nat.mul_le_mul_right _ (Nat.max_le.2 ⟨Wb,T1⟩)) (fun p u hp=>by
     have hp:(dr css n ys).flatten[p]?=some u:=hp;unfold dr at hp;rw[List.flatten_append,List.flatten_append]at hp;show if _ then _ else css.flatten[p]?=some u
     rcases Nat.lt_or_ge p (n*sz2)with h|h
     ·rw[jN];rw[List.getElem?_append_left (by simp only[List.length_append];omega),List.getElem?_append_left jB,Zk,List.getElem?_take,if_pos h]at hp;exact hp
     ·rcases Nat.lt_or_ge p (n*sz2+ys.flatten.length)with h'|h'
      ·rw[if_pos ⟨h,h'⟩];rw[List.getElem?_append_left (by simp only[List.length_append];omega),List.getElem?_append_right jB,Vq]at hp;exact hp
      ·rw[jN];rw[List.getElem?_append_right (by simp only[List.length_append];omega)]at hp;have e2:css.flatten=(css.take (n+ys.length)).flatten++(css.drop (n+ys.length)).flatten:=by rw[<-List.flatten_append,List.take_append_drop]
       have O':=(List.getElem?_eq_some_iff.1 hp).1;have hnk:n+ys.length<=css.length:=by
        rcases Nat.lt_or_ge css.length (n+ys.length)with h6|h6
        ·rw[List.drop_eq_nil_of_le jB]at O';simp at O'
        ·exact h6
       have e3:(css.take (n+ys.length)).flatten.length=n*sz2+ys.flatten.length:=by rw[gh fun c hc=>hok.2 c (List.mem_of_mem_take hc),List.length_take,Nat.min_eq_left hnk,Ux,Nat.add_mul]
       rw[e2,List.getElem?_append_right jB,e3];simp only[List.length_append,Vq]at hp;exact hp)
    refine⟨w',_,_,.slice (some ⟨b,0,none⟩) (n+ys.length) cap,?_,hk,g1,?_,g2⟩
    ·have hf:(Builtin.firstCells i.size ys.length (.slice A ys.length cx)).run P w.toWorld=.ok news.toArray w.toWorld:=by
      by_cases h0:ys.length=0
      ·have:news=[]:=by have:=Vb;rw[h0,Nat.zero_mul]at this;simpa using this
       subst this;rw[h0];cases A<;>simp[Builtin.firstCells,loadCells,loadCellsFrom]
      ·obtain⟨ad,rfl,D'⟩:=Us jB;exact run_firstCells_some (P:=P) w.toWorld i.size ys.length ad ys.length cx news (by rw[TS];exact Vb) D'
     have WK:(⟨b,0,none⟩:Addr).add (n*sz2)=⟨b,n*sz2,none⟩:=by rw[je];simp
     rw[TS]at hf;simp[Builtin.append_,run_underlying hu,sizeOf,typeInfo,hi,Builtin.lenOf,T1,hf,TS,WK,B']
    ·have g3:w'.nm d (max css.length (n+ys.length))=some (.at b t' sz2):=by rw[<-Tm];exact g3
     exact .rs d _ sz2 _ b t' cap g3 UK T1 Uz
   ·-- a new row
    have UG:0<ys.length:=jB;obtain⟨ad,rfl,D'⟩:=Us UG;have Wo:dr css n ys=css.take n++ys:=by unfold dr;rw[List.drop_eq_nil_of_le jB,List.append_nil]
    have Wa:max css.length (n+ys.length)=n+ys.length:=Nat.max_eq_right jB;rw[Wo]at hk Tx Tm;rw[Wa]at hk Tm;have hold:cd w (css.take n).flatten (cur.toList.take (n*sz2)):=by
     refine⟨by simp only[List.length_take,Array.length_toList];have:=Nat.mul_le_mul_right sz2 Ts;omega,fun k a v Ye hv=>?_⟩;rw[List.getElem?_take]at hv;split at hv
     ·rename_i Zl;rw[Zk,List.getElem?_take,if_pos Zl]at Ye;exact Vh k a v Ye (by simpa using hv)
     ·cases hv
    have Tu:=hold.append TU;rw[<-List.flatten_append]at Tu;obtain⟨w',e1,g1,g2,g3⟩:=sA (i:=d) (e:=e') (cap:=grownCap w.toWorld (n+ys.length) cap e') (css:=css.take n++ys) (rest:=Builtin.zeroCells z.cells (grownCap w.toWorld (n+ys.length) cap e'-(n+ys.length))) hw h0 Tx Tu (by rw[Tm];exact Vp _ _) (by rw[Tm];exact Wn _) (hw.later hd (by show css.length<_;rw[Tm];omega)) (fun r hr=>by rw[hd]at hr;cases hr;show css.length<=_;rw[Tm];omega);rw[Tm]at g3;refine⟨w',_,_,_,?_,hk,g1,g3,g2⟩;rw[e1];have:=run_append_grow (P:=P) w.toWorld t ty e' i z hu hi Vv ⟨b,0,none⟩ n cap (cur.toList.take (n*sz2)) (by rw[<-hold.1,Vq,TS]) (fun k v hv=>by
     rw[List.getElem?_take]at hv;split at hv
     ·rw[je,sD b _ cur e' (0,0) hh,Nat.zero_add];simpa using hv
     ·cases hv) ad ys.length cx news (by rw[TS];exact Vb) D' jB jB (growslice_fits jB jB)
    rw[this];congr 3
    apply Array.ext';simp
 ·-- nothing
  obtain⟨⟨Ut,Y2⟩,d,hd,hk⟩:=h;have:=db Vo;subst this;by_cases hy:ys.length=0
  ·have:ys=[]:=List.length_eq_zero_iff.1 hy;subst this;obtain⟨g1,g2⟩:=wD hw hd e h0;refine⟨_,_,_,.slice none 0 0,?_,hk,g1,.iA _ _ _ _ (NW.cw _ _ _ _),g2⟩;have:(Builtin.append_ #[t,t] ty #[.slice none 0 0,.slice A 0 cx]).run P w.toWorld=.ok (.slice none 0 0) w.toWorld:=by
    simp[Builtin.append_,run_underlying hu,sizeOf,typeInfo,hi,Builtin.lenOf,hf0,storeCells]
   exact this
  ·obtain⟨ad,rfl,D'⟩:=Us jB;obtain⟨w',e1,g1,g2,g3⟩:=sA (i:=d) (e:=e) (cap:=grownCap w.toWorld ys.length 0 e) (css:=ys) (rest:=Builtin.zeroCells z.cells (grownCap w.toWorld ys.length 0 e-ys.length)) hw h0 (fun y hy=>(hg y hy).1) TU (Vp _ _) (Wn _) (hw.none hd _) (fun r hr=>by rw[hd]at hr;cases hr);refine⟨w',_,_,_,?_,hk,g1,g3,g2⟩;rw[e1];exact run_append_nil w.toWorld t ty e i z hu hi Vv ad ys.length cx news (by rw[TS];exact Vb) D' jB jB jB
 ·-- a literal
  rename_i sz' css _;obtain⟨⟨rfl,⟨Ut,Y2⟩,hor⟩,d,hd,hk⟩:=h;have Tm:(css++ys).length=css.length+ys.length:=List.length_append;cases Vo with
  |gz _ _ A' c' hx=>
   have U3:=hx rfl;subst U3;by_cases hy:ys.length=0
   ·have:ys=[]:=List.length_eq_zero_iff.1 hy;subst this;obtain⟨g1,g2⟩:=wD hw hd e h0;refine⟨_,_,_,.slice A' 0 0,?_,hk,g1,.iA _ _ _ _ (NW.cw _ _ _ _),g2⟩;have:(Builtin.append_ #[t,t] ty #[.slice A' 0 0,.slice A 0 cx]).run P w.toWorld=.ok (.slice A' 0 0) w.toWorld:=by
     cases A'<;>simp[Builtin.append_,run_underlying hu,sizeOf,typeInfo,hi,Builtin.lenOf,hf0,storeCells]
    exact this
   ·obtain⟨ad,rfl,D'⟩:=Us jB;obtain⟨w',e1,g1,g2,g3⟩:=sA (i:=d) (e:=e) (cap:=grownCap w.toWorld ys.length 0 e) (css:=ys) (rest:=Builtin.zeroCells z.cells (grownCap w.toWorld ys.length 0 e-ys.length)) hw h0 (fun y hy=>(hg y hy).1) TU (Vp _ _) (Wn _) (hw.none hd _) (fun r hr=>by rw[hd]at hr;cases hr);refine⟨w',_,_,_,?_,hk,by simpa using g1,by simpa using g3,by simpa using g2⟩;rw[e1];cases A' with
    |none=>exact run_append_nil w.toWorld t ty e i z hu hi Vv ad ys.length cx news (by rw[TS];exact Vb) D' jB (by simp at Y2;omega) (by simp at Ut;omega)
    |some b=>
     have:=run_append_grow (P:=P) w.toWorld t ty e i z hu hi Vv b 0 0 [] jE (fun j v h=>by simp at h) ad ys.length cx news (by rw[TS];exact Vb) D' jB (by simp at Y2;simp;omega) (by rw[Nat.zero_add,nextslicecap_zero jB];simp at Ut;omega)
     simpa using this
  |sl _ _ _ b c' vs hn Uw hx Ti hb hH YC hr=>
   have Tx:∀cs∈css++ys,cs.length=sz':=fun cs h=>by
    rcases List.mem_append.1 h with h|h
    ·exact Ti _ h
    ·exact(hg cs h).1
   obtain⟨W5,cur,el,V8⟩:=hx rfl;subst W5;have Vg:=gh Ti;have hold:cd w css.flatten ((List.range (css.length*sz')).map vs):=by
    refine⟨by simp[Vg],fun k a v Ye hv=>?_⟩;have hk:k<css.length*sz':=by have:=(List.getElem?_eq_some_iff.1 Ye).1;omega
    obtain⟨i',j,U7,hj,rfl⟩:=uA hk;rw[pW Ti U7 hj]at Ye;simp only[List.getElem?_map,List.getElem?_range hk,Option.map_some,Option.some.injEq]at hv;subst hv;exact(hr i' j a U7 Ye).l4
   by_cases hy:ys.length=0
   ·
    omega
   ·obtain⟨ad,rfl,D'⟩:=Us jB;have Tu:=hold.append TU;rw[<-List.flatten_append]at Tu;obtain⟨w',e1,g1,g2,g3⟩:=sA (i:=d) (e:=e) (cap:=grownCap w.toWorld (css.length+ys.length) css.length e) (css:=css++ys) (rest:=Builtin.zeroCells z.cells (grownCap w.toWorld (css.length+ys.length) css.length e-(css.length+ys.length))) hw h0 Tx Tu (by rw[Tm];exact Vp _ _) (by rw[Tm];exact Wn _) (hw.none hd _) (fun r hr=>by rw[hd]at hr;cases hr);rw[Tm]at g3;refine⟨w',_,_,_,?_,hk,g1,g3,g2⟩;rw[e1];have:=run_append_grow (P:=P) w.toWorld t ty e i z hu hi Vv b css.length css.length ((List.range (css.length*sz')).map vs) (by rw[<-hold.1,Vg,TS]) (fun k v hv=>by
     have hk:k<css.length*sz':=by have:=(List.getElem?_eq_some_iff.1 hv).1;simpa using this
     obtain⟨i',j,U7,hj,rfl⟩:=uA hk;simp only[List.getElem?_map,List.getElem?_range hk,Option.map_some,Option.some.injEq]at hv;subst hv;exact YC i' j U7 hj) ad ys.length cx news (by rw[TS];exact Vb) D' jB jB (growslice_fits jB jB)
    rw[this];congr 3
    apply Array.ext';simp
 ·exact h.elim
end
section
variable {P:TL}{H:Hp}
variable{w:NW}
def zM(l:TJ):cd w (l.map .raw) l:=⟨jE,fun i a v ha hv=>by simp only[List.getElem?_map,Option.map_eq_some_iff]at ha;obtain⟨x,hx,rfl⟩:=ha;rw[hx]at hv;cases hv;exact .raw _⟩
variable{f:FuncId}
def NB{a:AV}{v:Value}{first captured:TB}(h:aw w a v)(hf:Bh a=some (f,first,captured)):∃x y:TI,v=.func (.func f) x y/\cd w first x.toList/\cd w captured y.toList:=by
 unfold Bh at hf;split at hf
 ·rename_i f x y;simp only[Option.some.injEq,Prod.mk.injEq]at hf;obtain⟨rfl,rfl,rfl⟩:=hf;exact⟨x,y,db h,zM _,zM _⟩
 ·simp only[Option.some.injEq,Prod.mk.injEq]at hf;obtain⟨rfl,rfl,rfl⟩:=hf;cases h with
  |dP _ _ vs hl hr=>exact⟨#[],vs,rfl,⟨rfl,fun i a v h=>by simp at h⟩,⟨by simpa using hl,fun i a v h1 h2=>hr i a v h1 (by simpa using h2)⟩⟩
 ·simp only[Option.some.injEq,Prod.mk.injEq]at hf;obtain⟨rfl,rfl,rfl⟩:=hf;cases h with
  |bd _ _ vs hl hr=>exact⟨vs,#[],rfl,⟨by simpa using hl,fun i a v h1 h2=>hr i a v h1 (by simpa using h2)⟩,⟨rfl,fun i a v h=>by simp at h⟩⟩
 ·cases hf
def Ex{l:TB}{vs:TJ}(h:cd w l vs):bq w l vs.toArray:=⟨by simpa using h.1,fun i a v ha hv=>h.2 i a v ha (by simpa using hv)⟩
def NJ  (h : aT P f = true) : ∃ fn, P.funcs[f]? = some fn ∧ fn.body.isSome = true ∧ (fn.name == "runtime.NumGoroutine") = false := by
 unfold aT at h;split at h
 ·rename_i fn hf;simp only[Bool.and_eq_true,Bool.not_eq_true']at h;exact⟨fn,hf,h.1,h.2⟩
 ·cases h
variable{R:S8}
def EN{xs:TI}{l:TB}{o:Oper}(h:(aT P f=true/\di P f l H R)\/tv P f l H R){a:Act}{next:Act->World->Prop}{Q:Exit->Act->World->Prop}(Zm:(execOp a.eval o).run P w.toWorld=(callFunc f xs).run P w.toWorld)(hw:aI w H)(Tz:bq w l xs)
  (hn:∀(v:Value) (r:AV) (w':NW) (H':Hp),R r H'->aI w' H'->aw w' r v->Ext w H w' H'->next (a.put o.dst v) w'.toWorld):Oper.wp P o a w.toWorld next Q:=by
 rcases h with⟨TY,hc⟩|TW
 ·obtain⟨fn,UA,hb,VR⟩:=NJ TY;have B':(execOp a.eval o).run P w.toWorld=.ok (.enter f xs) w.toWorld:=by
   have T5:fn.body.isNone=false:=by cases hbb:fn.body<;>simp_all
   rw[Zm];simp only[callFunc,Sem.run_bind,run_program,Result.andThen_ok,UA,VR,T5,Bool.false_eq_true,if_false,Sem.run_pure]
  simp only[Oper.wp,B',Oper.upon_enter];refine(hc w _ hw Tz).mono ?_;rintro e W ⟨v,r,H',w',rfl,rfl,hR,g1,g2,g3⟩;exact hn v r w' H' hR g1 g2 g3
 ·obtain⟨v,w',r,H',B',hR,g1,g2,g3⟩:=TW w _ hw Tz;rw[<-Zm]at B';simp only[Oper.wp,B',Oper.upon];exact hn v r w' H' hR g1 g2 g3
variable{as:Array Operand}{ts:Array TG}{dst:Option Tmp}{after:Array Edge}{guard:Option (Nat×Bool)}
def xB{f:AV}{args:TB}{fo:Operand}{ty:TG}{pos:String}{ev:TH}(V3:ev fo=f)(Yf:as.toList.map ev=args)
  (h:ff P f args H R) {w:NW} {a:Act} {next:Act->World->Prop} {Q:Exit->Act->World->Prop} (hw:aI w H) (hr:∀x,aw w (ev x) (a.eval x))
  (hn:∀(v:Value) (r:AV) (w':NW) (H':Hp),R r H'->aI w' H'->aw w' r v->Ext w H w' H'->next (a.put dst v) w'.toWorld):Oper.wp P ⟨dst,.call ⟨.value fo,as,ts⟩,ty,pos,after,guard⟩ a w.toWorld next Q:=by
 unfold ff at h;split at h
 ·rename_i f first captured hf
  obtain⟨x,y,hv,hx,hy⟩:=NB (V3 ▸ hr fo) hf;have UF:as.map a.eval=(as.toList.map a.eval).toArray:=by rw[<-Array.toList_map,Array.toArray_toList]
  refine EN h ?_ hw (Ex ((hx.append (Yf ▸ vu hr as.toList)).append hy)) hn;have e:x++(as.toList.map a.eval).toArray++y=(x.toList++as.toList.map a.eval++y.toList).toArray:=by apply Array.ext';simp
  simp only[execOp,resolve,hv,Deferred.ofValue,pure_bind,invoke,UF,e]
 ·exact h.elim
def Ox{t:TG}{m:String}(h:oG P t m=some f)(v:Value)(W:World):(method (P.types.size+Made.depth) t v m).run P W=.ok (f,v) W:=by
 unfold oG at h;split at h;rotate_left
 ·cases h
 rename_i ti e ht hu;split at h;rotate_left
 ·cases h
 rename_i r hr;split at h;rotate_left
 ·cases h
 rename_i hp;split at h;rotate_left
 ·cases h
 rename_i g hf;cases h;have V8:r.path.toList=[]:=by have:=Array.isEmpty_iff.1 hp;rw[this]
 obtain⟨n,hn⟩:∃n,P.types.size+Made.depth=n+1:=⟨P.types.size+Made.depth-1,by have hd:=(by decide:Made.depth≠0);omega⟩;rw[hn];unfold method;simp only[Sem.run_bind,run_typeInfo W ht,Result.andThen_ok,hr,V8,follow,Sem.run_pure,hf,receiverAt,run_underlying hu,Place.get]
def Bk{x:AV}{m:String}{args:TB}{fo:Operand}{ty:TG}{pos:String}{ev:TH}(V3:ev fo=x)(Yf:as.toList.map ev=args)
  (h:qp P x m args H R) {w:NW} {a:Act} {next:Act->World->Prop} {Q:Exit->Act->World->Prop} (hw:aI w H) (hr:∀x,aw w (ev x) (a.eval x))
  (hn:∀(v:Value) (r:AV) (w':NW) (H':Hp),R r H'->aI w' H'->aw w' r v->Ext w H w' H'->next (a.put dst v) w'.toWorld):Oper.wp P ⟨dst,.call ⟨.invoke fo m,as,ts⟩,ty,pos,after,guard⟩ a w.toWorld next Q:=by
 unfold qp at h;split at h;rotate_left
 ·exact h.elim
 rename_i t b;split at h;rotate_left
 ·exact h.elim
 rename_i f hf;have hx:=hr fo;rw[V3]at hx;generalize hv:a.eval fo=v at hx;cases hx with
 |iG _ _ u hu=>
  have UF:as.map a.eval=(as.toList.map a.eval).toArray:=by rw[<-Array.toList_map,Array.toArray_toList]
  have h':(aT P f=true/\di P f (b::args) H R)\/tv P f (b::args) H R:=by
   have:ff P (.raw (.func (.func f) #[] #[])) (b::args) H R=((aT P f=true/\di P f (b::args) H R)\/tv P f (b::args) H R):=by show((aT P f=true/\di P f ([]++(b::args)++[]) H R)\/tv P f ([]++(b::args)++[]) H R)=_;rw[List.nil_append,List.append_nil]
   rw[<-this];exact h
  have hl:cd w (b::args) (u::as.toList.map a.eval):=cd.append (a:=[b]) (x:=[u]) ⟨rfl,fun i p q hp hq=>by
   match i with
   |0=>cases hp;cases hq;exact hu
   |i+1=>simp at hp⟩ (Yf ▸ vu hr as.toList)
  refine EN h' (xs:=(u::as.toList.map a.eval).toArray) ?_ hw (Ex hl) hn;have e0:(#[Value.iface t u]++as.map a.eval)[0]?=some (.iface t u):=by rw[Array.getElem?_append_left (by show 0<1;decide)];rfl
  have e1:(#[Value.iface t u]++as.map a.eval).extract 1 (#[Value.iface t u]++as.map a.eval).size=as.map a.eval:=jE;have e2:#[u]++as.map a.eval=(u::as.toList.map a.eval).toArray:=by apply Array.ext';simp
  simp only[execOp,resolve,pure_bind,invoke,hv,e0,e1,callMethod,Sem.run_bind,run_program,Result.andThen_ok,Ox hf,e2]
end
variable{P:TL}{args':TB}
@[congr] theorem j0i{f f':AV}{args:TB}(h1:f=f')(h2:args=args'):ff P f args H K=ff P f' args' H K:=by rw[h1,h2]
variable{a':AV}
@[congr] theorem jwy{a:AV}{m:String}{args:TB}(h1:a=a')(h2:args=args'):qp P a m args H K=qp P a' m args' H K:=by rw[h1,h2]
variable{t:TG}
@[congr] theorem jxC:nH P H t K=nH P H t K:=rfl
@[congr] theorem j1t{x x':AV}(h:x=x'):qE H t x K=qE H t x' K:=by rw[h]
@[congr] theorem jt8{t':TG}{a x x':AV}(h1:a=a')(h2:x=x'):p6 P t t' a x H K=p6 P t t' a' x' H K:=by rw[h1,h2]
@[congr] theorem jrm{b:Builtin}{ts ts':List TG}{as as':TB}(h1:ts=ts')(h2:as=as'):pI P b ts as H K=pI P b ts' as' H K:=by rw[h1,h2]
def lT(ops:Array Oper)(F:TB)(j:Nat)(want:Bool):Option Bool:=match (ops[j]?).bind (·.dst)with
 |some d=>match F[d]? with
  |some (.raw (.bool b))=>some (b == want)
  |some (.gd g (.raw (.bool b)))=>some (g && (b == want))
  |_=>none
 |none=>none
def bL(F:TB)(x:Operand):AV:=(jo (cr F x)).2
def gl(F:TB)(o:Op):Bool:=o.operands.toList.all fun x=>(jo (cr F x)).1
def iJ:Op->Bool
 |.call { callee:=.invoke ..,.. }=>true
 |.binOp .eql ..=>true
 |.binOp .neq ..=>true
 |o=>dn o
def eQ(P:TL)(F:TB)(H:Hp)(g:Bool)(K:AV->Prop):Op->Prop
 |.call { callee:=.value f,args,argTypes }=>∃r,(g=true->gl F (.call ⟨.value f,args,argTypes⟩)=true/\ff P (bL F f) (args.toList.map (bL F)) H fun r' H'=>r'=r/\H'=H)/\K (.gd g r)
 |.call { callee:=.invoke f m,args,argTypes }=>∃r,(g=true->gl F (.call ⟨.invoke f m,args,argTypes⟩)=true/\qp P (bL F f) m (args.toList.map (bL F)) H fun r' H'=>r'=r/\H'=H)/\K (.gd g r)
 |.pick c a b=>(g=true->(jo (cr F c)).1=true/\(nA (bL F c) (cr F a) (cr F b)).1)/\K (.gd g (nA (bL F c) (cr F a) (cr F b)).2)
 |o=>if iJ o then(g=true->gl F o=true/\(vq P (bL F) H o).1)/\K (.gd g (vq P (bL F) H o).2)else False
def iU:Op->Bool
 |.call { callee:=.value _,.. }=>true
 |_=>false
def k7(P:TL)(ops:Array Oper)(K:S7):List Oper->S7
 |[],F,H=>K F H
 |o::rest,F,H=>match o.guard with
  |none=>vc P (cr F) H o.type (fun r H'=>k7 P ops K rest (cL F o.dst r) H') o.op
  |some (j,want)=>match lT ops F j want with
   |some b=>if iU o.op || iJ o.op then eQ P F H b (fun r=>k7 P ops K rest (cL F o.dst r) H) o.op
    else(b=true->vc P (cr F) H o.type (fun r H'=>k7 P ops K rest (cL F o.dst r) H') o.op)/\(b=false->k7 P ops K rest (cL F o.dst .any) H)
   |none=>False
section
variable {P:TL}{ops:Array Oper}{F:TB}{H:Hp}
variable{K:S7}{w:NW}{tm:TI}
def BX{o:Oper}{ev:TH}(h:vc P ev H o.type (fun r H'=>K (cL F o.dst r) H') o.op){Q:Exit->Act->World->Prop}{next:Act->World->Prop}
  (h1:aI w H) (h2:bq w F tm) (hr:∀x,aw w (ev x) ((Act.mk tm []).eval x))
  (hn:∀T7 (w':NW) F' H',K F' H'->aI w' H'->bq w' F' T7->Ext w H w' H'->next ⟨T7,[]⟩ w'.toWorld):o.wp P ⟨tm,[]⟩ w.toWorld next Q:=by
 have quiet:((vq P ev H o.op).1/\K (cL F o.dst (vq P ev H o.op).2) H)->o.wp P ⟨tm,[]⟩ w.toWorld next Q:=fun hq=>by obtain⟨v,B',hv⟩:=zv o h1 hr hq.1;simp only[Oper.wp,B',Oper.upon];rw[Act.put_eq];exact hn _ w _ H hq.2 h1 (h2.put o.dst hv []) (Ext.refl w H)
 have val:∀{w':NW} {H':Hp} {r:AV} {v:Value},(execOp (Act.mk tm []).eval o).run P w.toWorld=.ok (.value v) w'.toWorld->K (cL F o.dst r) H'->aI w' H'->aw w' r v->Ext w H w' H'->o.wp P ⟨tm,[]⟩ w.toWorld next Q:=fun{w' H' r v} B' hk g1 g2 g3=>by simp only[Oper.wp,B',Oper.upon];rw[Act.put_eq];exact hn _ w' _ H' hk g1 ((h2.ext g3).put o.dst g2 []) g3
 have skip:∀{w':NW} {H':Hp},(execOp (Act.mk tm []).eval o).run P w.toWorld=.ok .skip w'.toWorld->K (cL F o.dst .any) H'->aI w' H'->Ext w H w' H'->o.wp P ⟨tm,[]⟩ w.toWorld next Q:=fun{w' H'} B' hk g1 g3=>by simp only[Oper.wp,B',Oper.upon];rw[Act.put_eq];exact hn _ w' _ H' hk g1 ((h2.ext g3).put o.dst (.any _) []) g3
 have other:jy P o.op o.type ev H (fun r H'=>K (cL F o.dst r) H')->o.wp P ⟨tm,[]⟩ w.toWorld next Q:=fun ho=>by
  obtain⟨w',H',r,hk,g1,g2,g3⟩:=ho w (Act.mk tm []).eval o.dst o.pos o.after o.guard h1 (fun x _=>hr x);rcases g3 with⟨v,B',hv⟩|⟨B',rfl⟩
  ·exact val B' hk g1 hv g2
  ·exact skip B' hk g1 g2
 obtain⟨dst,op,ty,pos,after,guard⟩:=o;have vrun:∀{s:Sem Value} {v:Value} {W:World},s.run P w.toWorld=.ok v W->(do pure (Next.value (<-s)):Sem Next).run P w.toWorld=.ok (.value v) W:=fun hs=>by simp[hs]
 cases op
 case box t x=> obtain⟨ho,i,hi,hk⟩:=h;obtain⟨u,w',B',g0,g1,g2⟩:=O3 (P:=P) (t:=t) h1 hi (hr x) ho;exact val (vrun B') hk g1 g0 g2
 case alloc t=>
  simp only[vc,nH]at h;split at h
  ·rename_i zs hz;obtain⟨i,hi,hk⟩:=h;obtain⟨u,w',B',g0,g1,g2⟩:=Mh (P:=P) (t:=t) h1 hi hz;exact val (vrun B') hk g1 g0 g2
  ·exact h.elim
 case store t a x=>
  simp only[vc,vn]at h;split at h
  ·rename_i i m k j n ha hk;split at h
   ·rename_i r hb;obtain⟨⟨s1,s2,s3⟩,Tv⟩:=h;have hva:=hr a;rw[ha]at hva;obtain⟨w',B',g1,g2⟩:=Rr (P:=P) h1 hva hb (hr x) s1 hk s2 s3;refine skip ?_ Tv g1 g2;simp only[execOp,Sem.run_bind,B',Result.andThen_ok,Sem.run_pure]
   ·exact h.elim
  ·exact h.elim
 case buildSlice t n parts=>
  have h':oz P H t n (parts.toList.map fun p=>(p.1,ev p.2)) (fun r H'=>K (cL F dst r) H'):=h;obtain⟨w',H',r,v,B',hk,g1,g2,g3⟩:=JI (P:=P) (parts:=parts.toList.map fun p=>(p.1,ev p.2)) (vparts:=parts.map fun p=>(p.1,(Act.mk tm []).eval p.2)) h1 jE (fun i a v ha hv=>by simp only[List.getElem?_map,Option.map_eq_some_iff,Array.toList_map,Array.getElem?_toList]at ha hv;obtain⟨x,hx,rfl⟩:=ha;obtain⟨y,hy,rfl⟩:=hv;rw[hx]at hy;cases hy;exact hr x.2) h'
  exact val (vrun B') hk g1 g2 g3
 case binOp op t x y t'=>
  cases op
  case eql=> obtain⟨r,v,B',hk,hv⟩:=FB (P:=P) (K:=fun r H'=>K (cL F dst r) H') false t x y (hr x) (hr y) h;exact val (vrun B') hk h1 hv (Ext.refl w H)
  case neq=> obtain⟨r,v,B',hk,hv⟩:=FB (P:=P) (K:=fun r H'=>K (cL F dst r) H') true t x y (hr x) (hr y) h;exact val (vrun B') hk h1 hv (Ext.refl w H)
  all_goals exact quiet h
 case call c=>
  obtain⟨callee,args,argTypes⟩:=c;cases callee
  case value f=>
   refine xB rfl rfl h h1 hr fun v r w' H' hk g1 g2 g3=>?_
   rw[Act.put_eq];exact hn _ w' _ H' hk g1 ((h2.ext g3).put dst g2 []) g3
  case invoke r m=>
   refine Bk rfl rfl h h1 hr fun v r w' H' hk g1 g2 g3=>?_
   rw[Act.put_eq];exact hn _ w' _ H' hk g1 ((h2.ext g3).put dst g2 []) g3
  case builtin b=>
   have UF:args.map (Act.mk tm []).eval=(args.toList.map (Act.mk tm []).eval).toArray:=by rw[<-Array.toList_map,Array.toArray_toList]
   have bvc:pI P b argTypes.toList (args.toList.map ev) H (fun r H'=>K (cL F dst r) H')->Oper.wp P ⟨dst,.call ⟨.builtin b,args,argTypes⟩,ty,pos,after,guard⟩ ⟨tm,[]⟩ w next Q:=fun hb=>by obtain⟨w',H',r,v,B',hk,g1,g2,g3⟩:=hb w _ ty (args.map fun|.const _=>true|_=>false) h1 (vu hr args.toList);refine val (w':=w') (v:=v) ?_ hk g1 g2 g3;simp only[execOp,resolve,pure_bind,invoke,UF];exact B'
   cases b
   case append=>
    simp only[vc]at h;split at h
    ·rename_i t t' a x ht ha;obtain⟨w',H',r,v,B',hk,g1,g2,g3⟩:=h w _ _ ty h1 (hr a) (hr x);refine val (w':=w') (v:=v) ?_ hk g1 g2 g3;have e1:argTypes=#[t,t']:=by rw[<-Array.toArray_toList (xs:=argTypes),ht]
     have e2:args=#[a,x]:=by rw[<-Array.toArray_toList (xs:=args),ha]
     subst e1 e2;simp only[execOp,resolve,pure_bind,invoke,builtin,Sem.run_bind];have:(#[a,x].map (Act.mk tm []).eval)=#[(Act.mk tm []).eval a,(Act.mk tm []).eval x]:=jE;rw[this,B'];rfl
    ·exact h.elim
   case len=>exact quiet h
   case cap=>exact quiet h
   case max=>exact quiet h
   case min=>exact quiet h
   all_goals exact bvc h
 case move=>exact quiet h
 case assign=>exact quiet h
 case pick=>exact quiet h
 case nilCheck=>exact quiet h
 case unOp=>exact quiet h
 case load=>exact quiet h
 case fieldAddr=>exact quiet h
 case field=>exact quiet h
 case indexAddr=>exact quiet h
 case index=>exact quiet h
 case extract=>exact quiet h
 case slice=>exact quiet h
 case makeFunc=>exact quiet h
 case makeInterface=>exact quiet h
 case convert=>exact quiet h
 case build=>exact quiet h
 all_goals first|exact other h|exact(quiet h)
def qj{o:Oper}(hg:o.guard=none)(h:vc P (cr F) H o.type (fun r H'=>K (cL F o.dst r) H') o.op):mJ P ops o F H K:=fun w tm Q next h1 h2 hn=>by unfold sL;rw[if_pos (by simp[Region.wanted,hg])];exact .inl (BX h h1 h2 (fun x=>h2.eval [] x) hn)
def Kt{j:Nat}{want b:Bool}(h:lT ops F j want=some b)(h2:bq w F tm):(yielded ops tm j == some want)=b:=by
 unfold lT at h;split at h
 ·rename_i d hd;split at h<;>try cases h
  ·rename_i b' hF;have O':d<tm.size:=by rw[<-h2.1];exact(List.getElem?_eq_some_iff.1 hF).1
   have:=db (h2.2 d _ _ hF (Array.getElem?_eq_getElem O'));unfold yielded;rw[hd,Option.bind_some,Array.getElem?_eq_getElem O',this];cases b'<;>cases want<;>rfl
  ·rename_i g b' hF;have O':d<tm.size:=by rw[<-h2.1];exact(List.getElem?_eq_some_iff.1 hF).1
   have hr:=h2.2 d _ _ hF (Array.getElem?_eq_getElem O');unfold yielded;rw[hd,Option.bind_some,Array.getElem?_eq_getElem O'];cases hr with
   |gd _ _ _ hh hu=>cases g with
    |true=> have:=db (hh rfl);rw[this];cases b'<;>cases want<;>rfl
    |false=>rw[hu rfl];rfl
 ·cases h
def Cn(h2:bq w F tm)(x:Operand)(ok:(jo (cr F x)).1=true):aw w (bL F x) ((Act.mk tm []).eval x):=wh (h2.eval [] x) ok
def kG(F:TB)(x:Operand):AV:=if(jo (cr F x)).1=true then bL F x else .any
def Cc{f g:TH}{o:Option Operand}(h:∀x∈o.toList,f x=g x):o.map f=o.map g:=by
 cases o with
 |none=>rfl
 |some x=>simp[h x jE]
def uv{ev ev':TH}(o:Op)(h:∀x∈o.operands.toList,ev x=ev' x):vq P ev H o=vq P ev' H o:=by
 cases o
 case call c=>
  obtain⟨callee,args,ts⟩:=c;cases callee
  case builtin b=> simp only[vq];rw[List.map_congr_left (fun x hx=>h x (by simpa[Op.operands,Call.operands]using hx))]
  all_goals rfl
 case slice t a lo hi mx=> simp only[Op.operands]at h;simp only[vq];rw[h a jE,Cc (o:=lo) (fun x hx=>h x (by simp at hx ⊢;simp[hx])),Cc (o:=hi) (fun x hx=>h x (by simp at hx ⊢;simp[hx])),Cc (o:=mx) (fun x hx=>h x (by simp at hx ⊢;simp[hx]))]
 case makeFunc fn a b=> simp only[Op.operands]at h;simp only[vq];rw[List.map_congr_left (l:=a.toList) (fun x hx=>h x (by simp at hx ⊢;simp[hx])),List.map_congr_left (l:=b.toList) (fun x hx=>h x (by simp at hx ⊢;simp[hx]))]
 case build t ps=> simp only[Op.operands]at h;simp only[vq];rw[List.map_congr_left (g:=fun p=>(p.1,ev' p.2)) (fun x hx=>by rw[h x.2 (by simp at hx ⊢;exact⟨_,hx⟩)])]
 all_goals first
  |rfl
  |(simp only[Op.operands]at h;simp only[vq];(repeat rw[h _ jE]))
def rP(h2:bq w F tm)(x:Operand):aw w (kG F x) ((Act.mk tm []).eval x):=by
 unfold kG;split
 ·rename_i h;exact Cn h2 x h
 ·exact .any _
def qo{o:Op}(h:gl F o=true):∀x∈o.operands.toList,kG F x=bL F x:=fun x hx=>by unfold kG;rw[if_pos];simp only[gl,List.all_eq_true]at h;exact h x hx
def oX{o:Oper}{j:Nat}{want b:Bool}(hg:o.guard=some (j,want))(hb:lT ops F j want=some b)
  (ht:b=true->∀w tm (Q:Exit->Act->World->Prop) (next:Act->World->Prop),aI w H->bq w F tm->(∀T7 w' F' H',K F' H'->aI w' H'->bq w' F' T7->Ext w H w' H'->next ⟨T7,[]⟩ w')->o.wp P ⟨tm,[]⟩ w.toWorld next Q)
  (hf:b=false->∃r,(∀w:NW,aw w r undef)/\K (cL F o.dst r) H):mJ P ops o F H K:=fun w tm Q next h1 h2 hn=>by
 have hy:=Kt hb h2;unfold sL;have hw:Region.wanted o (yielded ops (Act.mk tm []).tmps)=b:=by unfold Region.wanted;rw[hg];exact hy
 cases b with
 |true=> rw[if_pos hw];exact .inl (ht rfl w tm Q next h1 h2 hn)
 |false=> rw[if_neg (by rw[hw];exact Bool.false_ne_true)];obtain⟨r,hr,hk⟩:=hf rfl;rw[Act.put_eq];exact hn _ w _ H hk h1 (h2.put o.dst (hr w) []) (Ext.refl w H)
def pU{r:AV}{g:Bool}(hg:g=false)(w:NW):aw w (.gd g r) undef:=.gd _ _ _ (fun h=>by rw[hg]at h;cases h) (fun _=>rfl)
def sP{r:AV}{v:Value}{g:Bool}(hg:g=true)(h:aw w r v):aw w (.gd g r) v:=.gd _ _ _ (fun _=>h) (fun h=>by rw[hg]at h;cases h)
theorem wo{K:S7}:∀(l:List Oper) (F:TB) (H:Hp),k7 P ops K l F H->vS P ops K l F H
 |[],F,H,h=>Dz h
 |o::rest,F,H,h=>by
  refine Ht ?_;simp only[k7]at h;split at h
  ·rename_i hg;exact(qj (K:=fun F' H'=>k7 P ops K rest F' H') hg h).mono fun F' H' hk=>wo rest F' H' hk
  ·rename_i j want hg;split at h
   ·rename_i b hb;split at h
    ·refine mJ.mono (K:=fun F' H'=>k7 P ops K rest F' H') ?_ fun F' H' hk=>wo rest F' H' hk
     obtain⟨dst,op,ty,pos,after,guard⟩:=o;unfold eQ at h;split at h
     ·rename_i f args argTypes V';cases V';obtain⟨r,hc,hk⟩:=h;refine oX hg hb (fun T0 w tm Q next h1 h2 hn=>?_) (fun T0=>⟨_,pU T0,hk⟩);obtain⟨ok,TY⟩:=hc T0;have VT:=qo ok;have e1:kG F f=bL F f:=VT f (by simp[Op.operands,Call.operands]);have e2:args.toList.map (kG F)=args.toList.map (bL F):=List.map_congr_left fun x hx=>VT x (by simp[Op.operands,Call.operands]at hx ⊢;exact .inr hx)
      refine xB (ev:=kG F) e1 e2 TY h1 (rP h2) fun v r' w' H' hR g1 g2 g3=>?_
      obtain⟨rfl,rfl⟩:=hR;rw[Act.put_eq];exact hn _ w' _ H' hk g1 ((h2.ext g3).put dst (sP T0 g2) []) g3
     ·rename_i f m args argTypes V';cases V';obtain⟨r,hc,hk⟩:=h;refine oX hg hb (fun T0 w tm Q next h1 h2 hn=>?_) (fun T0=>⟨_,pU T0,hk⟩);obtain⟨ok,TY⟩:=hc T0;have VT:=qo ok;have e1:kG F f=bL F f:=VT f (by simp[Op.operands,Call.operands]);have e2:args.toList.map (kG F)=args.toList.map (bL F):=List.map_congr_left fun x hx=>VT x (by simp[Op.operands,Call.operands]at hx ⊢;exact .inr hx)
      refine Bk (ev:=kG F) e1 e2 TY h1 (rP h2) fun v r' w' H' hR g1 g2 g3=>?_
      obtain⟨rfl,rfl⟩:=hR;rw[Act.put_eq];exact hn _ w' _ H' hk g1 ((h2.ext g3).put dst (sP T0 g2) []) g3
     ·rename_i c x y V';simp only at V';subst V';obtain⟨hs,hk⟩:=h;refine oX hg hb (fun T0 w tm Q next h1 h2 hn=>?_) (fun T0=>⟨_,pU T0,hk⟩);obtain⟨ok,hq⟩:=hs T0;obtain⟨v,B',hv⟩:=Fk (P:=P) (ρ:=(Act.mk tm []).eval) (dst:=dst) (ty:=ty) (pos:=pos) (after:=after) (guard:=guard) (Cn h2 c ok) (h2.eval [] x) (h2.eval [] y) hq;simp only[Oper.wp,B',Oper.upon];rw[Act.put_eq];exact hn _ w _ H hk h1 (h2.put dst (sP T0 hv) []) (Ext.refl w H)
     ·split at h
      ·obtain⟨hs,hk⟩:=h;refine oX hg hb (fun T0 w tm Q next h1 h2 hn=>?_) (fun T0=>⟨_,pU T0,hk⟩);obtain⟨ok,hq⟩:=hs T0;rw[<-uv _ (qo ok)]at hq;obtain⟨v,B',hv⟩:=zv (ρ:=(Act.mk tm []).eval) ⟨dst,op,ty,pos,after,guard⟩ h1 (rP h2) hq;simp only[Oper.wp,B',Oper.upon];rw[Act.put_eq];rw[uv _ (qo ok)]at hv;exact hn _ w _ H hk h1 (h2.put dst (sP T0 hv) []) (Ext.refl w H)
      ·exact h.elim
    ·refine mJ.mono (K:=fun F' H'=>k7 P ops K rest F' H') ?_ fun F' H' hk=>wo rest F' H' hk
     refine oX hg hb (fun T0 w tm Q next h1 h2 hn=>?_) (fun T0=>⟨_,fun w=>.any _,h.2 T0⟩);exact BX (h.1 T0) h1 h2 (fun x=>h2.eval [] x) hn
   ·exact h.elim
def RO{id:Nat}{l:List Oper}{Q:Exit->S7}(h:k7 P l.toArray (Q .normal) l F H):dx P (.region id l.toArray false) Q F H:=
 Eg (by simpa using wo l F H h)
-- the results of a body
def ju(P:TL)(H:Hp)(F:TB):List ResultVar->Option TB
 |[]=>some []
 |.tmp t::rest=>(ju P H F rest).map (F.getD t .any::·)
 |.cell a t::rest=>match pP H (F.getD a .any),dB P t,de P t with
  |some (_,cs),some ag,some k=>(ju P H F rest).map (tD ag k cs::·)
  |_,_,_=>none
def kF(P:TL)(H:Hp)(F:TB):List ResultVar->Prop
 |[]=>True
 |.tmp _::rest=>kF P H F rest
 |.cell a t::rest=>match pP H (F.getD a .any),de P t with
  |some (c,cs),some k=>(c/\k<=cs.length/\1<=cs.length)/\kF P H F rest
  |_,_=>False
def ku:TB->AV
 |[r]=>r
 |rs=>.aP rs
def vH(tm:TI):ResultVar->Sem Value
 |.tmp t=>pure (tm.getD t undef)
 |.cell a t=>do loadVar t (<-asAddr (tm.getD a undef))
def SZ(fn:Func)(tm:TI):results fn tm=(do let vs <-fn.results.mapM (vH tm);pure (if h:vs.size=1 then vs[0]else .tuple vs)):=rfl
theorem Co{w:NW}{tm:TI}(hw:aI w H)(h2:bq w F tm):∀(rs:List ResultVar) (out:TB),kF P H F rs->ju P H F rs=some out->
  ∃vs:TJ,cd w out vs/\(rs.mapM (vH tm)).run P w.toWorld=.ok vs w.toWorld
 |[],out,_,h=>by simp[ju]at h;subst h;exact⟨[],⟨rfl,fun i a v ha=>by simp at ha⟩,jE⟩
 |.tmp t::rest,out,hok,h=>by
  simp only[ju,Option.map_eq_some_iff]at h;obtain⟨l,hl,rfl⟩:=h;obtain⟨vs,Tz,B'⟩:=Co hw h2 rest l hok hl;refine⟨tm.getD t undef::vs,⟨by simp[Tz.1],fun i a v ha hv=>?_⟩,?_⟩
  ·cases i with
   |zero=> simp only[List.getElem?_cons_zero,Option.some.injEq]at ha hv;subst ha hv;exact h2.eval [] (.tmp t)
   |succ i=>exact Tz.2 i a v (by simpa using ha) (by simpa using hv)
  ·rw[List.mapM_cons];simp only[vH,Sem.run_bind,Sem.run_pure,Result.andThen_ok];rw[B'];rfl
 |.cell ad t::rest,out,hok,h=>by
  simp only[ju]at h;simp only[kF]at hok;split at h
  ·rename_i c cs ag k e1 e2 e3;rw[e1,e3]at hok;obtain⟨⟨hc,TQ,Tl⟩,hok⟩:=hok;simp only[Option.map_eq_some_iff]at h;obtain⟨l,hl,rfl⟩:=h;obtain⟨vs,Tz,B'⟩:=Co hw h2 rest l hok hl;obtain⟨addr,us,hv,D',hr⟩:=DM (h2.eval [] (.tmp ad)) hw e1 hc;obtain⟨v,Zn,hvr⟩:=DP (P:=P) e2 e3 TQ Tl D' hr;have TO:tm.getD ad undef=.pointer (some addr):=hv;refine⟨v::vs,⟨by simp[Tz.1],fun i a u ha hu=>?_⟩,?_⟩
   ·cases i with
    |zero=> simp only[List.getElem?_cons_zero,Option.some.injEq]at ha hu;subst ha hu;exact hvr
    |succ i=>exact Tz.2 i a u (by simpa using ha) (by simpa using hu)
   ·rw[List.mapM_cons];have ha:(asAddr (tm.getD ad undef)).run P w.toWorld=.ok addr w.toWorld:=by rw[TO];rfl
    have hf:(vH tm (.cell ad t)).run P w.toWorld=.ok v w.toWorld:=by simp only[vH,Sem.run_bind,ha,Zn,Result.andThen_ok]
    simp only[Sem.run_bind,hf,B',Sem.run_pure,Result.andThen_ok]
  ·cases h
def Rt{fn:Func}{out:TB}(hw:aI w H)(h2:bq w F tm)(hok:kF P H F fn.results.toList)(h:ju P H F fn.results.toList=some out):∃v,(results fn tm).run P w.toWorld=.ok v w.toWorld/\aw w (ku out) v:=by
 obtain⟨vs,Tz,B'⟩:=Co (P:=P) hw h2 _ out hok h;have hm:(fn.results.mapM (vH tm)).run P w.toWorld=.ok vs.toArray w.toWorld:=by rw[Array.mapM_eq_mapM_toList];simp only[Sem.run_map,B',Result.andThen_ok]
 have hr:(results fn tm).run P w.toWorld=.ok (if h:vs.toArray.size=1 then vs.toArray[0]else .tuple vs.toArray) w.toWorld:=by rw[SZ];simp only[Sem.run_bind,hm,Result.andThen_ok,Sem.run_pure]
 refine⟨_,hr,?_⟩;match vs,out,Tz with
 |[],[],Tz=>exact .aP _ _ rfl fun i a v ha=>by simp at ha
 |[v],[a],Tz=>exact Tz.2 0 _ _ rfl rfl
 |v::v'::vs,a::a'::out,Tz=>exact .aP _ _ (by have:=Tz.1;simpa using this) fun i x y hx hy=>Tz.2 i x y hx (by simpa using hy)
 |[],_::_,Tz=>have:=Tz.1;simp at this
 |_::_,[],Tz=>have:=Tz.1;simp at this
 |[_],_::_::_,Tz=>have:=Tz.1;simp at this
 |_::_::_,[_],Tz=>have:=Tz.1;simp at this
def lM(P:TL)(fn:Func)(R:AV->List TN->Prop):Exit->S7
 |.normal,F,H|.ret,F,H=>∃out r H',ju P H F fn.results.toList=some out/\kF P H F fn.results.toList/\iw (ku out) H r H'/\R r H'.l
 |_,_,_=>False
def Ir{f:FuncId}{fn:Func}{c:Code}{args:TB}{l:TA}{R:AV->List TN->Prop}(hf:P.funcs[f]?=some fn)(hb:fn.body=some c)(h:dx P c (lM P fn R) (args++List.replicate (fn.ntmps-args.length) .any) (entry l)) :
  ab P f args l R:=fun w vs h1 h2=>by
 have I':args.length=vs.size:=h2.1;refine calls_of_wp hf hb (wp_mono (h w _ h1 ?_) ?_)
 ·refine⟨by simp[I'],fun i a v ha hv=>?_⟩;rcases Nat.lt_or_ge i args.length with hi|hi
  ·rw[List.getElem?_append_left hi]at ha;rw[Array.getElem?_append_left jB]at hv;exact h2.2 i a v ha hv
  ·rw[List.getElem?_append_right hi]at ha;rw[List.getElem?_replicate]at ha;split at ha<;>cases ha;exact .any _
 ·rintro e a W ⟨tm,F',H',w',rfl,rfl,hq,g1,g2,g3⟩;have fin:(∃out r Uh,ju P H' F' fn.results.toList=some out/\kF P H' F' fn.results.toList/\iw (ku out) H' r Uh/\R r Uh.l)->
    ∃v,(results fn tm).run P w'.toWorld=.ok v w'.toWorld/\∃v' r Uh w'',w'.toWorld=NW.toWorld w''/\Ending.returned v=.returned v'/\R r (Hp.l Uh)/\aI w'' Uh/\aw w'' r v'/\fM w (entry l) w'' Uh:=by
   rintro⟨out,r,Uh,e1,e0,e2,e3⟩;obtain⟨v,B',hv⟩:=Rt g1 g2 e0 e1;obtain⟨w'',k0,k1,k2,k3⟩:=e2 w' v g1 hv;exact⟨v,B',v,r,Uh,w'',k0.symm,rfl,e3,k1,k2,g3.trans k3⟩
  cases e with
  |normal=>exact⟨rfl,fin hq⟩
  |ret=>exact⟨rfl,fin hq⟩
  |exit id=>exact hq.elim
  |goto l=>exact hq.elim
  |panic ch=>exact hq.elim
  |outgrown=>exact hq.elim
end
-- encoders of Lean data
class bC{α:Type}(enc:α->List AV)(sz:outParam Nat):Prop where
 len:∀x,(enc x).length=sz
 cI:∀x,cI (enc x)=true
 free:∀x,aW dU (enc x)=true
def QL(q:TK)(css:S9):Prop:=∀cs∈css,aW q cs=true
def wX(q:TK):Row->Prop
 |.var _ cs=>aW q cs=true
 |.aF _ _ css=>QL q css
 |.mp _ vs=>aW q vs=true
theorem uD{q:TK}:∀(a b:TB),aW q (a++b)=(aW q a && aW q b)
 |[],b=>by simp[aW]
 |x::a,b=>by simp[aW,uD a b,Bool.and_assoc]
theorem GJ{q:TK}:∀{css:S9},QL q css->aW q css.flatten=true
 |[],_=>rfl
 |cs::css,h=>by rw[List.flatten_cons,uD,h cs jE,GJ (css:=css) fun c hc=>h c (by simp[hc])];rfl
variable{q:TK}
def HW{r:Row}(h:wX q r):aW q r.cells=true:=by
 cases r with
 |var t cs=>exact h
 |aF e sz css=>exact GJ h
 |mp ks vs=>exact h
def SO(q:TK):QL q []:=fun _ h=>by simp at h
def Lo{a b:S9}(h:QL q a)(k:QL q b):QL q (a++b):=fun c hc=>(List.mem_append.1 hc).elim (h c) (k c)
variable{α:Type}
def nt{enc:α->TB}[e:bC enc sz](l:List α):QL q (l.map enc):=fun c hc=>by obtain⟨x,_,rfl⟩:=List.mem_map.1 hc;exact fT (fun _ h=>by cases h) _ (e.free x)
def OJ(sz:Nat):Good sz []:=fun _ h=>by simp at h
def LV{enc:α->TB}[e:bC enc sz](l:List α):Good sz (l.map enc):=fun c hc=>by obtain⟨x,_,rfl⟩:=List.mem_map.1 hc;exact⟨e.len x,e.cI x⟩
-- calls
def qx:List TN->Hp->Prop
 |[],_=>True
 |(i,r)::l,H=>H.get i=some r/\qx l H
theorem Cp:∀{l:TA} {H:Hp},qx l H->∀i r,aA l i=some r->H.get i=some r
 |[],_,_,i,r,h=>by cases h
 |(j,s)::l,H,hf,i,r,h=>by
  simp only[aA]at h;split at h
  ·rename_i e;subst e;cases h;exact hf.1
  ·exact Cp hf.2 i r h
def qX(q:TK):List TN->Prop
 |[]=>True
 |(_,r)::l=>wX q r/\qX q l
theorem ER{q:TK}:∀{l:TA},qX q l->∀i r,aA l i=some r->aW q r.cells=true
 |[],_,i,r,h=>by cases h
 |(j,s)::l,hf,i,r,h=>by
  simp only[aA]at h;split at h
  ·cases h;exact HW hf.1
  ·exact ER hf.2 i r h
def ot(L:TE)(H:Hp):List TN->Prop
 |[]=>True
 |(i,_)::l=>(L.contains i=true\/H.get i=none)/\ot L H l
theorem yf{L:TE}{H:Hp}:∀{l:TA},ot L H l->∀i r,aA l i=some r->L.contains i=true\/H.get i=none
 |[],_,i,r,h=>by cases h
 |(j,s)::l,hf,i,r,h=>by
  simp only[aA]at h;split at h
  ·rename_i e;subst e;exact hf.1
  ·exact yf hf.2 i r h
section
variable {P:TL}{f:FuncId}{args:TB}{H:Hp}{l:TA}{K:S8}
def Mp{R:AV->List TN->Prop}(hc:ab P f args l R)(h1:qx l H)(h2:aW (fun i=>(ids l).contains i) args=true)(h3:qX (fun i=>(ids l).contains i) l)
  (hk:∀r l',R r l'->ot (ids l) H l'/\(ids l').Nodup/\K r ⟨H.B,gu H.l l'⟩):di P f args H K:=fun _ _ hw hv=>
 yu hc (Cp h1) h2 (ER h3) (fun r l' hR=>⟨yf (hk r l' hR).1,(hk r l' hR).2⟩) hw hv
def v7{r0:AV}{l0:TA}(hc:ab P f args l fun r l'=>r=r0/\l'=l0)(h1:qx l H)(h2:aW (fun i=>(ids l).contains i) args=true)(h3:qX (fun i=>(ids l).contains i) l)
  (h4:ot (ids l) H l0) (h5:(ids l0).Nodup) (hk:K r0 ⟨H.B,gu H.l l0⟩):di P f args H K:=
 Mp hc h1 h2 h3 fun r l' ⟨e1,e2⟩=>by rw[e1,e2];exact⟨h4,h5,hk⟩
def zG{r:AV}(hc:aB P f args r)(h2:aW dU args=true)(hk:K r H):di P f args H K:=
 v7 hc trivial (by simpa[ids]using h2) trivial trivial (by simp[ids]) hk
def nG{args:TB}(hc:aT P f=true)(h:di P f args H K):ff P (.raw (.func (.func f) #[] #[])) args H K:=.inl ⟨hc,by simpa using h⟩
def R7{cs:TB}{args:TB}(hc:aT P f=true)(h:di P f (args++cs) H K):ff P (.dP f cs) args H K:=.inl ⟨hc,by simpa using h⟩
def Kh{args:TB}(h:tv P f args H K):ff P (.raw (.func (.func f) #[] #[])) args H K:=.inr (by simpa using h)
end
-- things of which D holds are let go of, and may be read from then on
def fz(D:TK):List TN->TA
 |[]=>[]
 |(j,s)::l=>bif D j then fz D l else(j,s)::fz D l
theorem BR(D:TK):∀(l:TA) (i:Nat),aA (fz D l) i=if D i=true then none else aA l i
 |[],i=>by simp[fz,aA]
 |(k,s)::l,i=>by
  have ih:=BR D l i;unfold fz;cases hk:D k
  ·simp only[cond_false,aA];split
   ·rename_i h;subst h;rw[hk];simp
   ·exact ih
  ·simp only[cond_true,aA];rw[ih];split
   ·rfl
   ·rename_i h;rw[if_neg];rintro rfl;exact h hk
def NW.cR(w:NW)(D:TK):NW:={ w with O:=fun b=>w.O b/\∀i m t s,D i=true->w.nm i m≠some (.at b t s),nm:=fun j n=>if D j=true then none else w.nm j n }
def gU(D:TK):TK:=fun i=>!(D i)
def iH(D:TK):List TN->Prop
 |[]=>True
 |(j,r)::l=>(D j=true\/wX (gU D) r)/\iH D l
theorem AA{D:TK}:∀{l:TA},iH D l->∀{i:Nat} {r:Row},aA l i=some r->D i=false->aW (gU D) r.cells=true
 |[],_,i,r,h,_=>by cases h
 |(j,s)::l,hf,i,r,h,hd=>by
  simp only[aA]at h;split at h
  ·rename_i e;subst e;cases h;rcases hf.1 with h|h
   ·rw[hd]at h;cases h
   ·exact HW h
  ·exact AA hf.2 h hd
def pr(w:NW)(D:TK):Keep (gU D) w (w.cR D):=⟨Nat.le_refl _,fun b _ h=>⟨rfl,fun h'=>h h'.1⟩,fun j n z hq h=>by show(if D j=true then none else w.nm j n)=_;rw[if_neg (by unfold gU at hq;intro e;rw[e]at hq;cases hq)];exact h⟩
variable{D:TK}
def Gc{w:NW}(r:aI w H)(hB:H.B.all (gU D)=true)(hl:iH D H.l):aI (w.cR D) ⟨H.B,fz D H.l⟩/\fM w H (w.cR D) ⟨H.B,fz D H.l⟩:=by
 have T9:∀j n,(w.cR D).nm j n=if D j=true then none else w.nm j n:=fun _ _=>rfl
 have gE:∀j,(Hp.mk H.B (fz D H.l)).get j=if D j=true then none else H.get j:=fun j=>BR D H.l j
 refine⟨{ rows:=fun j s hj=>?_,cU:=fun j n z hz=>?_,inj:=fun j n j' n' b t s t' s' h1 h2=>?_,own:=fun j n b t s h=>?_,fin:=fun b hb=>r.fin b hb.1,bO:=r.bO.aU (pr w D) },{ pr w D with names:=fun j n z hq h=>?_,os:=rfl,tape:=rfl,output:=rfl,rest:=fun b hb hO Te=>⟨rfl,⟨hO,fun i m t s _=>Te _ _ _ _⟩,fun j n t s h=>?_⟩,base:=rfl }⟩
 ·rw[gE]at hj;split at hj
  ·cases hj
  ·rename_i e;obtain⟨h1,z,h2,h3⟩:=r.rows j s hj;refine⟨h1,z,by rw[T9,if_neg e];exact h2,?_⟩;cases z with
   |nil=>exact h3
   |«at» b t st=> obtain⟨g1,cur,g2,g3,g5⟩:=h3;exact⟨g1,cur,g2,g3,fun k a v ha hv=>(g5 k a v ha hv).aU (pr w D) (k8 (AA hl hj (by simpa using e)) ha)⟩
 ·rw[T9]at hz;split at hz
  ·cases hz
  ·rename_i e;obtain⟨r',h1,h2⟩:=r.cU j n z hz;exact⟨r',by rw[gE,if_neg e];exact h1,h2⟩
 ·rw[T9]at h1 h2;split at h1
  ·cases h1
  ·split at h2
   ·cases h2
   ·exact r.inj _ _ _ _ _ _ _ _ _ h1 h2
 ·rw[T9]at h;split at h
  ·cases h
  ·rename_i e;exact⟨r.own _ _ _ _ _ h,fun i m t' s' hd h'=>e (by rw[r.inj _ _ _ _ _ _ _ _ _ h h'];exact hd)⟩
 ·have hq:H.B.contains j=true:=hq;have:=List.all_eq_true.1 hB j (List.contains_iff_mem.1 hq);rw[T9,if_neg (by intro e;unfold gU at this;rw[e]at this;cases this)];exact h
 ·rw[T9]at h;split at h
  ·cases h
  ·exact Te _ _ _ _ h
inductive cW(D:Nat->Bool)(H:Hp):AV->AV->Prop
 |same (a:AV) (h:a.all (gU D)=true):cW D H a a
 |drop (a:AV):cW D H a .any
 |nil (sz:Nat) (d:List AV):cW D H (.raw (.slice none 0 0)) (.sl false sz [] d)
 |lit (x:Bool) (sz:Nat) (css:List (List AV)) (d d':List AV):cW D H (.sl x sz css d) (.sl false sz css d')
 |agg (cs ds:List AV) (hl:cs.length=ds.length) (h:∀(i:Nat) c d,cs[i]?=some c->ds[i]?=some d->cW D H c d):cW D H (.agg cs) (.agg ds)
 |aP (cs ds:List AV) (hl:cs.length=ds.length) (h:∀(i:Nat) c d,cs[i]?=some c->ds[i]?=some d->cW D H c d):cW D H (.aP cs) (.aP ds)
 |yY (dd:List AV) (i sz m n:Nat) (e:TypeId) (css:List (List AV)) (dss:List (List AV)) (hD:D i=true) (hi:H.get i=some (.aF e sz css)) (hm:m=css.length) (hn:n<=m) (hd:dss.length=n) (V9:∀ds∈dss,ds.length=sz) (Te:QL dU dss)
   (h:∀k (j:Nat) c d,k<n->(css.getD k [])[j]?=some c->(dss.getD k [])[j]?=some d->cW D H c d):cW D H (.rs i m sz n) (.sl false sz dss dd)
 |pt (i k j:Nat) (t:TypeId) (cs ds:List AV) (hD:D i=true) (hi:H.get i=some (.var t cs)) (hl:(cs.drop j).length=ds.length) (Te:aW dU ds=true) (h:∀(q:Nat) c d,(cs.drop j)[q]?=some c->ds[q]?=some d->cW D H c d):cW D H (.pt i 0 k j) (.ip ds)
def cW.sound{w:NW}(hw:aI w H){a:AV}(h:cW D H a a'):∀{v:Value},aw w a v->aw (w.cR D) a' v:=by
 induction h with
 |same a h=>intro v hv;exact hv.aU (pr w D) h
 |drop a=>intro v hv;exact .any v
 |nil sz d=>intro v hv;have:=db hv;subst this;exact .gz _ _ _ _ (fun e=>by cases e)
 |lit x sz css d d'=>
  intro v hv;have TO:=hv.aU (pr w D) (by simp only[AV.all]);cases TO with
  |gz _ _ A c _=>exact .gz _ _ _ _ (fun e=>by cases e)
  |sl _ _ _ a c vs hn hc hx Ti hb hH D' hr=>exact .sl _ _ _ a c vs hn hc (fun e=>by cases e) Ti hb hH D' hr
 |agg cs ds hl _ ih=>
  intro v hv;cases hv with
  |agg _ vs UL hr=>
   refine .agg ds vs jB fun i d v hd hv=>?_
   have hi:i<cs.length:=by rw[hl];exact(List.getElem?_eq_some_iff.1 hd).1
   have hc:cs[i]?=some cs[i]:=List.getElem?_eq_getElem hi;exact ih i _ d hc hd (hr i _ v hc hv)
 |aP cs ds hl _ ih=>
  intro v hv;cases hv with
  |aP _ vs UL hr=>
   refine .aP ds vs jB fun i d v hd hv=>?_
   have hi:i<cs.length:=by rw[hl];exact(List.getElem?_eq_some_iff.1 hd).1
   have hc:cs[i]?=some cs[i]:=List.getElem?_eq_getElem hi;exact ih i _ d hc hd (hr i _ v hc hv)
 |yY dd i sz m n e css dss hD hi hm hn hd V9 Te _ ih=>
  intro v hv;subst hm;cases hv with
  |iA _ _ _ A Th=> have:dss=[]:=List.length_eq_zero_iff.1 jB;rw[this];exact .gz _ _ _ _ (fun h=>by cases h)
  |rs _ _ _ _ b t c Th hc Ts Uz=>
   by_cases h0:n=0
   ·have:dss=[]:=List.length_eq_zero_iff.1 jB;rw[this,h0];exact .gz _ _ _ _ (fun h=>by cases h)
   ·have hsz0:0<sz:=Uz;have:=aw.sl (w:=w.cR D) (d:=dd) false sz dss ⟨b,0,none⟩ c (fun k=>(w.cell? ⟨b,k,none⟩).getD undef) jB jB (fun h=>by cases h) V9 (hw.lt Th) (fun h=>h.2 i _ t sz hD Th) (fun k j hk hj=>by
     obtain⟨_,_,_,v,h1,h2⟩:=rL hw hi Th (k:=k) (j:=j) jB hj;show w.cell? _=_;rw[je,Nat.zero_add,h1];rfl) (fun k j u hk hu=>by
     have hj:j<sz:=by have:=(List.getElem?_eq_some_iff.1 hu).1;rwa [u6 V9 hk]at this
     obtain⟨_,Tu,_,v,h1,h2⟩:=rL hw hi Th (k:=k) (j:=j) jB hj;have Z':=u6 Tu (show k<css.length from jB);have hc:(css.getD k [])[j]?=some ((css.getD k [])[j]' jB):=List.getElem?_eq_getElem jB;rw[h1];have Ub:dss.getD k []∈dss:=by
      have:dss.getD k []=dss[k]:=by simp[hk]
      rw[this];exact List.getElem_mem _
     exact(ih k j _ u jB hc hu (h2 _ hc)).lb (k8 (Te _ Ub) hu))
    rw[hd]at this;exact this
 |pt i k j t cs ds hD hi hl Te _ ih=>
  intro v hv;cases hv with
  |pt _ _ _ _ b t' s Th=>
   obtain⟨hok,z,hz,Tp⟩:=hw.rows i _ hi;have:z=.at b t' s:=by have hz:w.nm i 0=some z:=hz;rw[Th]at hz;cases hz;rfl
   subst this;obtain⟨rfl,cur,hh,⟨hs,Ts⟩,hr⟩:=Tp;have Uz:(Row.var t cs).bB=0:=rfl;have Ts:cs.length<=t':=Ts;have e0:k*(Row.var t cs).bB+j=j:=by rw[Uz];omega
   rw[e0];refine .ip ds ⟨b,j,none⟩ (fun q=>cur.getD (j+q) undef) (hw.lt Th) (fun h=>h.2 i 0 _ _ hD Th) (fun q hq=>?_) (fun q u hu=>?_)
   ·show w.cell? _=_;simp only[List.length_drop]at hl;have:j+q<cur.size:=jB;rw[je,sD b _ cur _ (0,0) hh];simp[this]
   ·have XH:q<(cs.drop j).length:=by rw[hl];exact(List.getElem?_eq_some_iff.1 hu).1
    have hc:(cs.drop j)[q]?=some (cs.drop j)[q]:=List.getElem?_eq_getElem XH;simp only[List.length_drop]at XH;have:j+q<cur.size:=jB;refine(ih q _ u hc hu (hr (j+q) _ _ (by rw[<-List.getElem?_drop];exact hc) ?_)).lb (k8 Te hu);simp[this]
theorem cW.rs{D:TK}{H:Hp}(dd:TB)(i sz n:Nat)(e:TG)(css:S9)(dss:S9)(hD:D i=true)(hi:H.get i=some (.aF e sz css))(hn:n=css.length)(hd:dss.length=css.length)(V9:∀ds∈dss,ds.length=sz)(Te:QL dU dss)
  (h:∀k (j:Nat) c d,k<css.length->(css.getD k [])[j]?=some c->(dss.getD k [])[j]?=some d->cW D H c d):cW D H (.rs i n sz n) (.sl false sz dss dd):=
 .yY dd i sz n n e css dss hD hi hn jl jB V9 Te fun k j c d hk=>h k j c d jB
def cW.row{dd:TB}{i:Nat}{e:TG}{enc:α->TB}[he:bC enc sz](l:List α)(hD:D i=true)(hi:H.get i=some (.aF e sz (l.map enc)))(hn:n=l.length):cW D H (.rs i n sz n) (.sl false sz (l.map enc) dd):=
 .rs dd i sz n e _ _ hD hi (by simpa using hn) rfl (fun ds V9=>by obtain⟨x,_,rfl⟩:=List.mem_map.1 V9;exact he.len x) (nt l) fun k j c d hk h1 h2=>by
  rw[h1]at h2;cases h2;have Tv:k<l.length:=by simpa using hk
  have e1:(l.map enc).getD k []=enc l[k]:=by simp[Tv]
  rw[e1]at h1;exact .same c (pY (fun _ h=>by cases h) _ (k8 (he.free _) h1))
def iw.free{r r':AV}(D:TK)(hB:H.B.all (gU D)=true)(hl:iH D H.l)(hv:cW D H r r'):iw r H r' ⟨H.B,fz D H.l⟩:=fun w v h1 h2=>by obtain⟨a,b⟩:=Gc h1 hB hl;exact⟨w.cR D,rfl,a,hv.sound h1 h2,b⟩
def bt(D:TK)(H:Hp):TB->TB->Prop
 |[],[]=>True
 |a::l,b::m=>cW D H a b/\bt D H l m
 |_,_=>False
theorem bt.get{D:TK}{H:Hp}:∀{l m:TB},bt D H l m->l.length=m.length/\∀(i:Nat) a b,l[i]?=some a->m[i]?=some b->cW D H a b
 |[],[],_=>⟨rfl,fun i a b h=>by simp at h⟩
 |x::l,y::m,h=>by
  have ih:=bt.get h.2;refine⟨by simp[ih.1],fun i a b ha hb=>?_⟩;cases i with
  |zero=>simp at ha hb;subst ha hb;exact h.1
  |succ i=>exact ih.2 i a b (by simpa using ha) (by simpa using hb)
theorem bt.agg{D:TK}{H:Hp}{cs ds:TB}(h:bt D H cs ds):cW D H (.agg cs) (.agg ds):=.agg cs ds h.get.1 h.get.2
theorem bt.aP{D:TK}{H:Hp}{cs ds:TB}(h:bt D H cs ds):cW D H (.aP cs) (.aP ds):=.aP cs ds h.get.1 h.get.2
def dO.free{F F':TB}(D:TK)(hB:H.B.all (gU D)=true)(hl:iH D H.l)(hv:bt D H F F'):dO F H F' ⟨H.B,fz D H.l⟩:=fun w tm h1 h2=>by
 obtain⟨a,b⟩:=Gc h1 hB hl;obtain⟨UL,hg⟩:=hv.get;refine⟨w.cR D,rfl,a,⟨by rw[<-UL];exact h2.1,fun i c v hc hv=>?_⟩,b⟩;have hi:i<F.length:=by rw[UL];exact(List.getElem?_eq_some_iff.1 hc).1
 exact(hg i F[i] c (List.getElem?_eq_getElem hi) hc).sound h1 (h2.2 i _ v (List.getElem?_eq_getElem hi) hv)
-- what is lent: a function that is Ys nothing of one's own but to read
mutual
def AV.flat:AV->Bool
 |.raw _=>true
 |.any=>true
 |.agg cs=>xR cs
 |.aP cs=>xR cs
 |.gd _ v=>v.flat
 |_=>false
def xR:TB->Bool
 |[]=>true
 |a::l=>a.flat && xR l
end
-- a slot that holds nothing yet, as a row of one's own without elements
theorem dO.nil{F:TB}{H:Hp}(i slot:Nat)(e:TG){sz:Nat}(hi:H.get i=none)(h0:0<sz)(hs:F[slot]?=some (.raw (.slice none 0 0))\/∃x s d,F[slot]?=some (.sl true s x d)/\x=[]):dO F H (F.set slot (.rs i 0 sz 0)) (H.put i (.aF e sz [])):=fun w tm h1 h2=>by
 obtain⟨a,b⟩:=wD h1 hi e h0;refine⟨w.name i 0 .nil,rfl,a,⟨by rw[List.length_set];exact h2.1,fun k c v hc hv=>?_⟩,b.ph⟩;rw[List.getElem?_set]at hc;by_cases hk:slot=k
 ·subst hk;rw[if_pos rfl]at hc;split at hc
  ·cases hc;have TO:∃A,v=.slice A 0 0:=by
    rcases hs with hs|⟨x,s,d,hs,rfl⟩
    ·exact⟨none,by have:=h2.2 slot _ v hs hv;cases this;rfl⟩
    ·have:=h2.2 slot _ v hs hv;cases this with
     |gz _ _ A c hx=>have:=hx rfl;subst this;exact⟨A,rfl⟩
     |sl _ _ _ _ _ _ hn=>simp at hn
   obtain⟨A,rfl⟩:=TO;exact .iA _ _ _ _ (NW.cw _ _ _ _)
  ·cases hc
 ·rw[if_neg hk]at hc;exact(h2.2 k c v hc hv).ext b
def nth{α:Type}[Inhabited α](l:List α)(i:Nat):α:=l.getD i default
variable{α:Type}{i:Nat}
def fJ[Inhabited α]{l:List α}(h:i<l.length):nth l i=l[i]:=by simp[nth,h]
def ub[Inhabited α]{l:List α}(h:i<l.length):l.take (i+1)=l.take i++[nth l i]:=by rw[fJ h,List.take_succ_eq_append_getElem h]
@[reducible] def aM{α:Type}[Inhabited α](enc:α->TB)(sz:Nat)(l:List α):AV:=.sl false sz (l.map enc) (enc default)
@[go_sem] def jwH:(∀(next:S7) (Q:Exit->S7) (F:TB) (H:Hp),tL next Q .normal F H=next F H)/\(∀(next:S7) (Q:Exit->S7) (F:TB) (H:Hp),tL next Q .ret F H=Q .ret F H)/\(∀(next:S7) (Q:Exit->S7) (id:Nat) (F:TB) (H:Hp),tL next Q (.exit id) F H=Q (.exit id) F H)/\(∀(id:Nat) (Q:Exit->S7) (F:TB) (H:Hp),sI id Q .normal F H=Q .normal F H)/\(∀(id:Nat) (Q:Exit->S7) (F:TB) (H:Hp),sI id Q .ret F H=Q .ret F H):=by and_intros<;>(intros;rfl)
@[go_sem] def jxU(id:Nat)(Q:Exit->S7)(F:TB)(H:Hp):sI id Q (.exit id) F H=Q .normal F H:=by simp[sI]
def AP(K:S8)(_:im K):S8:=K
def vj(K:AV->Prop)(_:im K):AV->Prop:=K
@[go_sem] def j4B:(∀(K:S8) (d:im K) (r:AV) (H:Hp),AP K d r H=K r H)/\(∀(K:AV->Prop) (d:im K) (r:AV),vj K d r=K r):=by and_intros<;>(intros;rfl)
variable{r:AV}{H:Hp}
def K2{K:S8}{d:im K}(h:K r H):AP K d r H:=h
def qO(o:Option Bool)(A:Bool->Prop)(_:im A):Prop:=match o with
 |some b=>A b
 |none=>False
@[go_sem] def j0j(b:Bool)(A:Bool->Prop)(d:im A):qO (some b) A d=A b:=(rfl)
def o9(q:Bool)(A B:Prop)(_:im A)(_:im B):Prop:=if q=true then A else B
@[go_sem] def j53:(∀(A B:Prop) (d:im A) (e:im B),o9 true A B d e=A)/\(∀(A B:Prop) (d:im A) (e:im B),o9 false A B d e=B)/\(∀{P:TL} {ops:Array Oper} {K:S7} (F:TB) (H:Hp),k7 P ops K [] F H=K F H):=by and_intros<;>(intros;rfl)
variable{P:TL}{ops:Array Oper}{K:S7}
@[go_sem] def j6m(dst:Option Tmp)(op:Op)(ty:TG)(pos:String)(after:Array Edge)(rest:List Oper)(F:TB)(H:Hp) :
  k7 P ops K (⟨dst,op,ty,pos,after,none⟩::rest) F H=vc P (cr F) H ty (AP (fun r H'=>k7 P ops K rest (cL F dst r) H') .mk) op:=(rfl)
@[go_sem] def j4q(dst:Option Tmp)(op:Op)(ty:TG)(pos:String)(after:Array Edge)(j:Nat)(want:Bool)(rest:List Oper)(F:TB)(H:Hp) :
  k7 P ops K (⟨dst,op,ty,pos,after,some (j,want)⟩::rest) F H=qO (lT ops F j want) (fun b=>o9 (iU op || iJ op) (eQ P F H b (vj (fun r=>k7 P ops K rest (cL F dst r) H) .mk) op)
    ((b=true->vc P (cr F) H ty (AP (fun r H'=>k7 P ops K rest (cL F dst r) H') .mk) op)/\(b=false->k7 P ops K rest (cL F dst .any) H)) .mk .mk) .mk:=by
 unfold qO o9;rfl
@[go_sem] def j1p(a:Nat):((a:Int)+1).toNat=a+1:=jB
@[go_sem] def j1q(a b:Nat):((a:Int)-(b:Int)).toNat=a-b:=jB
@[go_sem] def j1r(a:Nat):((a:Int)-1).toNat=a-1:=jB
attribute [go_sem] Int.cast_ofNat_Int
def sr{n:Int}(h:-9223372036854775808<=n/\n<=9223372036854775807):IntKind.i64.wrap n=n:=by have h1:(2:Int) ^ 64=18446744073709551616:=jC;have h2:(2:Int) ^ (64-1)=9223372036854775808:=jC;simp only[IntKind.wrap,IntKind.bits,IntKind.signed,Bool.true_and,h1,h2,decide_eq_true_eq];split<;>omega
variable{fn:Func}{F:TB}
def NL{f:FuncId}{c:Code}{args:TB}(hf:P.funcs[f]?=some fn)(hb:fn.body=some c)(hF:args++List.replicate (fn.ntmps-args.length) .any=F)
  (h:dx P c (lM P fn fun r' l'=>r'=r/\l'=[]) F ⟨[],[]⟩):aB P f args r:=Ir hf hb (by rw[hF];exact h)
variable{l:TA}{R:AV->List TN->Prop}
def P7{f:FuncId}{c:Code}{args:TB}(hf:P.funcs[f]?=some fn)(hb:fn.body=some c)(hF:args++List.replicate (fn.ntmps-args.length) .any=F){L:TE}(hL:ids l=L)
  (h:dx P c (lM P fn R) F ⟨L,l⟩):ab P f args l R:=Ir hf hb (by rw[hF];subst hL;exact h)
section
variable {P:TL}{ev:TH}{H:Hp}{ty:TG}{K:S8}
@[go_sem] def j7V(x:Operand):vc P ev H ty K (.move x)=K (ev x) H:=by simp[vc,dn,vq]
@[go_sem] def j4k(x:Operand):vc P ev H ty K (.assign x)=K (ev x) H:=by simp[vc,dn,vq]
@[go_sem] def j7W(c a b:Operand):vc P ev H ty K (.pick c a b)=((nA (ev c) (ev a) (ev b)).1/\K (nA (ev c) (ev a) (ev b)).2 H):=by simp[vc,dn,vq]
@[go_sem] def j0s(x:Operand):vc P ev H ty K (.nilCheck x)=((rm P (ev x)).1/\K (rm P (ev x)).2 H):=by simp[vc,dn,vq]
@[go_sem] def j7X(op:UnOp)(t:TG)(x:Operand):vc P ev H ty K (.unOp op t x)=((sO op (ev x)).1/\K (sO op (ev x)).2 H):=by simp[vc,dn,vq]
@[go_sem] def j7U(t:TG)(x:Operand):vc P ev H ty K (.load t x)=((o0 P H t (ev x)).1/\K (o0 P H t (ev x)).2 H):=by simp[vc,dn,vq]
@[go_sem] def jxF(t:TG)(x:Operand)(f:Nat):vc P ev H ty K (.fieldAddr t x f)=((sy P t (ev x) f).1/\K (sy P t (ev x) f).2 H):=by simp[vc,dn,vq]
@[go_sem] def j6g(t:TG)(x:Operand)(f:Nat):vc P ev H ty K (.field t x f)=((uF P t (ev x) f).1/\K (uF P t (ev x) f).2 H):=by simp[vc,dn,vq]
@[go_sem] def jxG(t:TG)(x i:Operand):vc P ev H ty K (.indexAddr t x i)=((rQ P t (ev x) (ev i)).1/\K (rQ P t (ev x) (ev i)).2 H):=by simp[vc,dn,vq]
@[go_sem] def j6h(t:TG)(x i:Operand):vc P ev H ty K (.index t x i)=((rX P t (ev x) (ev i)).1/\K (rX P t (ev x) (ev i)).2 H):=by simp[vc,dn,vq]
@[go_sem] def j1y(x:Operand)(i:Nat):vc P ev H ty K (.extract x i)=((vm (ev x) i).1/\K (vm (ev x) i).2 H):=by simp[vc,dn,vq]
@[go_sem] def j6i(t:TG)(a:Operand)(lo hi mx:Option Operand):vc P ev H ty K (.slice t a lo hi mx)=((sT P t (ev a) (lo.map ev) (hi.map ev) (mx.map ev)).1/\K (sT P t (ev a) (lo.map ev) (hi.map ev) (mx.map ev)).2 H):=by simp[vc,dn,vq]
@[go_sem] def j0r(fn:Fn)(a b:Array Operand):vc P ev H ty K (.makeFunc fn a b)=((uU fn (a.toList.map ev) (b.toList.map ev)).1/\K (uU fn (a.toList.map ev) (b.toList.map ev)).2 H):=by simp[vc,dn,vq]
@[go_sem] def jxH(t:TG)(x:Operand):vc P ev H ty K (.makeInterface t x)=((vt P t (ev x)).1/\K (vt P t (ev x)).2 H):=by simp[vc,dn,vq]
@[go_sem] def j1x(s d:TG)(x:Operand):vc P ev H ty K (.convert s d x)=((u9 P s d (ev x)).1/\K (u9 P s d (ev x)).2 H):=by simp[vc,dn,vq]
@[go_sem] def j6e(t:TG)(ps:Array (Nat×Operand)):vc P ev H ty K (.build t ps)=((vY P t (ps.toList.map fun p=>(p.1,ev p.2))).1/\K (vY P t (ps.toList.map fun p=>(p.1,ev p.2))).2 H):=by simp[vc,dn,vq]
@[go_sem] def qbQ(as:Array Operand)(ts:Array TG):vc P ev H ty K (.call ⟨.builtin .len,as,ts⟩)=((mc P H .len ts.toList (as.toList.map ev)).1/\K (mc P H .len ts.toList (as.toList.map ev)).2 H):=by simp[vc,dn,vq]
@[go_sem] def qbM(as:Array Operand)(ts:Array TG):vc P ev H ty K (.call ⟨.builtin .cap,as,ts⟩)=((mc P H .cap ts.toList (as.toList.map ev)).1/\K (mc P H .cap ts.toList (as.toList.map ev)).2 H):=by simp[vc,dn,vq]
@[go_sem] def qbT(as:Array Operand)(ts:Array TG):vc P ev H ty K (.call ⟨.builtin .max,as,ts⟩)=((mc P H .max ts.toList (as.toList.map ev)).1/\K (mc P H .max ts.toList (as.toList.map ev)).2 H):=by simp[vc,dn,vq]
@[go_sem] def qbU(as:Array Operand)(ts:Array TG):vc P ev H ty K (.call ⟨.builtin .min,as,ts⟩)=((mc P H .min ts.toList (as.toList.map ev)).1/\K (mc P H .min ts.toList (as.toList.map ev)).2 H):=by simp[vc,dn,vq]
@[go_sem] def qbK(t:TG)(x y:Operand)(t':TG):vc P ev H ty K (.binOp .add t x y t')=((fF P .add t (ev x) (ev y)).1/\K (fF P .add t (ev x) (ev y)).2 H):=by simp[vc,dn,vq]
@[go_sem] def qbZ(t:TG)(x y:Operand)(t':TG):vc P ev H ty K (.binOp .sub t x y t')=((fF P .sub t (ev x) (ev y)).1/\K (fF P .sub t (ev x) (ev y)).2 H):=by simp[vc,dn,vq]
@[go_sem] def qbV(t:TG)(x y:Operand)(t':TG):vc P ev H ty K (.binOp .mul t x y t')=((fF P .mul t (ev x) (ev y)).1/\K (fF P .mul t (ev x) (ev y)).2 H):=by simp[vc,dn,vq]
@[go_sem] def qbX(t:TG)(x y:Operand)(t':TG):vc P ev H ty K (.binOp .quo t x y t')=((fF P .quo t (ev x) (ev y)).1/\K (fF P .quo t (ev x) (ev y)).2 H):=by simp[vc,dn,vq]
@[go_sem] def qbY(t:TG)(x y:Operand)(t':TG):vc P ev H ty K (.binOp .rem t x y t')=((fF P .rem t (ev x) (ev y)).1/\K (fF P .rem t (ev x) (ev y)).2 H):=by simp[vc,dn,vq]
@[go_sem] def qbS(t:TG)(x y:Operand)(t':TG):vc P ev H ty K (.binOp .lss t x y t')=((fF P .lss t (ev x) (ev y)).1/\K (fF P .lss t (ev x) (ev y)).2 H):=by simp[vc,dn,vq]
@[go_sem] def qbR(t:TG)(x y:Operand)(t':TG):vc P ev H ty K (.binOp .leq t x y t')=((fF P .leq t (ev x) (ev y)).1/\K (fF P .leq t (ev x) (ev y)).2 H):=by simp[vc,dn,vq]
@[go_sem] def qbP(t:TG)(x y:Operand)(t':TG):vc P ev H ty K (.binOp .gtr t x y t')=((fF P .gtr t (ev x) (ev y)).1/\K (fF P .gtr t (ev x) (ev y)).2 H):=by simp[vc,dn,vq]
@[go_sem] def qbO(t:TG)(x y:Operand)(t':TG):vc P ev H ty K (.binOp .geq t x y t')=((fF P .geq t (ev x) (ev y)).1/\K (fF P .geq t (ev x) (ev y)).2 H):=by simp[vc,dn,vq]
@[go_sem] def qbN:(∀(t:TG) (x y:Operand) (t':TG),vc P ev H ty K (.binOp .eql t x y t')=p9 P false t (ev x) (ev y) H K)/\(∀(t:TG) (x y:Operand) (t':TG),vc P ev H ty K (.binOp .neq t x y t')=p9 P true t (ev x) (ev y) H K)/\(∀(t:TG) (x:Operand),vc P ev H ty K (.box t x)=qE H t (ev x) K)/\(∀(t:TG),vc P ev H ty K (.alloc t)=nH P H t K)/\(∀(t:TG) (a x:Operand),vc P ev H ty K (.store t a x)=vn P H t (ev a) (ev x) K)/\(∀(t:TG) (n:Nat) (ps:Array (Nat×Operand)),vc P ev H ty K (.buildSlice t n ps)=oz P H t n (ps.toList.map fun p=>(p.1,ev p.2)) K)/\(∀(f:Operand) (as:Array Operand) (ts:Array TG),vc P ev H ty K (.call ⟨.value f,as,ts⟩)=ff P (ev f) (as.toList.map ev) H K)/\(∀(f:Operand) (m:String) (as:Array Operand) (ts:Array TG),vc P ev H ty K (.call ⟨.invoke f m,as,ts⟩)=qp P (ev f) m (as.toList.map ev) H K):=by and_intros<;>(intros;rfl)
@[go_sem] def j0k(t:TG)(v:AV)(m:String)(args:TB):qp P (.iG t v) m args H K=match oG P t m with|some f=>ff P (.raw (.func (.func f) #[] #[])) (v::args) H K|none=>False:=(rfl)
@[go_sem] def j4j(t:TG)(a x:Operand):vc P ev H ty K (.call ⟨.builtin .append,#[a,x],#[t,t]⟩)=p6 P t t (ev a) (ev x) H K:=by simp[vc]
@[go_sem] def j0q(t t':TG)(a x:Operand):vc P ev H ty K (.call ⟨.builtin .append,#[a,x],#[t,t']⟩)=p6 P t t' (ev a) (ev x) H K:=by simp[vc]
@[go_sem] def j7T(as:Array Operand)(ts:Array TG):vc P ev H ty K (.call ⟨.builtin .copy,as,ts⟩)=pI P .copy ts.toList (as.toList.map ev) H K:=by simp[vc,dn]
@[go_sem] def j6f(as:Array Operand)(ts:Array TG):vc P ev H ty K (.call ⟨.builtin .clear,as,ts⟩)=pI P .clear ts.toList (as.toList.map ev) H K:=by simp[vc,dn]
end
section
variable {P:TL}{F:TB}{H:Hp}{g:Bool}{K:AV->Prop}
@[go_sem] def j72(c a b:Operand):eQ P F H g K (.pick c a b)=((g=true->(jo (cr F c)).1=true/\(nA (bL F c) (cr F a) (cr F b)).1)/\K (.gd g (nA (bL F c) (cr F a) (cr F b)).2)):=(rfl)
@[go_sem] def j0v(x:Operand):eQ P F H g K (.nilCheck x)=((g=true->gl F (.nilCheck x)=true/\(rm P (bL F x)).1)/\K (.gd g (rm P (bL F x)).2)):=by simp[eQ,iJ,dn,vq]
@[go_sem] def j73(op:UnOp)(t:TG)(x:Operand):eQ P F H g K (.unOp op t x)=((g=true->gl F (.unOp op t x)=true/\(sO op (bL F x)).1)/\K (.gd g (sO op (bL F x)).2)):=by simp[eQ,iJ,dn,vq]
@[go_sem] def j70(t:TG)(x:Operand):eQ P F H g K (.load t x)=((g=true->gl F (.load t x)=true/\(o0 P H t (bL F x)).1)/\K (.gd g (o0 P H t (bL F x)).2)):=by simp[eQ,iJ,dn,vq]
@[go_sem] def jxI(t:TG)(x:Operand)(f:Nat):eQ P F H g K (.fieldAddr t x f)=((g=true->gl F (.fieldAddr t x f)=true/\(sy P t (bL F x) f).1)/\K (.gd g (sy P t (bL F x) f).2)):=by simp[eQ,iJ,dn,vq]
@[go_sem] def jxJ(t:TG)(x i:Operand):eQ P F H g K (.indexAddr t x i)=((g=true->gl F (.indexAddr t x i)=true/\(rQ P t (bL F x) (bL F i)).1)/\K (.gd g (rQ P t (bL F x) (bL F i)).2)):=by simp[eQ,iJ,dn,vq]
@[go_sem] def j6n(t:TG)(x i:Operand):eQ P F H g K (.index t x i)=((g=true->gl F (.index t x i)=true/\(rX P t (bL F x) (bL F i)).1)/\K (.gd g (rX P t (bL F x) (bL F i)).2)):=by simp[eQ,iJ,dn,vq]
@[go_sem] def j6o(t:TG)(a:Operand)(lo hi mx:Option Operand):eQ P F H g K (.slice t a lo hi mx)=((g=true->gl F (.slice t a lo hi mx)=true/\(sT P t (bL F a) (lo.map (bL F)) (hi.map (bL F)) (mx.map (bL F))).1)/\K (.gd g (sT P t (bL F a) (lo.map (bL F)) (hi.map (bL F)) (mx.map (bL F))).2)):=by simp[eQ,iJ,dn,vq]
@[go_sem] def qb4(as:Array Operand)(ts:Array TG):eQ P F H g K (.call ⟨.builtin .len,as,ts⟩)=((g=true->gl F (.call ⟨.builtin .len,as,ts⟩)=true/\(mc P H .len ts.toList (as.toList.map (bL F))).1)/\K (.gd g (mc P H .len ts.toList (as.toList.map (bL F))).2)):=by simp[eQ,iJ,dn,vq]
@[go_sem] def qb0(t:TG)(x y:Operand)(t':TG):eQ P F H g K (.binOp .add t x y t')=((g=true->gl F (.binOp .add t x y t')=true/\(fF P .add t (bL F x) (bL F y)).1)/\K (.gd g (fF P .add t (bL F x) (bL F y)).2)):=by simp[eQ,iJ,dn,vq]
@[go_sem] def qb6(t:TG)(x y:Operand)(t':TG):eQ P F H g K (.binOp .lss t x y t')=((g=true->gl F (.binOp .lss t x y t')=true/\(fF P .lss t (bL F x) (bL F y)).1)/\K (.gd g (fF P .lss t (bL F x) (bL F y)).2)):=by simp[eQ,iJ,dn,vq]
@[go_sem] def qb5(t:TG)(x y:Operand)(t':TG):eQ P F H g K (.binOp .leq t x y t')=((g=true->gl F (.binOp .leq t x y t')=true/\(fF P .leq t (bL F x) (bL F y)).1)/\K (.gd g (fF P .leq t (bL F x) (bL F y)).2)):=by simp[eQ,iJ,dn,vq]
@[go_sem] def qb3(t:TG)(x y:Operand)(t':TG):eQ P F H g K (.binOp .gtr t x y t')=((g=true->gl F (.binOp .gtr t x y t')=true/\(fF P .gtr t (bL F x) (bL F y)).1)/\K (.gd g (fF P .gtr t (bL F x) (bL F y)).2)):=by simp[eQ,iJ,dn,vq]
@[go_sem] def qb2(t:TG)(x y:Operand)(t':TG):eQ P F H g K (.binOp .geq t x y t')=((g=true->gl F (.binOp .geq t x y t')=true/\(fF P .geq t (bL F x) (bL F y)).1)/\K (.gd g (fF P .geq t (bL F x) (bL F y)).2)):=by simp[eQ,iJ,dn,vq]
@[go_sem] def j71(x:Operand):eQ P F H g K (.move x)=((g=true->gl F (.move x)=true)/\K (.gd g (bL F x))):=by simp[eQ,iJ,dn,vq]
@[go_sem] def qb1(t:TG)(x y:Operand)(t':TG):eQ P F H g K (.binOp .eql t x y t')=((g=true->gl F (.binOp .eql t x y t')=true/\(fF P .eql t (bL F x) (bL F y)).1)/\K (.gd g (fF P .eql t (bL F x) (bL F y)).2)):=by simp[eQ,iJ,vq]
@[go_sem] def qb7(t:TG)(x y:Operand)(t':TG):eQ P F H g K (.binOp .neq t x y t')=((g=true->gl F (.binOp .neq t x y t')=true/\(fF P .neq t (bL F x) (bL F y)).1)/\K (.gd g (fF P .neq t (bL F x) (bL F y)).2)):=by simp[eQ,iJ,vq]
@[go_sem] def j4r:(∀(f:Operand) (m:String) (as:Array Operand) (ts:Array TG),eQ P F H g K (.call ⟨.invoke f m,as,ts⟩)=∃r,(g=true->gl F (.call ⟨.invoke f m,as,ts⟩)=true/\qp P (bL F f) m (as.toList.map (bL F)) H fun r' H'=>r'=r/\H'=H)/\K (.gd g r))/\(∀(f:Operand) (as:Array Operand) (ts:Array TG),eQ P F H g K (.call ⟨.value f,as,ts⟩)=∃r,(g=true->gl F (.call ⟨.value f,as,ts⟩)=true/\ff P (bL F f) (as.toList.map (bL F)) H fun r' H'=>r'=r/\H'=H)/\K (.gd g r)):=by and_intros<;>(intros;rfl)
@[go_sem] def j6K:(∀(t:Tmp),cr F (.tmp t)=F.getD t .any)/\(∀(v:Value),cr F (.const v)=.raw v)/\(∀(f:FuncId),cr F (.func f)=.raw (.func (.func f) #[] #[]))/\(∀(d:Tmp) (a:AV),cL F (some d) a=F.set d a)/\(∀(a:AV),cL F none a=F):=by and_intros<;>(intros;rfl)
end
attribute [go_sem] bL gl jo lT iU iJ dn nA rm yk yD wN fF sO o0 pP sy uF zL rQ rX vm ru sT IW uU vt u9 tO zD xd mc qM vY vn p9 oz ky
attribute [go_sem] cI Op.operands Call.operands xJ
section
@[go_sem] def j1Y:(∀(cs:TB),(AV.agg cs).cells=cs)/\(∀(k:IntKind) (n:Int),(AV.raw (.int k n)).cells=[.raw (.int k n)])/\(∀(s:TF),(AV.raw (.string s)).cells=[.raw (.string s)])/\(∀(a:Option Addr) (n c:Nat),(AV.raw (.slice a n c)).cells=[.raw (.slice a n c)])/\(∀(x:Bool) (sz:Nat) (css:S9) (d:TB),(AV.sl x sz css d).cells=[.sl x sz css d])/\(∀(i m k j:Nat),(AV.pt i m k j).cells=[.pt i m k j])/\(∀(i m k j:Nat),(AV.rs i m k j).cells=[.rs i m k j])/\(∀(k:IntKind) (n:Int),(AV.raw (.int k n)).one=true)/\(∀(s:TF),(AV.raw (.string s)).one=true)/\(∀(a:Option Addr) (n c:Nat),(AV.raw (.slice a n c)).one=true)/\(∀(x:Bool) (sz:Nat) (css:S9) (d:TB),(AV.sl x sz css d).one=true)/\(∀(i m k j:Nat),(AV.pt i m k j).one=true)/\(∀(i m k j:Nat),(AV.rs i m k j).one=true):=by and_intros<;>(intros;rfl)
end
attribute [go_sem] Hp.get Hp.put aA bg pN gu entry ids tE CG zi room yr Ab l7
attribute [go_sem] AV.all aW dU AV.flat xR wX qX qx ot iH fz gU Jc IE bt
@[go_sem] def j2T(sz:Nat):Good sz []=True:=by simp[OJ]
@[go_sem] def j1a(sz:Nat)(cs:TB)(css:S9):Good sz (cs::css)=((cs.length=sz/\cI cs=true)/\Good sz css):=by simp[Good]
@[go_sem] def j2S(enc:α->TB)(sz:Nat)[bC enc sz](l:List α):Good sz (l.map enc)=True:=by simp[LV]
@[go_sem] def j7C(q:TK):QL q []=True:=by simp[SO]
@[go_sem] def j5Y(q:TK)(cs:TB)(css:S9):QL q (cs::css)=(aW q cs=true/\QL q css):=by simp[QL]
@[go_sem] def j1n(q:TK)(a b:S9):QL q (a++b)=(QL q a/\QL q b):=by apply propext;exact⟨fun h=>⟨fun c hc=>h c (List.mem_append_left _ hc),fun c hc=>h c (List.mem_append_right _ hc)⟩,fun h=>Lo h.1 h.2⟩
variable{sz:Nat}
@[go_sem] def j7B(q:TK)(enc:α->TB)[bC enc sz](l:List α):QL q (l.map enc)=True:=by simp[nt]
@[go_sem] def j2P[Inhabited α](enc:α->TB)(l:List α)(k:Nat)(h:k<l.length):(l.map enc).getD k []=enc (nth l k):=by simp[nth,h]
@[go_sem] def j09[Inhabited α](enc:α->TB)(l:List α)(k:Nat):(l.map enc).getD k (enc default)=enc (nth l k):=by unfold nth;rcases Nat.lt_or_ge k l.length with h|h<;>simp[h]
@[go_sem] def j3u(enc:α->TB)(l:List α)(k:Nat):(l.map enc).drop k=(l.drop k).map enc:=jE
@[go_sem] def j3v(enc:α->TB)(l:List α)(k:Nat):(l.map enc).take k=(l.take k).map enc:=jE
@[go_sem] def j35(l:List α):l.take l.length=l:=jE
@[go_sem] def jzp{β:Type}(f:α->β)(l:List α):(l.map f).length=l.length:=jE
@[go_sem] def jug(a b:List α):(a++b).length=a.length+b.length:=jE
@[go_sem] def jzv{β:Type}(f:α->β)(a b:List α):(a++b).map f=a.map f++b.map f:=jE
@[go_sem] def juT(i:Nat):([]:TE).contains i=false:=(rfl)
@[go_sem] def juc(i j:Nat)(l:TE):(j::l).contains i=(i == j || l.contains i):=List.contains_cons
@[go_sem] def jzW(e e':TG)(sz sz':Nat)(a b:S9):(Row.aF e sz a=Row.aF e' sz' b)=(e=e'/\sz=sz'/\a=b):=jE
@[go_sem] def jzV(e e':TG)(a b:TB):(Row.var e a=Row.var e' b)=(e=e'/\a=b):=jE
attribute [go_sem] List.getD_cons_zero List.getD_cons_succ List.getD_nil List.set_cons_zero List.set_cons_succ List.set_nil List.map_nil List.map_cons List.getElem?_cons_zero List.getElem?_cons_succ List.getElem?_nil List.getElem?_toArray List.all_nil List.all_cons List.append_nil List.nil_append List.cons_append List.length_cons List.length_nil List.take_succ_cons List.take_zero List.take_nil List.drop_succ_cons List.drop_zero List.drop_nil List.flatten_nil List.flatten_cons
def OS(b:Bool):(b == true)=b:=by cases b<;>rfl
def JE(b:Bool):(b == false)=!b:=by cases b<;>rfl
attribute [go_sem] if_true if_false true_and and_true false_and and_false Option.map_some Option.map_none Option.getD_some Option.getD_none Option.bind_some Option.bind_none Option.isSome_some Option.isNone_some Option.isNone_none Option.some.injEq Bool.and_true Bool.true_and Bool.and_self Bool.not_true Bool.not_false OS JE Bool.false_eq_true Bool.true_eq_false reduceCtorEq imp_self implies_true forall_const or_true true_or or_self or_false false_or not_true_eq_false not_false_eq_true eq_self ne_eq and_self List.foldl_cons List.foldl_nil Bool.not_eq_true' Bool.or_true Bool.or_false Bool.true_or Bool.false_or decide_true decide_false Nat.zero_add Nat.add_zero Nat.le_refl Int.toNat_natCast
@[go_sem] def j0H(c x:Bool):xh c x false=(c && x):=by cases c<;>rfl
@[go_sem] def j1X(c y:Bool):xh c true y=(c || y):=by cases c<;>rfl
@[go_sem] def j1F(b:Bool):(false ^^ b)=b:=by cases b<;>rfl
@[go_sem] def j4y(b:Bool):(true ^^ b)=!b:=by cases b<;>rfl
@[go_sem] def jt9(id id':Nat)(Q:Exit->S7)(F:TB)(H:Hp):sI id Q (.exit id') F H=if id'=id then Q .normal F H else Q (.exit id') F H:=(rfl)
def mB(J:List (Nat×AV))(F:TB):TB:=J.foldl (fun F p=>F.set p.1 p.2) F
attribute [go_sem] mB ng Ib List.replicate_succ List.replicate_zero
def Next(n:Nat){S:Type}(W:List (Nat×Nat))(ok:S->Prop)(J:S->List (Nat×AV))(G:S->Hp)(μ:S->Nat)(F₀ F:TB)(H:Hp):Prop:=∃s,μ s<n/\dO F H (mB (J s) (ng W F₀)) (G s)/\ok s
variable{n:Nat}{W:List (Nat×Nat)}{F₀:TB}
def eJ{S:Type}{ok:S->Prop}{J:S->List (Nat×AV)}{G:S->Hp}{μ:S->Nat}(s:S)(h1:ok s)(h2:μ s<n)(h4:H=G s)(h3:kU F (mB (J s) (ng W F₀))):Next n W ok J G μ F₀ F H:=⟨s,h2,by rw[<-h4];exact dO.pt H h3,h1⟩
def GQ{S:Type}{ok:S->Prop}{J:S->List (Nat×AV)}{G:S->Hp}{μ:S->Nat}(D:TK)(s:S)(h1:ok s)(h2:μ s<n)(hB:H.B.all (gU D)=true)(hl:iH D H.l)(h4:⟨H.B,fz D H.l⟩=G s)(h3:bt D H F (mB (J s) (ng W F₀))):Next n W ok J G μ F₀ F H:=⟨s,h2,by rw[<-h4];exact dO.free D hB hl h3,h1⟩
def eu{c:Code}{Q:Exit->S7}{S:Type}(W:List (Nat×Nat))(ok:S->Prop)(J:S->List (Nat×AV))(G:S->Hp)(μ:S->Nat)(s₀:S)(h0:ok s₀)(Ts:dO F H (mB (J s₀) (ng W F)) (G s₀))
  (round:∀s,ok s->∀K:S7,(∀F' H',Next (μ s) W ok J G μ F F' H'->K F' H')->dx P c (tL K Q) (mB (J s) (ng W F)) (G s)):dx P (.loop c) Q F H:=by
 refine JO (S:=S) (fun s F' H'=>F'=mB (J s) (ng W F)/\H'=G s/\ok s) μ s₀ Ts ⟨rfl,rfl,h0⟩ ?_;rintro s F' H' ⟨rfl,rfl,hok⟩;refine round s hok _ ?_;rintro F'' Uh ⟨s',h1,h2,h3⟩;exact⟨s',_,_,h1,h2,rfl,rfl,h3⟩
def eD{F':TB}{H':Hp}(h1:H=H')(h2:kU F F'):dO F H F' H':=by rw[<-h1];exact dO.pt H h2
variable{out:TB}
def uL{e:Exit}(he:e=.normal\/e=.ret)(ho:ju P H F fn.results.toList=some out)(hok:kF P H F fn.results.toList)(r:AV)(H':Hp)(Ts:iw (ku out) H r H')(hR:R r H'.l):lM P fn R e F H:=by rcases he with rfl|rfl<;>exact⟨out,r,H',ho,hok,Ts,hR⟩
variable{t:TG}{K:S8}{zs:TJ}
def yH(i:Nat)(hz:dM P t=some zs)(hi:H.get i=none)(h:K (.pt i 0 0 0) (H.put i (.var t (zs.map .raw)))):nH P H t K:=by unfold nH;rw[hz];exact⟨i,hi,h⟩
def zE{x:AV}(i:Nat)(ho:cI x.cells=true)(hi:H.get i=none)(h:K (.pt i 0 0 0) (H.put i (.var t x.cells))):qE H t x K:=⟨ho,i,hi,h⟩
def y7:List TN->Nat->Nat
 |[],m=>m
 |(i,_)::l,m=>y7 l (if m<=i then i+1 else m)
def nx(l:TA):Nat:=y7 l 0
theorem I3:∀(l:TA) (m i:Nat),y7 l m<=i->aA l i=none/\m<=i
 |[],m,i,h=>⟨rfl,h⟩
 |(j,r)::l,m,i,h=>by
  obtain⟨h1,h2⟩:=I3 l _ i h;simp only[aA];split at h2
  ·rw[jN];exact⟨h1,jB⟩
  ·rw[jN];exact⟨h1,h2⟩
def yi(l:TA)(i:Nat)(h:nx l<=i):aA l i=none:=(I3 l 0 i h).1
attribute [go_sem] y7
attribute [go_sem] nx
@[go_sem] def jzI:((none:Option Operand).toArray.toList=[])/\(∀(x:Operand),(some x).toArray.toList=[x]):=by and_intros<;>(intros;rfl)
def QG{A:Nat->Prop}{d:im A}(h:A (nx H.l)):vR H A d:=⟨_,yi _ _ jl,h⟩
def RV(hz:dM P t=some zs)(h:K (.pt (nx H.l) 0 0 0) (H.put (nx H.l) (.var t (zs.map .raw)))):nH P H t K:=yH _ hz (yi _ _ jl) h
def Qj{x:AV}(ho:cI x.cells=true)(h:K (.pt (nx H.l) 0 0 0) (H.put (nx H.l) (.var t x.cells))):qE H t x K:=zE _ ho (yi _ _ jl) h
variable{css:S9}
def R4{e:TG}(h1:aW dU css.flatten=true)(h2:K (.sl true sz css []) H):rT e sz css H K:=.inl ⟨h1,h2⟩
def F4{e:TG}(i:Nat)(h0:0<sz)(hi:H.get i=none)(h2:K (.rs i css.length sz css.length) (H.put i (.aF e sz css))):rT e sz css H K:=.inr ⟨h0,i,hi,h2⟩
def Sf{e:TG}(h0:0<sz)(h2:K (.rs (nx H.l) css.length sz css.length) (H.put (nx H.l) (.aF e sz css))):rT e sz css H K:=F4 _ h0 (yi _ _ jl) h2
def J2{e:TG}(h0:0<sz)(h2:K (.rs (nx H.l) 0 sz 0) (H.put (nx H.l) (.aF e sz []))):rT e sz [] H K:=Sf h0 h2
def gF(a a':AV):Prop:=∀(w:NW) v,aw w a v->aw w a' v
def gF.refl(a:AV):gF a a:=fun _ _ h=>h
theorem gF.sl{x:Bool}{sz:Nat}{css:S9}{d d':TB}:gF (.sl x sz css d) (.sl false sz css d'):=fun w v hr=>by
 cases hr with
 |gz _ _ A c _=>exact .gz _ _ _ _ (fun e=>by cases e)
 |sl _ _ _ a c vs hn hc hx Ti hb hH D' hr=>exact .sl _ _ _ a c vs hn hc (fun e=>by cases e) Ti hb hH D' hr
def gF.nil{d:TB}:gF (.raw (.slice none 0 0)) (.sl false sz [] d):=fun w v hr=>by have:=db hr;subst this;exact .gz _ _ _ _ (fun e=>by cases e)
def px:TB->TB->Prop
 |[],[]=>True
 |a::l,b::m=>gF a b/\px l m
 |_,_=>False
theorem px.get:∀{l m:TB},px l m->l.length=m.length/\∀(i:Nat) a b,l[i]?=some a->m[i]?=some b->gF a b
 |[],[],_=>⟨rfl,fun i a b h=>by simp at h⟩
 |x::l,y::m,h=>by
  have ih:=px.get h.2;refine⟨by simp[ih.1],fun i a b ha hb=>?_⟩;cases i with
  |zero=>simp at ha hb;subst ha hb;exact h.1
  |succ i=>exact ih.2 i a b (by simpa using ha) (by simpa using hb)
attribute [go_sem] ku
@[go_sem] def j08(l:TB)(n m:Nat):(l.drop n).getD m .any=l.getD (n+m) .any:=by simp[List.getD_eq_getElem?_getD]
attribute [go_sem] List.drop_drop List.length_drop Array.toList_append
def OD{e:Exit}(he:e=.normal\/e=.ret)(ho:ju P H F fn.results.toList=some out)(hok:kF P H F fn.results.toList)(h1:ku out=r)(h2:H.l=l):lM P fn (fun r' l'=>r'=r/\l'=l) e F H:=
 uL he ho hok r H (iw.of_eq H h1) ⟨rfl,h2⟩
def Dc{e:Exit}(D:TK)(he:e=.normal\/e=.ret)(ho:ju P H F fn.results.toList=some out)(hok:kF P H F fn.results.toList)(hB:H.B.all (gU D)=true)(hl:iH D H.l)(hv:cW D H (ku out) r)(h2:fz D H.l=l):lM P fn (fun r' l'=>r'=r/\l'=l) e F H:=
 uL he ho hok r _ (iw.free D hB hl hv) ⟨rfl,h2⟩
def zJ{D:TK}{a a':AV}(h:a=a')(hq:a.all (gU D)=true):cW D H a a':=by subst h;exact .same _ hq
def mA(B:TE):TK:=fun i=>!(B.contains i)
def QT{e:Exit}(he:e=.normal\/e=.ret)(ho:ju P H F fn.results.toList=some out)(hok:kF P H F fn.results.toList)(hl:iH (mA H.B) H.l)(hv:cW (mA H.B) H (ku out) r)(h2:fz (mA H.B) H.l=l):lM P fn (fun r' l'=>r'=r/\l'=l) e F H:=
 Dc (mA H.B) he ho hok (by rw[List.all_eq_true];intro x hx;simp[gU,mA,hx]) hl hv h2
attribute [go_sem] ju kF
def DR{e:Exit}(rs:List ResultVar)(VI:fn.results.toList=rs)(he:e=.normal\/e=.ret)(ho:ju P H F rs=some out)(hok:kF P H F rs)(hl:iH (mA H.B) H.l)(hv:cW (mA H.B) H (ku out) r)(h2:fz (mA H.B) H.l=l):lM P fn (fun r' l'=>r'=r/\l'=l) e F H:=by subst VI;exact QT he ho hok hl hv h2
def Kd{e:Exit}(rs:List ResultVar)(VI:fn.results.toList=rs)(he:e=.normal\/e=.ret)(ho:ju P H F rs=some out)(hok:kF P H F rs)(h1:ku out=r)(h2:H.l=l):lM P fn (fun r' l'=>r'=r/\l'=l) e F H:=by subst VI;exact OD he ho hok h1 h2
attribute [go_sem] mA cond_true cond_false tD
def pg{S:Type}{ok:S->Prop}{J:S->List (Nat×AV)}{G:S->Hp}{μ:S->Nat}(L:TE)(s:S)(h1:ok s)(h2:μ s<n)(hB:H.B.all (gU fun i=>L.contains i)=true)(hl:iH (fun i=>L.contains i) H.l)(h4:⟨H.B,fz (fun i=>L.contains i) H.l⟩=G s)(h3:bt (fun i=>L.contains i) H F (mB (J s) (ng W F₀))):Next n W ok J G μ F₀ F H:=GQ _ s h1 h2 hB hl h4 h3
def Po{D:TK}(a:AV):cW D H a .any:=.drop a
@[go_sem] def j0h(i:Nat)(e:TG)(m sz:Nat)(css ys:S9)(H:Hp)(K:S8):uc i e m sz m css ys H K=K (.rs i (m+ys.length) sz (m+ys.length)) (H.put i (.aF e sz (css++ys))):=if_pos rfl
def Sx{enc:α->TB}(vars more ys:List α){e:TG}{m:Nat}{yss:S9}(hm:m=vars.length+more.length)(hn:n=vars.length)(hc:css=(vars++more).map enc)(hy:yss=ys.map enc)
  (h:K (.rs i (vars.length+ys.length+(more.drop ys.length).length) sz (vars.length+ys.length)) (H.put i (.aF e sz ((vars++ys++more.drop ys.length).map enc)))):uc i e m sz n css yss H K:=by
 subst hm hn hc hy;unfold uc;split
 ·rename_i h';have:more=[]:=List.length_eq_zero_iff.1 jB;subst this;simpa using h
 ·have e1:max (vars.length+more.length) (vars.length+(ys.map enc).length)=vars.length+ys.length+(more.drop ys.length).length:=by simp;omega
  have e2:dr ((vars++more).map enc) vars.length (ys.map enc)=(vars++ys++more.drop ys.length).map enc:=by
   unfold dr;rw[<-List.map_take,List.take_left',<-List.map_drop,List.length_map,List.drop_append,List.drop_eq_nil_of_le jB,List.nil_append]
   ·simp
   ·rfl
  rw[e1,e2];simpa using h
def Gk{b c:Bool}(h:b=c):AV.raw (.bool b)=AV.raw (.bool c):=by rw[h]
def M5{k:IntKind}{b c:Int}(h:b=c):AV.raw (.int k b)=AV.raw (.int k c):=by rw[h]
section
variable {P:TL}{ops:Array Oper}{H:Hp}
def xI(ops:Array Oper)(o:Oper)(F G:TB):Prop:=(∀x∈o.op.operands.toList,cr G x=cr F x)/\∀j b,o.guard=some (j,b)->lT ops G j b=lT ops F j b
def QV(P:TL)(ops:Array Oper)(o:Oper)(F:TB)(H:Hp)(r:AV):Prop:=∀G,xI ops o F G->mJ P ops o G H fun F' H'=>F'=cL G o.dst r/\H'=H
variable{K:S8}
def ze{f:AV}{args:TB}{K':S8}(h:ff P f args H K)(hk:∀r H,K r H->K' r H):ff P f args H K':=by
 unfold ff at*;split at h
 ·rcases h with h|h
  ·exact .inl ⟨h.1,h.2.mono hk⟩
  ·exact .inr fun w vs h1 h2=>by obtain⟨v,w',r,H',e,k,g⟩:=h w vs h1 h2;exact⟨v,w',r,H',e,hk _ _ k,g⟩
 ·exact h.elim
def pd(P:TL)(t:TG)(n:Nat)(parts:List (Nat×AV))(K:AV->Prop):Prop:=match ij P t with
 |some e=>match de P e with
  |some sz=>((parts.length=n/\xJ sz 0 parts/\n*sz<=16777216/\(n*sz=0\/(dM P e).isSome=true))/\aW dU (l7 parts).flatten=true)/\K (.sl true sz (l7 parts) [])
  |none=>False
 |none=>False
variable{t:TG}{n:Nat}{parts:List (Nat×AV)}
def Ly(h:pd P t n parts fun r=>K r H):oz P H t n parts K:=by
 unfold pd at h;unfold oz;split at h
 ·rename_i e he;split at h
  ·rename_i sz hs;try simp only[he,hs]
   exact⟨h.1.1,.inl ⟨h.1.2,h.2⟩⟩
  ·exact h.elim
 ·exact h.elim
variable{K:AV->Prop}
def BP(h:pd P t n parts K):∃r,K r/\∀K':AV->Prop,K' r->pd P t n parts K':=by
 unfold pd at h;split at h
 ·rename_i e he;split at h
  ·rename_i sz hs;exact⟨_,h.2,fun K' hk=>by unfold pd;rw[he];simp only[hs];exact⟨h.1,hk⟩⟩
  ·exact h.elim
 ·exact h.elim
def ow:Op->Bool
 |.binOp .eql ..=>true
 |.binOp .neq ..=>true
 |_=>false
variable{o:Oper}{F:TB}
def Rc{K:S7}(hg:o.guard=none)(hq:(vq P (cr F) H o.op).1)(hk:K (cL F o.dst (vq P (cr F) H o.op).2) H):mJ P ops o F H K:=
 Oh hg (QY (K:=fun r H'=>K (cL F o.dst r) H') hq hk)
def vF(hg:o.guard=none)(hq:(vq P (cr F) H o.op).1):QV P ops o F H (vq P (cr F) H o.op).2:=fun G hG=>by have e:vq P (cr G) H o.op=vq P (cr F) H o.op:=uv _ hG.1;exact Rc hg (by rw[e];exact hq) ⟨by rw[e],rfl⟩
variable{dst:Option Tmp}{after:Array Edge}
def Ek{f:Operand}{args:Array Operand}{ts:Array TG}{ty:TG}{pos:String}{r:AV}(h:ff P (cr F f) (args.toList.map (cr F)) H fun r' H'=>r'=r/\H'=H) :
  QV P ops ⟨dst,.call ⟨.value f,args,ts⟩,ty,pos,after,none⟩ F H r:=fun G hG=>by
 refine qj (K:=fun F' H'=>F'=cL G dst r/\H'=H) rfl ?_;show ff P (cr G f) (args.toList.map (cr G)) H _;rw[hG.1 f (by simp[Op.operands,Call.operands]),List.map_congr_left (g:=cr F) (fun x hx=>hG.1 x (by simp[Op.operands,Call.operands]at hx ⊢;exact .inr hx))];exact ze h fun r' H' ⟨e1,e2⟩=>⟨by rw[e1],e2⟩
def A0{parts:Array (Nat×Operand)}{ty:TG}{pos:String}{r:AV}(h:pd P t n (parts.toList.map fun p=>(p.1,cr F p.2)) fun r'=>r'=r) :
  QV P ops ⟨dst,.buildSlice t n parts,ty,pos,after,none⟩ F H r:=fun G hG=>by
 refine qj (K:=fun F' H'=>F'=cL G dst r/\H'=H) rfl ?_;show oz P H t n (parts.toList.map fun p=>(p.1,cr G p.2)) (fun r_1 H'=>cL G dst r_1=cL G dst r/\H'=H);rw[List.map_congr_left (g:=fun p=>(p.1,cr F p.2)) (fun x hx=>by rw[hG.1 x.2 (by simp[Op.operands]at hx ⊢;exact⟨_,hx⟩)])];refine Ly ?_;obtain⟨r',e,hk⟩:=BP h;subst e;exact hk _ ⟨rfl,rfl⟩
variable{G:TB}
def Ac(o:Op)(h:∀x∈o.operands.toList,cr G x=cr F x):gl G o=gl F o:=by unfold gl;rw[Bool.eq_iff_iff,List.all_eq_true,List.all_eq_true];constructor<;>intro hh x hx<;>have:=hh x hx<;>rw[h x hx]at*<;>exact this
def xm:Op->Bool
 |.pick ..=>true
 |.call { callee:=.invoke ..,.. }=>true
 |_=>false
def xY{g:Bool}(o:Op)(h:iU o=false)(hp:xm o=false):eQ P F H g K o=if iJ o then(g=true->gl F o=true/\(vq P (bL F) H o).1)/\K (.gd g (vq P (bL F) H o).2)else False:=by
 cases o
 case call c=>
  obtain⟨callee,args,ts⟩:=c;cases callee
  case value f=>cases h
  case invoke f m=>cases hp
  all_goals rfl
 case pick=>cases hp
 all_goals rfl
def zY{g:Bool}{o:Op}(h:eQ P F H g K o):∃r,K (.gd g r)/\∀(G:TB) (K':AV->Prop),(∀x∈o.operands.toList,cr G x=cr F x)->K' (.gd g r)->eQ P G H g K' o:=by
 cases hc:iU o with
 |false=>
  by_cases hp:xm o=true
  ·cases o<;>try cases hp
   case call c=>
    obtain⟨callee,args,ts⟩:=c;cases callee<;>try cases hp
    rename_i f m;obtain⟨r,h1,h2⟩:=h;refine⟨r,h2,fun G K' hG hk=>⟨r,fun hg=>⟨Ac _ hG ▸ (h1 hg).1,?_⟩,hk⟩⟩;have he:∀x∈(Op.call ⟨.invoke f m,args,ts⟩).operands.toList,bL G x=bL F x:=fun x hx=>by unfold bL;rw[hG x hx]
    rw[he f (by simp[Op.operands,Call.operands]),List.map_congr_left (g:=bL F) (fun x hx=>he x (by simp[Op.operands,Call.operands]at hx ⊢;exact .inr hx))];exact(h1 hg).2
   rename_i c a b;refine⟨_,h.2,fun G K' hG hk=>?_⟩;have he:∀x∈(Op.pick c a b).operands.toList,bL G x=bL F x:=fun x hx=>by unfold bL;rw[hG x hx]
   show(g=true->(jo (cr G c)).1=true/\(nA (bL G c) (cr G a) (cr G b)).1)/\K' (.gd g (nA (bL G c) (cr G a) (cr G b)).2);rw[hG c (by simp[Op.operands]),hG a (by simp[Op.operands]),hG b (by simp[Op.operands]),he c (by simp[Op.operands])];exact⟨h.1,hk⟩
  have hp:xm o=false:=by simpa using hp
  rw[xY o hc hp]at h;split at h
  ·rename_i hq;refine⟨_,h.2,fun G K' hG hk=>?_⟩;have he:∀x∈o.operands.toList,bL G x=bL F x:=fun x hx=>by unfold bL;rw[hG x hx]
   rw[xY o hc hp,if_pos hq,uv _ he,Ac o hG];exact⟨h.1,hk⟩
  ·exact h.elim
 |true=>
  cases o<;>try cases hc
  rename_i c;obtain⟨callee,args,ts⟩:=c;cases callee<;>try cases hc
  rename_i f;obtain⟨r,h1,h2⟩:=h;refine⟨r,h2,fun G K' hG hk=>⟨r,fun hg=>⟨Ac _ hG ▸ (h1 hg).1,?_⟩,hk⟩⟩;have he:∀x∈(Op.call ⟨.value f,args,ts⟩).operands.toList,bL G x=bL F x:=fun x hx=>by unfold bL;rw[hG x hx]
  rw[he f (by simp[Op.operands,Call.operands]),List.map_congr_left (g:=bL F) (fun x hx=>he x (by simp[Op.operands,Call.operands]at hx ⊢;exact .inr hx))];exact(h1 hg).2
def CY{j:Nat}{want b:Bool}{r:AV}(hg:o.guard=some (j,want))(hb:lT ops F j want=some b)(hq:(iU o.op || iJ o.op)=true)(h:eQ P F H b (fun r'=>r'=r) o.op):QV P ops o F H r:=fun G hG=>by
 have hv:k7 P ops (fun F' H'=>F'=cL G o.dst r/\H'=H) [o] G H:=by simp only[k7,hg,hG.2 j want hg,hb,hq,if_true];obtain⟨r',h1,h2⟩:=zY h;exact h2 G _ hG.1 ⟨by rw[h1],trivial⟩
 have hs:=wo [o] G H hv;intro w tm Q next h1 h2 hn;have:=hs w tm (fun e a w=>match e with|.normal=>next a w|e=>Q e a w) h1 h2 hn;simp only[wpList]at this;unfold sL;split
 ·rename_i hw;rw[if_pos hw]at this;rcases this with h|⟨ha,hl⟩
  ·refine .inl ?_;unfold Oper.wp at*;generalize (execOp (Act.mk tm []).eval o).run P w=res at*;cases res with
   |ok n w'=>
    cases n<;>simp only[Oper.upon]at h ⊢
    case enter f args=>exact Calls.mono h fun e w'' he=>by cases e<;>exact he
    all_goals exact h
   |halt x w'=>cases x<;>simp only[Oper.upon]at h ⊢;exact h
  ·exact .inr ⟨ha,hl⟩
 ·rename_i hw;rw[if_neg hw]at this;exact this
def p8(P:TL)(ops:Array Oper)(H:Hp)(K:TB->Prop):List Oper->TB->Prop
 |[],F=>K F
 |o::rest,F=>match o.guard with
  |none=>match o.op with
   |.call { callee:=.value f,args,.. }=>∃r,(ff P (cr F f) (args.toList.map (cr F)) H fun r' H'=>r'=r/\H'=H)/\p8 P ops H K rest (cL F o.dst r)
   |.buildSlice t n parts=>pd P t n (parts.toList.map fun p=>(p.1,cr F p.2)) fun r=>p8 P ops H K rest (cL F o.dst r)
   |op=>(vq P (cr F) H op).1/\p8 P ops H K rest (cL F o.dst (vq P (cr F) H op).2)
  |some (j,want)=>match lT ops F j want with
   |some b=>(iU o.op || iJ o.op)=true/\eQ P F H b (fun r=>p8 P ops H K rest (cL F o.dst r)) o.op
   |none=>False
def yl(P:TL)(ops:Array Oper)(H:Hp)(K:TB->Prop):List Oper->TB->TB->Prop
 |[],F,rs=>rs=[]/\K F
 |o::rest,F,rs=>∃r Ul,rs=r::Ul/\QV P ops o F H r/\yl P ops H K rest (cL F o.dst r) Ul
theorem Gg{K:TB->Prop}:∀(l:List Oper) (F:TB),p8 P ops H K l F->∃rs,yl P ops H K l F rs
 |[],F,h=>⟨[],rfl,h⟩
 |o::rest,F,h=>by
  have mk:∀r,QV P ops o F H r->p8 P ops H K rest (cL F o.dst r)->∃rs,yl P ops H K (o::rest) F rs:=fun r h1 h2=>by obtain⟨rs,h3⟩:=Gg rest _ h2;exact⟨r::rs,r,rs,rfl,h1,h3⟩
  obtain⟨dst,op,ty,pos,after,guard⟩:=o;cases guard with
  |none=>
   unfold p8 at h;simp only at h;split at h
   ·obtain⟨r,h1,h2⟩:=h;exact mk r (Ek h1) h2
   ·rename_i t n parts;obtain⟨r,h1,h2⟩:=BP h;exact mk r (A0 (h2 _ rfl)) h1
   ·exact mk _ (vF rfl h.1) h.2
  |some g=>
   obtain⟨j,want⟩:=g;unfold p8 at h;simp only at h;split at h
   ·rename_i b hb;obtain⟨hq,hv⟩:=h;obtain⟨r,h1,h2⟩:=zY hv;exact mk _ (CY rfl hb hq (r:=.gd b r) (h2 F _ (fun _ _=>rfl) rfl)) h1
   ·exact h.elim
-- the order
def FL(os:List Oper)(rs:TB)(L:TK)(F:TB):Nat->TB
 |0=>F
 |m+1=>if L m then cL (FL os rs L F m) ((os[m]?).bind (·.dst)) (rs.getD m .any)else FL os rs L F m
def lE(os:List Oper)(rs:TB)(L:TK)(F:TB)(s:Nat):Nat->AV
 |0=>F.getD s .any
 |m+1=>if L m=true/\(os[m]?).bind (·.dst)=some s then rs.getD m .any else lE os rs L F s m
theorem lz(os:List Oper)(rs:TB)(L:TK)(F:TB):∀m,(FL os rs L F m).length=F.length
 |0=>rfl
 |m+1=>by
  unfold FL;split
  ·rw[<-lz os rs L F m];cases(os[m]?).bind (·.dst)<;>simp[cL]
  ·exact lz os rs L F m
theorem rN(os:List Oper)(rs:TB)(L:TK)(F:TB){s:Nat}(hs:s<F.length):∀m,(FL os rs L F m).getD s .any=lE os rs L F s m
 |0=>rfl
 |m+1=>by
  have ih:=rN os rs L F hs m;have hl:=lz os rs L F m;unfold FL lE;cases hd:(os[m]?).bind (·.dst)with
  |none=>
   have Te:¬(L m=true/\(none:Option Tmp)=some s):=fun h=>by have:=h.2;cases this
   rw[if_neg Te];cases hL:L m
   ·exact ih
   ·exact ih
  |some d=>
   cases hL:L m
   ·simpa using ih
   ·simp only[if_true,cL,true_and,Option.some.injEq];by_cases e:d=s
    ·subst e;simp[hl,hs]
    ·rw[if_neg e];have:(List.set (FL os rs L F m) d (rs.getD m .any)).getD s .any=(FL os rs L F m).getD s .any:=by simp[List.getElem?_set,e]
     rw[this,ih]
variable{os:List Oper}
def Jk{rs:TB}{L L':TK}{m m':Nat}(hG:G.length=F.length)(h:∀s,s<F.length->G.getD s .any=lE os rs L F s m):G=FL os rs L F m:=by
 refine List.ext_getElem? fun s=>?_
 rcases Nat.lt_or_ge s F.length with hs|hs
 ·have h1:=h s hs;rw[<-rN os rs L F hs m]at h1;have h2:G[s]?=some (G.getD s .any):=by simp[hG,hs]
  have h3:(FL os rs L F m)[s]?=some ((FL os rs L F m).getD s .any):=by simp[lz,hs]
  rw[h2,h3,h1]
 ·rw[List.getElem?_eq_none jB,List.getElem?_eq_none (by rw[lz];omega)]
def looks(os:List Oper)(o:Oper):TE:=
 (o.op.operands.toList.filterMap fun|.tmp t=>some t|_=>none)++
 (match o.guard with
   |some (g,_)=>((os[g]?).bind (·.dst)).toList
   |none=>[])
def qm:TE->TE
 |[]=>[]
 |x::l=>if(qm l).contains x then qm l else x::qm l
theorem Ae{x:Nat}:∀{l:TE},x∈qm l<->x∈l
 |[]=>Iff.rfl
 |y::l=>by
  have ih:x∈qm l<->x∈l:=Ae;unfold qm;split
  ·rename_i h;rw[ih,List.mem_cons];refine⟨.inr,fun h'=>h'.elim (fun e=>?_) id⟩;subst e;exact ih.1 (List.contains_iff_mem.1 h)
  ·rw[List.mem_cons,List.mem_cons,ih]
def nq(UM:List TE)(o:Oper):List TE:=UM++[qm ((o.after.toList.filter (Region.binds .any)).flatMap fun e=>e.on::UM.getD e.on [])]
def kq(os:List Oper):List TE:=os.foldl nq []
def tZ(os:List Oper)(a b:Oper):Bool:=
 (match a.dst with
   |some d=>(looks os b).contains d || b.dst == some d
   |none=>false) ||
 (match b.dst with
   |some d=>(looks os a).contains d
   |none=>false)
def ue(os:List Oper):Bool:=
 let ps:=kq os
 (List.range os.length).all fun j=>match os[j]? with
  |some b=>(b.after.toList.all fun e=>!Region.binds .any e || decide (e.on<j)) &&
   (List.range j).all fun i=>match os[i]? with
    |some a=>!tZ os a b || (ps.getD j []).contains i
    |none=>true
  |none=>true
theorem Aw:∀(os:List Oper) (UM:List TE) (j:Nat),j<UM.length->(os.foldl nq UM)[j]?=UM[j]?
 |[],UM,j,_=>rfl
 |o::os,UM,j,h=>by simp only[List.foldl_cons];rw[Aw os _ j (by simp[nq];omega)];unfold nq;rw[List.getElem?_append_left h]
theorem Ey:∀(os:List Oper) (UM:List TE) (j:Nat) (o:Oper),os[j]?=some o->(os.foldl nq UM).getD (UM.length+j) []=qm ((o.after.toList.filter (Region.binds .any)).flatMap fun e=>e.on::(if e.on<UM.length+j then(os.foldl nq UM).getD e.on []else[]))
 |[],UM,j,o,h=>by simp at h
 |o'::os,UM,0,o,h=>by
  simp only[List.getElem?_cons_zero,Option.some.injEq]at h;subst h;simp only[List.foldl_cons,Nat.add_zero];have h1:(os.foldl nq (nq UM o')).getD UM.length []=qm ((o'.after.toList.filter (Region.binds .any)).flatMap fun e=>e.on::UM.getD e.on []):=by rw[List.getD_eq_getElem?_getD,Aw os _ _ (by simp[nq])];unfold nq;rw[List.getElem?_append_right jl];simp
  rw[h1];congr 2
  funext e
  congr 1
  split
  ·rename_i O';rw[List.getD_eq_getElem?_getD,List.getD_eq_getElem?_getD,Aw os _ _ (by simp[nq];omega)];unfold nq;rw[List.getElem?_append_left O']
  ·rename_i hge;rw[List.getD_eq_getElem?_getD,List.getElem?_eq_none jB];rfl
 |o'::os,UM,j+1,o,h=>by
  simp only[List.foldl_cons];have:=Ey os (nq UM o') j o (by simpa using h);have e:(nq UM o').length+j=UM.length+(j+1):=by simp[nq];omega
  rw[e]at this;exact this
def Dv{j:Nat}(h:os[j]?=some o):(kq os).getD j []=qm ((o.after.toList.filter (Region.binds .any)).flatMap fun e=>e.on::(if e.on<j then(kq os).getD e.on []else[])):=by have:=Ey os [] j o h;simp only[List.length_nil,Nat.zero_add]at this;exact this
def nT(os:List Oper)(L:TK):Prop:=∀j o,os[j]?=some o->L j=true->∀e∈o.after.toList,Region.binds .any e=true->L e.on=true
def vM{L:TK}(hc:nT os L)(O':∀j o,os[j]?=some o->∀e∈o.after.toList,Region.binds .any e=true->e.on<j):∀n j,j<n->∀o,os[j]?=some o->(∀e∈o.after.toList,Region.binds .any e=true->L e.on=true)->∀i∈(kq os).getD j [],L i=true:=by
 intro n;induction n with
 |zero=>intro j hj;omega
 |succ n ih=>
  intro j hj o ho hL i hi;rw[Dv ho,Ae]at hi;obtain⟨e,he,hi⟩:=List.mem_flatMap.1 hi;obtain⟨V3,Yf⟩:=List.mem_filter.1 he;have Yg:=hL e V3 Yf;rcases List.mem_cons.1 hi with rfl|hi
  ·exact Yg
  ·rw[if_pos (O' j o ho e V3 Yf)]at hi;have hlt':=O' j o ho e V3 Yf;have hjlen:=(List.getElem?_eq_some_iff.1 ho).1;have Vw:os[e.on]?=some (os[e.on]' jB):=List.getElem?_eq_getElem jB;exact ih e.on jB _ Vw (fun e' h1 h2=>hc _ _ Vw Yg e' h1 h2) i hi
theorem CR(o:Oper)(os:List Oper)(r:AV)(rs:TB)(F:TB):∀m,FL (o::os) (r::rs) (fun _=>true) F (m+1)=FL os rs (fun _=>true) (cL F o.dst r) m
 |0=>by simp[FL]
 |m+1=>by have ih:=CR o os r rs F m;rw[FL,if_pos rfl,ih,FL,if_pos rfl];simp
theorem Er{K:TB->Prop}:∀(l:List Oper) (F:TB) (rs:TB),yl P ops H K l F rs->(∀i o,l[i]?=some o->QV P ops o (FL l rs (fun _=>true) F i) H (rs.getD i .any))/\K (FL l rs (fun _=>true) F l.length)
 |[],F,rs,h=>⟨fun i o hi=>by simp at hi,h.2⟩
 |o::l,F,rs,h=>by
  obtain⟨r,Ul,rfl,h1,h2⟩:=h;obtain⟨g1,g2⟩:=Er l _ Ul h2;refine⟨fun i o' hi=>?_,by rw[List.length_cons,CR];exact g2⟩;cases i with
  |zero=> simp only[List.getElem?_cons_zero,Option.some.injEq]at hi;subst hi;exact h1
  |succ i=> rw[CR];exact g1 i o' (by simpa using hi)
def v8(h:ue os=true):(∀j o,os[j]?=some o->∀e∈o.after.toList,Region.binds .any e=true->e.on<j)/\
  ∀i j a b,i<j->os[i]?=some a->os[j]?=some b->tZ os a b=true->i∈(kq os).getD j []:=by
 simp only[ue,List.all_eq_true,List.mem_range]at h;constructor
 ·intro j o ho e he hb;have:=h j (List.getElem?_eq_some_iff.1 ho).1;rw[ho]at this;simp only[Bool.and_eq_true,List.all_eq_true]at this;have:=this.1 e he;simpa[hb]using this
 ·intro i j a b Zo ha hb hc;have:=h j (List.getElem?_eq_some_iff.1 hb).1;rw[hb]at this;simp only[Bool.and_eq_true,List.all_eq_true,List.mem_range]at this;have:=this.2 i Zo;rw[ha]at this;simp only[hc,Bool.not_true,Bool.false_or]at this;simpa using this
theorem F1{os:List Oper}{rs F:TB}{L:TK}{i s:Nat}(hw:∀k o,os[k]?=some o->o.dst=some s->L k=decide (k<i)):∀m,lE os rs L F s m=lE os rs (fun _=>true) F s (min m i)
 |0=>by simp[lE]
 |m+1=>by
  have ih:=F1 (rs:=rs) (F:=F) hw m;rw[lE];by_cases hd:(os[m]?).bind (·.dst)=some s
  ·obtain⟨o,ho,hs⟩:=Option.bind_eq_some_iff.1 hd;have hL:=hw m o ho hs;by_cases hm:m<i
   ·rw[if_pos ⟨by rw[hL];simpa using hm,hd⟩,show min (m+1) i=m+1 from jB,lE,if_pos ⟨rfl,hd⟩]
   ·rw[if_neg (by rw[hL];simp[hm]),ih,show min (m+1) i=min m i from jB]
  ·rw[if_neg (by simp[hd]),ih];by_cases hm:m<i
   ·rw[show min (m+1) i=m+1 from jB,show min m i=m from jB,lE,if_neg (by simp[hd])]
   ·rw[show min (m+1) i=min m i from jB]
theorem Bw{os:List Oper}{rs F:TB}{L L':TK}{i s:Nat}{o:Oper}(ho:os[i]?=some o)(Vx:∀k,L' k=(L k || k == i))(hw:∀k o',os[k]?=some o'->o'.dst=some s->L k=decide (k<i))(hs:o.dst=some s):∀m,i<m->lE os rs L' F s m=rs.getD i .any
 |0,h=>by omega
 |m+1,h=>by
  rw[lE];by_cases hm:m=i
  ·subst hm;rw[if_pos ⟨by rw[Vx];simp,by rw[ho];exact hs⟩]
  ·rw[if_neg]
   ·exact Bw ho Vx hw hs m jB
   ·rintro⟨h1,h2⟩;obtain⟨o',Vw,WG⟩:=Option.bind_eq_some_iff.1 h2;rw[Vx,hw m o' Vw WG]at h1;simp at h1;omega
theorem BT{os:List Oper}{rs F:TB}{L L':TK}{i s:Nat}{o:Oper}(ho:os[i]?=some o)(Vx:∀k,L' k=(L k || k == i))(hs:o.dst≠some s):∀m,lE os rs L' F s m=lE os rs L F s m
 |0=>rfl
 |m+1=>by
  have ih:=BT (rs:=rs) (F:=F) ho Vx hs m;rw[lE,lE,ih,Vx];by_cases hm:m=i
  ·subst hm;rw[ho];simp[hs]
  ·simp[hm]
def NK{t:Nat}(h:Operand.tmp t∈o.op.operands.toList):t∈looks os o:=
 List.mem_append_left _ (List.mem_filterMap.2 ⟨_,h,rfl⟩)
def Ia(hl:F.length=G.length)(h:∀s∈looks os o,s<F.length->G.getD s .any=F.getD s .any):xI os.toArray o F G:=by
 have Ua:∀s∈looks os o,G[s]?=F[s]?:=fun s hs=>by
  rcases Nat.lt_or_ge s F.length with h1|h1
  ·have:=h s hs h1;have e1:G[s]?=some (G.getD s .any):=by simp[<-hl,h1]
   have e2:F[s]?=some (F.getD s .any):=by simp[h1]
   rw[e1,e2,this]
  ·rw[List.getElem?_eq_none jB,List.getElem?_eq_none h1]
 constructor
 ·intro x hx;cases x with
  |tmp t=>simp only[cr,List.getD_eq_getElem?_getD,Ua t (NK hx)]
  |const v=>rfl
  |global g=>rfl
  |func f=>rfl
 ·intro j b hg;unfold lT;cases hd:(os.toArray[j]?).bind (·.dst)with
  |none=>rfl
  |some d=> simp only;rw[Ua d (List.mem_append_right _ (by rw[hg];simp at hd ⊢;simpa using hd))]
variable{Q:Exit->S7}
def Jv{l:List Oper}{rs:TB}(hok:ue l=true)(YD:∀i o,l[i]?=some o->QV P l.toArray o (FL l rs (fun _=>true) F i) H (rs.getD i .any))(hK:Q .normal (FL l rs (fun _=>true) F l.length) H)(w0:NW) :
  ∀(fuel:Nat) (listed:Array Bool),listed.size=l.length->nT l (fun i=>listed.getD i false)->(List.range l.length).countP (fun i=>!listed.getD i false)=fuel->
   ∀(w:NW) tm,aI w H->bq w (FL l rs (fun i=>listed.getD i false) F l.length) tm->Ext w0 H w H->wpAny P .any l.toArray (gO Q w0 H) fuel listed ⟨tm,[]⟩ w.toWorld:=by
 obtain⟨O',Tc⟩:=v8 hok
 -- when all are done
 have fin:∀(listed:Array Bool),(∀i,i<l.length->listed.getD i false=true)->∀(w:NW) tm,aI w H->bq w (FL l rs (fun i=>listed.getD i false) F l.length) tm->Ext w0 H w H->gO Q w0 H .normal ⟨tm,[]⟩ w.toWorld:=by
  intro listed Tu w tm h1 h2 h3;have e:FL l rs (fun i=>listed.getD i false) F l.length=FL l rs (fun _=>true) F l.length:=by
   have gen:∀m,m<=l.length->FL l rs (fun i=>listed.getD i false) F m=FL l rs (fun _=>true) F m:=by
    intro m;induction m with
    |zero=>intro _;rfl
    |succ m ih=>intro hm;rw[FL,FL,ih jB,Tu m jB]
   exact gen _ jl
  rw[e]at h2;exact⟨tm,_,H,w,rfl,rfl,hK,h1,h2,h3.ph⟩
 intro fuel;induction fuel with
 |zero=>
  intro listed Ti VJ Xh w tm h1 h2 h3;have Tu:∀i,i<l.length->listed.getD i false=true:=fun i hi=>by have:=(List.countP_eq_zero.1 Xh) i (List.mem_range.2 hi);simpa using this
  refine⟨?_,fin listed Tu w tm h1 h2 h3⟩;rw[List.eq_nil_iff_forall_not_mem];intro j hj;obtain⟨YE,o,ho,_⟩:=mem_ready.1 hj;have XQ:j<l.length:=by have:=(Array.getElem?_eq_some_iff.1 ho).1;simpa using this
  have:=Tu j XQ;simp[Ti,XQ]at this YE;rw[this]at YE;cases YE
 |succ fuel ih=>
  intro listed Ti VJ Xh w tm h1 h2 h3;refine⟨fun YF=>?_,fun i hi=>?_⟩
  ·-- some operation is ready
   exfalso;have hex:∃i,i<l.length/\listed.getD i false=false:=by have UG:0<(List.range l.length).countP (fun i=>!listed.getD i false):=jB;obtain⟨i,hi,hp⟩:=List.countP_pos_iff.1 UG;exact⟨i,List.mem_range.1 hi,by simpa using hp⟩
   obtain⟨i,⟨hi,hf⟩,Wc⟩:=exists_least hex;have ho:l[i]?=some l[i]:=List.getElem?_eq_getElem hi;have:i∈Region.ready .any l.toArray listed:=mem_ready.2 ⟨by simp[Ti,hi]at hf ⊢;exact hf,l[i],by simp[hi],fun e he hb=>by
    have h4:=O' i _ ho e (by simpa using he) hb;cases hv:listed.getD e.on false with
    |true=>rfl
    |false=>have:=Wc e.on ⟨jB,hv⟩;omega⟩
   rw[YF]at this;cases this
  ·obtain⟨VD,o,ho,UB⟩:=mem_ready.1 hi;have Vw:l[i]?=some o:=by simpa using ho
   have UX:=(List.getElem?_eq_some_iff.1 Vw).1;have WL:listed.getD i false=false:=by simp[Ti,UX]at VD ⊢;exact VD
   have UQ:∀e∈o.after.toList,Region.binds .any e=true->listed.getD e.on false=true:=fun e he hb=>UB e (by simpa using he) hb
   have TZ:=vM VJ O' (i+1) i jB o Vw UQ
   -- who writes where o touches
   have hwr:∀k o' s,l[k]?=some o'->o'.dst=some s->(s∈looks l o\/o.dst=some s)->listed.getD k false=decide (k<i):=by
    intro k o' s hk hs T6;rcases Nat.lt_trichotomy k i with h|h|h
    ·rw[decide_eq_true h];refine TZ k (Tc k i o' o h hk Vw ?_);unfold tZ;rw[hs];rcases T6 with h5|h5
     ·simp[h5]
     ·simp[h5]
    ·subst h;simpa using WL
    ·rw[decide_eq_false jB];cases hv:listed.getD k false with
     |false=>rfl
     |true=>
      have U0:i∈(kq l).getD k []:=Tc i k o o' h Vw hk (by
       unfold tZ;rw[hs];rcases T6 with h5|h5
       ·simp[h5]
       ·simp[h5])
      have:=vM VJ O' (k+1) k jB o' hk (fun e he hb=>VJ k o' hk hv e he hb) i U0;rw[WL]at this;cases this
   have U1:xI l.toArray o (FL l rs (fun _=>true) F i) (FL l rs (fun i=>listed.getD i false) F l.length):=by
    refine Ia (by rw[lz,lz]) fun s hs I'=>?_
    rw[lz]at I';rw[rN _ _ _ _ I',rN _ _ _ _ I',F1 (fun k o' hk hd=>hwr k o' s hk hd (.inl hs)),show min l.length i=i from jB]
   have Vr:=YD i o Vw _ U1;have Vx:∀k,(listed.setIfInBounds i true).getD k false=(listed.getD k false || k == i):=fun k=>by
    by_cases hk:k=i
    ·subst hk;simp[Ti,UX]
    ·simp[Array.getElem?_setIfInBounds_ne (Ne.symm hk),hk]
   have Wp:cL (FL l rs (fun i=>listed.getD i false) F l.length) o.dst (rs.getD i .any)=FL l rs (fun k=>(listed.setIfInBounds i true).getD k false) F l.length:=by
    refine Jk (m':=0) (L':=fun _=>true) (by cases o.dst<;>simp[cL,lz]) fun s hs=>?_
    by_cases hd:o.dst=some s
    ·rw[Bw (L:=fun i=>listed.getD i false) Vw Vx (fun k o' hk YG=>hwr k o' s hk YG (.inr hd)) hd _ UX,hd];simp[cL,lz,hs]
    ·rw[BT (L:=fun i=>listed.getD i false) Vw Vx hd,<-rN _ _ _ _ hs];cases YG:o.dst with
     |none=>rfl
     |some d=>
      have:d≠s:=fun e=>hd (by rw[YG,e])
      simp[cL,List.getElem?_set,this]
   have:=Vr w tm (gO Q w0 H) (wpAny P .any l.toArray (gO Q w0 H) fuel (listed.setIfInBounds i true)) h1 h2 (by
    rintro T7 w' F' H' ⟨rfl,rfl⟩ g1 g2 g3;refine ih (listed.setIfInBounds i true) (by simpa using Ti) ?_ ?_ w' T7 g1 (by rw[<-Wp];exact g2) (h3.trans g3)
    ·intro j o' hj Vi e he hb;simp only[Vx]at Vi ⊢;rcases Bool.or_eq_true_iff.1 Vi with h6|h6
     ·have h7:listed.getD e.on false=true:=VJ j o' hj h6 e he hb;rw[h7];rfl
     ·obtain rfl:j=i:=by simpa using h6
      rw[Vw]at hj;cases hj;rw[UQ e he hb];rfl
    ·have:∀(n:Nat),i<n->(List.range n).countP (fun k=>!(listed.setIfInBounds i true).getD k false)+1=(List.range n).countP (fun k=>!listed.getD k false):=by
      intro n;induction n with
      |zero=>intro h;omega
      |succ n ihn=>
       intro h;rw[List.range_succ,List.countP_append,List.countP_append];by_cases hn:n=i
       ·subst hn;have:(List.range n).countP (fun k=>!(listed.setIfInBounds n true).getD k false)=(List.range n).countP (fun k=>!listed.getD k false):=by
         refine List.countP_congr fun k hk=>?_
         rw[Vx];have:k≠n:=by have:=List.mem_range.1 hk;omega
         simp[this]
        rw[this];simp only[List.countP_singleton,Vx,WL];simp
       ·rw[<-ihn jB];simp only[List.countP_singleton,Vx];have:(n == i)=false:=by simpa using hn
        rw[this,Bool.or_false];omega
     have:=this l.length UX;omega)
   unfold wpOp;rw[ho];exact this
def Oe{id:Nat}{l:List Oper}(hm:P.follows .mixedOrders=true)(hok:ue l=true)(h:p8 P l.toArray H (fun F'=>Q .normal F' H) l F):dx P (.region id l.toArray true) Q F H:=fun w tm h1 h2=>by
 obtain⟨rs,B'⟩:=Gg l F h;obtain⟨YD,hK⟩:=Er l F rs B';have hz:∀i,(Array.replicate l.toArray.size false).getD i false=false:=fun i=>by by_cases hi:i<l.length<;>simp[Array.getElem?_replicate,hi]
 refine wp_region_any hm ?_;have e0:FL l rs (fun i=>(Array.replicate l.toArray.size false).getD i false) F l.length=F:=by
  have gen:∀m,FL l rs (fun i=>(Array.replicate l.toArray.size false).getD i false) F m=F:=by
   intro m;induction m with
   |zero=>rfl
   |succ m ih=>rw[FL,hz,if_neg jE,ih]
  exact gen _
 exact Jv hok YD hK w l.toArray.size (Array.replicate l.toArray.size false) jE (fun j o _ hj=>by have:=(hz j).symm.trans hj;cases this) (by rw[List.countP_eq_length.2 (fun i _=>by rw[hz];rfl)];simp) (w.to w.drew) tm h1.drew (by rw[e0];exact h2.ext (Ext.drew w H)) (Ext.drew w H)
end
end Go.Gd