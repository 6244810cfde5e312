/- Lemmas. No conditions. -/
import Derived.Test.YtijdhbokcdpklaaGreatDoorGdE
import Derived.Deep.RegionWith
import Derived.Laws.Append
set_option linter.all false
namespace Go.Gd
open Go
section
variable {P:UY}{w:NW}{H:Hp}
variable{a:Option AV}{v:Option Value}
def l6{i:Option Int}(ha:rb a=some i)(hr:∀x y,a=some x->v=some y->ax w x y)(hs:a.isSome=v.isSome):(i=none/\v=none)\/∃k n,i=some n/\v=some (.int k n):=by
 cases a with
 |none=>
  simp[rb]at ha;cases v with
  |none=>exact .inl ⟨ha.symm,rfl⟩
  |some _=>simp at hs
 |some x=>
  cases v with
  |none=>simp at hs
  |some y=>
   unfold rb at ha;split at ha<;>try cases ha
   ·rename_i h;cases h
   ·rename_i k n h;cases h;have:=df (hr _ _ rfl rfl);subst this;exact .inr ⟨k,n,rfl,rfl⟩
variable{vlo vhi:Option Value}{lo:Option Int}
def tC{isSlice:Bool}{len cap:Nat}{hi:Option Int}(U1:(lo=none/\vlo=none)\/∃k n,lo=some n/\vlo=some (.int k n))(X6:(hi=none/\vhi=none)\/∃k n,hi=some n/\vhi=some (.int k n))
  (h0:0<=lo.getD 0) (h1:lo.getD 0<=hi.getD len) (h2:hi.getD len<=cap):(Instr.sliceBounds isSlice len cap vlo vhi none).run P w=.ok ((lo.getD 0).toNat,(hi.getD len).toNat,cap) w:=by
 rcases U1 with⟨rfl,rfl⟩|⟨k,n,rfl,rfl⟩<;>rcases X6 with⟨rfl,rfl⟩|⟨k',m,rfl,rfl⟩<;>simp only[Option.getD_some,Option.getD_none]at*
 ·simp[Instr.sliceBounds]
 ·simp[Instr.sliceBounds,run_sliceBound w _ _ _ _ (show 0<=m from jB) h2]
 ·simp[Instr.sliceBounds,run_sliceBound w _ _ _ _ h0 h1]
 ·simp[Instr.sliceBounds,run_sliceBound w _ _ _ _ (show 0<=m from jB) h2,run_sliceBound w _ _ _ _ h0 (show n<=((m.toNat:Nat):Int) from jB)]
def ER{len cap:Nat}{k k2:IntKind}{m q:Int}(U1:(lo=none/\vlo=none)\/∃k n,lo=some n/\vlo=some (.int k n))
  (h0:0<=lo.getD 0) (h1:lo.getD 0<=q) (h2:q<=m) (h3:m<=cap):(Instr.sliceBounds true len cap vlo (some (.int k2 q)) (some (.int k m))).run P w.toWorld=.ok ((lo.getD 0).toNat,q.toNat,m.toNat) w.toWorld:=by
 rcases U1 with⟨rfl,rfl⟩|⟨k1,n,rfl,rfl⟩<;>simp only[Option.getD_some,Option.getD_none]at*
 ·simp[Instr.sliceBounds,run_sliceBound w.toWorld _ _ _ _ (show 0<=m from jB) h3,run_sliceBound w.toWorld _ _ _ _ (show 0<=q from jB) (show q<=((m.toNat:Nat):Int) from jB)]
 ·simp[Instr.sliceBounds,run_sliceBound w.toWorld _ _ _ _ (show 0<=m from jB) h3,run_sliceBound w.toWorld _ _ _ _ (show 0<=q from jB) (show q<=((m.toNat:Nat):Int) from jB),run_sliceBound w.toWorld _ _ _ _ h0 (show n<=((q.toNat:Nat):Int) from jB)]
variable{vmx:Option Value}
def o4{t e:US}{sz:Nat}(hu:P.underlying t=some (.slice e))(hs:dh P e=some sz){A:Option Addr}{n c lo hi mx:Nat}(hb:(Instr.sliceBounds true n c vlo vhi vmx).run P w.toWorld=.ok (lo,hi,mx) w.toWorld) :
  ∃A',(Instr.sliceAt t (.slice A n c) vlo vhi vmx).run P w.toWorld=.ok (.slice A' (hi-lo) (mx-lo)) w.toWorld/\((A=none/\A'=none)\/∃ad,A=some ad/\A'=some (if mx=lo then ad else ad.add (lo*sz))):=by
 cases A with
 |none=>exact⟨none,by simp[Instr.sliceAt,run_underlying hu,Instr.slice,hb,lV hs],.inl ⟨rfl,rfl⟩⟩
 |some ad=>exact⟨some (if mx=lo then ad else ad.add (lo*sz)),by simp only[Instr.sliceAt,run_underlying hu,Instr.slice,hb,lV hs,Sem.run_bind,Result.andThen_ok,Sem.run_pure,Option.map_some];split<;>rfl,.inr ⟨ad,rfl,rfl⟩⟩
def zG{i:Int}(ha:rb a=some (some i))(hr:∀x y,a=some x->v=some y->ax w x y)(hs:a.isSome=v.isSome):∃k,v=some (.int k i):=by
 rcases l6 ha hr hs with⟨h,_⟩|⟨k,n,h,rfl⟩
 ·cases h
 ·cases h;exact⟨k,rfl⟩
def qz(ha:rb a=some none)(hr:∀x y,a=some x->v=some y->ax w x y)(hs:a.isSome=v.isSome):v=none:=by
 rcases l6 ha hr hs with⟨_,h⟩|⟨k,n,h,rfl⟩
 ·exact h
 ·cases h
def Sl(t:US){a:AV}{lo hi mx:Option AV}{va:Value}(ha:ax w a va)(U1:∀x y,lo=some x->vlo=some y->ax w x y)(slo:lo.isSome=vlo.isSome)
  (X6:∀x y,hi=some x->vhi=some y->ax w x y) (shi:hi.isSome=vhi.isSome) (XT:∀x y,mx=some x->vmx=some y->ax w x y) (smx:mx.isSome=vmx.isSome):j7 P w (Instr.sliceAt t va vlo vhi vmx) (tA P t a lo hi mx):=by
 intro hq;unfold tA at*;split at hq<;>try exact hq.elim
 ·rename_i s l h e1 e2 e3;obtain rfl:=qz e3 XT smx;have:=df ha;subst this;have ht:=An hq.1;obtain⟨h0,h1,h2⟩:=hq.2;have hb:=tC (P:=P) (w:=w) (isSlice:=false) (l6 e1 U1 slo) (l6 e2 X6 shi) h0 h1 h2;exact⟨_,by simp[Instr.sliceAt,run_underlying ht,Instr.slice,hb],.raw _⟩
 ·rename_i x sz css d l h e1 e2 e3;obtain rfl:=qz e3 XT smx;obtain⟨e,hu,hs⟩:=o8 hq.1;obtain⟨h0,h1,h2⟩:=hq.2;have key:∀n c:Nat,n=css.length->n<=c->(Instr.sliceBounds true n c vlo vhi none).run P w.toWorld=.ok ((l.getD 0).toNat,(h.getD css.length).toNat,c) w.toWorld:=fun n c hn hc=>by
   subst hn;exact tC (P:=P) (w:=w) (isSlice:=true) (l6 e1 U1 slo) (l6 e2 X6 shi) h0 h1 jB
  generalize hL:l.getD 0=L at*;generalize hh:h.getD (css.length:Int)=Hh at*;obtain⟨Ln,rfl⟩:=Int.eq_ofNat_of_zero_le h0;obtain⟨Hn,rfl⟩:=Int.eq_ofNat_of_zero_le (show(0:Int)<=Hh from jB);simp only[Int.toNat_natCast]at key ⊢;have O':((css.drop Ln).take (Hn-Ln)).length=Hn-Ln:=by simp;omega
  cases ha with
  |gz _ _ A c hx=>
   obtain⟨A',B',_⟩:=o4 hu hs (A:=A) (key 0 c rfl (Nat.zero_le _));obtain rfl:Hn=0:=by simp at h2;omega
   refine⟨_,B',?_⟩;simp only[Nat.zero_sub,List.take_zero];exact .gz _ _ _ _ (fun h=>by cases h)
  |sl _ _ _ ad c vs hn hc hx U' VQ hH D' hr=>
   obtain⟨A',B',hA⟩:=o4 hu hs (A:=some ad) (key _ c rfl hc);refine⟨_,B',?_⟩;by_cases hz:Hn-Ln=0
   ·rw[hz,List.take_zero];exact .gz _ _ _ _ (fun h=>by cases h)
   ·rcases hA with⟨h,_⟩|⟨ad',h,rfl⟩
    ·cases h
    cases h;rw[jN];have hg:∀i,i<Hn-Ln->((css.drop Ln).take (Hn-Ln)).getD i []=css.getD (Ln+i) []:=fun i hi=>by simp[List.getElem?_take,hi]
    have:=ax.sl (w:=w) (d:=d) false sz ((css.drop Ln).take (Hn-Ln)) (ad.add (Ln*sz)) (c-Ln) (fun j=>vs (Ln*sz+j)) jB jB (fun h=>by cases h) (fun cs VV=>U' _ (List.mem_of_mem_drop (List.mem_of_mem_take VV))) (by rw[qh];exact VQ) (by rw[qh];exact hH)
     (fun i j hi hj=>by
      rw[xc,show Ln*sz+(i*sz+j)=(Ln+i)*sz+j by rw[Nat.add_mul];omega];exact D' _ j jB hj) (fun i j u hi hu=>by
      rw[hg i jB]at hu;rw[show Ln*sz+(i*sz+j)=(Ln+i)*sz+j by rw[Nat.add_mul];omega];exact hr _ j u jB hu)
    rw[O']at this;exact this
 ·rename_i d m sz n h e1 e2 e3;obtain rfl:=qz e3 XT smx;obtain rfl:=qz e1 U1 slo;obtain⟨e,hu,hs⟩:=o8 hq.1;obtain⟨h1,h2⟩:=hq.2;have key:∀c:Nat,n<=c->(Instr.sliceBounds true n c none vhi none).run P w.toWorld=.ok (0,(h.getD n).toNat,c) w.toWorld:=fun c hc=>by
   have:=tC (P:=P) (w:=w) (isSlice:=true) (len:=n) (cap:=c) (lo:=none) (vlo:=none) (.inl ⟨rfl,rfl⟩) (l6 e2 X6 shi) jE (by simpa using h1) jB;simpa using this
  cases ha with
  |iN _ _ _ A hn=>
   obtain⟨A',B',_⟩:=o4 hu hs (A:=A) (key 0 (Nat.zero_le _));have h0:(h.getD 0).toNat=0:=by simp at h2;omega
   refine⟨_,B',?_⟩;simp only[Nat.sub_zero,Int.ofNat_zero];rw[h0];exact .iN d m sz A' hn
  |rs _ _ _ _ b t c hn hc U6 Wp=>
   obtain⟨A',B',hA⟩:=o4 hu hs (A:=some ⟨b,0,none⟩) (key c U6);refine⟨_,B',?_⟩;rcases hA with⟨h',_⟩|⟨ad',h',rfl⟩
   ·cases h'
   cases h';have:(if c=0 then(⟨b,0,none⟩:Addr)else(⟨b,0,none⟩:Addr).add (0*sz))=⟨b,0,none⟩:=by rw[Nat.zero_mul,DA];simp
   rw[this];simp only[Nat.sub_zero];exact .rs d m sz _ b t c hn hc jB Wp
 ·rename_i d m sz n l h e1 e2 e3;obtain rfl:=qz e3 XT smx;obtain⟨e,hu,hs⟩:=o8 hq.1;obtain⟨h0,h1,h2⟩:=hq.2;have key:∀c:Nat,n<=c->(Instr.sliceBounds true n c vlo vhi none).run P w.toWorld=.ok (l.toNat,(h.getD n).toNat,c) w.toWorld:=fun c hc=>
   tC (P:=P) (w:=w) (isSlice:=true) (len:=n) (cap:=c) (lo:=some l) (l6 e1 U1 slo) (l6 e2 X6 shi) h0 h1 jB
  cases ha with
  |iN _ _ _ A hn=>
   obtain⟨A',B',_⟩:=o4 hu hs (A:=A) (key 0 (Nat.zero_le _));refine⟨_,B',?_⟩;have:(h.getD (0:Nat)).toNat-l.toNat=0:=by simp at h1 h2 ⊢;omega
   rw[this];exact .jx d m sz _ _ _
  |rs _ _ _ _ b t c hn hc U6 Wp=>
   obtain⟨A',B',hA⟩:=o4 hu hs (A:=some ⟨b,0,none⟩) (key c U6);refine⟨_,B',?_⟩;by_cases hz:(h.getD n).toNat-l.toNat=0
   ·rw[hz];exact .jx d m sz _ _ _
   ·rcases hA with⟨h',_⟩|⟨ad',h',rfl⟩
    ·cases h'
    cases h';rw[jN,ju,Nat.zero_add];exact .rv d m sz _ _ b t _ hn jB
 ·rename_i d m sz n h e1 e2 e3;obtain rfl:=qz e3 XT smx;obtain rfl:=qz e1 U1 slo;obtain⟨e,hu,hs⟩:=o8 hq.1;obtain⟨h1,h2⟩:=hq.2;cases ha with
  |rc _ _ _ _ b t hn hc U6 Wp=>
   have key:(Instr.sliceBounds true n m none vhi none).run P w.toWorld=.ok (0,(h.getD n).toNat,m) w.toWorld:=by have:=tC (P:=P) (w:=w) (isSlice:=true) (len:=n) (cap:=m) (lo:=none) (vlo:=none) (.inl ⟨rfl,rfl⟩) (l6 e2 X6 shi) jE (by simpa using h1) jB;simpa using this
   obtain⟨A',B',hA⟩:=o4 hu hs (A:=some ⟨b,0,none⟩) key;refine⟨_,B',?_⟩;rcases hA with⟨h',_⟩|⟨ad',h',rfl⟩
   ·cases h'
   cases h';have:(if m=0 then(⟨b,0,none⟩:Addr)else(⟨b,0,none⟩:Addr).add (0*sz))=⟨b,0,none⟩:=by rw[Nat.zero_mul,DA];simp
   rw[this];simp only[Nat.sub_zero];exact .rc d m sz _ b t hn hc jB Wp
 ·rename_i d m sz n l h e1 e2 e3;obtain rfl:=qz e3 XT smx;obtain⟨e,hu,hs⟩:=o8 hq.1;obtain⟨h0,h1,h2⟩:=hq.2;cases ha with
  |rc _ _ _ _ b t hn hc U6 Wp=>
   have key:(Instr.sliceBounds true n m vlo vhi none).run P w.toWorld=.ok (l.toNat,(h.getD n).toNat,m) w.toWorld:=
    tC (P:=P) (w:=w) (isSlice:=true) (len:=n) (cap:=m) (lo:=some l) (l6 e1 U1 slo) (l6 e2 X6 shi) h0 h1 jB
   obtain⟨A',B',hA⟩:=o4 hu hs (A:=some ⟨b,0,none⟩) key;refine⟨_,B',?_⟩;by_cases hz:(h.getD n).toNat-l.toNat=0
   ·rw[hz];exact .jx d m sz _ _ _
   ·rcases hA with⟨h',_⟩|⟨ad',h',rfl⟩
    ·cases h'
    cases h';rw[jN,ju,Nat.zero_add];exact .rv d m sz _ _ b t _ hn jB
 ·rename_i d m sz n l h x e1 e2 e3;obtain⟨kx,rfl⟩:=zG e3 XT smx;obtain⟨kh,rfl⟩:=zG e2 X6 shi;obtain⟨e,hu,hs⟩:=o8 hq.1;obtain⟨h0,h1,h2,h3⟩:=hq.2;cases ha with
  |rc _ _ _ _ b t hn hc U6 Wp=>
   have key:(Instr.sliceBounds true n m vlo (some (.int kh h)) (some (.int kx x))).run P w.toWorld=.ok ((l.getD 0).toNat,h.toNat,x.toNat) w.toWorld:=
    ER (P:=P) (w:=w) (len:=n) (cap:=m) (l6 e1 U1 slo) h0 h1 h2 jB
   obtain⟨A',B',hA⟩:=o4 hu hs (A:=some ⟨b,0,none⟩) key;refine⟨_,B',?_⟩;by_cases hz:h.toNat-(l.getD 0).toNat=0
   ·rw[hz];exact .jx d m sz _ _ _
   ·rcases hA with⟨h',_⟩|⟨ad',h',rfl⟩
    ·cases h'
    cases h';rw[jN,ju,Nat.zero_add];exact .rv d m sz _ _ b t _ hn jB
 ·rename_i d m sz o n l h e1 e2 e3;obtain rfl:=qz e3 XT smx;obtain⟨e,hu,hs⟩:=o8 hq.1;obtain⟨h0,h1,h2⟩:=hq.2;have key:∀c:Nat,n<=c->(Instr.sliceBounds true n c vlo vhi none).run P w.toWorld=.ok ((l.getD 0).toNat,(h.getD n).toNat,c) w.toWorld:=fun c hc=>
   tC (P:=P) (w:=w) (isSlice:=true) (len:=n) (cap:=c) (l6 e1 U1 slo) (l6 e2 X6 shi) h0 h1 jB
  cases ha with
  |jx _ _ _ _ c A=>
   obtain⟨A',B',_⟩:=o4 hu hs (A:=A) (key c (Nat.zero_le _));refine⟨_,B',?_⟩;have:(h.getD (0:Nat)).toNat-(l.getD 0).toNat=0:=by simp at h1 h2 ⊢;omega
   rw[this];exact .jx d m sz _ _ _
  |rv _ _ _ _ _ b t c hn U6=>
   obtain⟨A',B',hA⟩:=o4 hu hs (A:=some ⟨b,o*sz,none⟩) (key c U6);refine⟨_,B',?_⟩;by_cases hz:(h.getD n).toNat-(l.getD 0).toNat=0
   ·rw[hz];exact .jx d m sz _ _ _
   ·rcases hA with⟨h',_⟩|⟨ad',h',rfl⟩
    ·cases h'
    cases h';rw[jN,ju,<-Nat.add_mul];exact .rv d m sz _ _ b t _ hn jB
 ·rename_i d m sz n l h x e1 e2 e3;obtain⟨kx,rfl⟩:=zG e3 XT smx;obtain⟨kh,rfl⟩:=zG e2 X6 shi;obtain⟨e,hu,hs⟩:=o8 hq.1;obtain⟨h0,h1,h2,h3⟩:=hq.2;have key:∀c:Nat,n<=c->(Instr.sliceBounds true n c vlo (some (.int kh h)) (some (.int kx x))).run P w.toWorld=.ok ((l.getD 0).toNat,h.toNat,x.toNat) w.toWorld:=fun c hc=>
   ER (P:=P) (w:=w) (len:=n) (cap:=c) (l6 e1 U1 slo) h0 h1 h2 jB
  cases ha with
  |iN _ _ _ A hn=>
   obtain⟨A',B',_⟩:=o4 hu hs (A:=A) (key 0 (Nat.zero_le _));refine⟨_,B',?_⟩;have:h.toNat-(l.getD 0).toNat=0:=by simp at h1 h2 h3 ⊢;omega
   rw[this];exact .jx d m sz _ _ _
  |rs _ _ _ _ b t c hn hc U6 Wp=>
   obtain⟨A',B',hA⟩:=o4 hu hs (A:=some ⟨b,0,none⟩) (key c U6);refine⟨_,B',?_⟩;by_cases hz:h.toNat-(l.getD 0).toNat=0
   ·rw[hz];exact .jx d m sz _ _ _
   ·rcases hA with⟨h',_⟩|⟨ad',h',rfl⟩
    ·cases h'
    cases h';rw[jN,ju,Nat.zero_add];exact .rv d m sz _ _ b t _ hn jB
 ·rename_i l h e1 e2 e3;obtain rfl:=qz e3 XT smx;have:=df ha;subst this;obtain⟨_,U',h0,h1⟩:=hq;obtain⟨sz,U'⟩:=Option.isSome_iff_exists.1 U';obtain⟨e,hu,hs⟩:=o8 U';have hb:=tC (P:=P) (w:=w) (isSlice:=true) (len:=0) (cap:=0) (l6 e1 U1 slo) (l6 e2 X6 shi) jB jF jF;simp only[h0,Int.toNat_zero,h1,Int.ofNat_zero]at hb;exact⟨_,by simp[Instr.sliceAt,run_underlying hu,Instr.slice,hb,lV hs],.raw _⟩
def QC(s d:US){a:AV}{v:Value}(h:ax w a v):j7 P w (convert s d v) (wz P s d a):=by
 intro hq;unfold wz at*;split at hq<;>try exact hq.elim
 ·rename_i k' n k e;have:=df h;subst this;have hd:P.underlying d=some (.int k):=by unfold C8 at e;split at e<;>simp_all
  obtain⟨ds,hs⟩:=Option.isSome_iff_exists.1 hq;refine⟨.int k (k.wrap n),?_,.raw _⟩;cases ds<;>simp[convert,run_underlying hs,run_underlying hd,Conv.intToInt]
 ·rename_i s' e;have:=df h;subst this;have hd:=An hq.2;obtain⟨ds,hs⟩:=Option.isSome_iff_exists.1 hq.1;refine⟨.string s',?_,.raw _⟩;cases ds<;>simp[convert,run_underlying hs,run_underlying hd]
def EJ(mx:Bool)(ts:Array US)(ty:US){l:UM}{vs:UW}(h:ci w l vs):j7 P w (if mx then Builtin.max_ ts ty vs.toArray else Builtin.min_ ts ty vs.toArray) (xN mx l):=by
 intro hq;unfold xN at*;split at hq<;>try exact hq.elim
 rename_i k a k' b;obtain⟨hl,hr⟩:=h;match vs,hl with
 |[x,y],_=> obtain rfl:k=k':=hq;obtain rfl:=df (hr 0 _ _ rfl rfl);obtain rfl:=df (hr 1 _ _ rfl rfl);cases mx<;>exact⟨_,by simp[Builtin.max_,Builtin.min_,Builtin.max2,Builtin.min2];rfl,by simpa using ax.raw _⟩
theorem CI{pl:Nat->Option (Nat×Nat)}:∀{parts:List (Nat×AV)} {vparts:List (Nat×Value)} {cells:UM} {cur:UU} {out:UM},
  sk pl cells parts=some out->parts.map (·.1)=vparts.map (·.1)->(∀(i:Nat) a v,parts[i]?=some a->vparts[i]?=some v->ci w a.2.cells v.2.cells.toList)->ci w cells cur.toList->
  ∃vs,Instr.fill pl cur vparts=some vs/\ci w out vs.toList
 |[],[],cells,cur,out,h,_,_,hc=>by simp only[sk,Option.some.injEq]at h;subst h;exact⟨cur,rfl,hc⟩
 |[],_::_,_,_,_,_,he,_,_=>by simp at he
 |_::_,[],_,_,_,_,he,_,_=>by simp at he
 |(i,a)::parts,(i',v)::vparts,cells,cur,out,h,he,hr,hc=>by
  simp only[List.map_cons,List.cons.injEq]at he;obtain⟨rfl,he⟩:=he;simp only[sk]at h;split at h
  ·rename_i off k hp;split at h
   ·rename_i hk;have hv:=hr 0 _ _ rfl rfl;simp only at hv;have O':v.cells.size=k:=by have:=hv.1;simp at this;omega
    have XQ:cells.length=cur.size:=by simpa using hc.1
    have U2:∀(l:UW) (o:Nat) (c:UU),(l.toArray.zipIdx.foldl (fun cs (x,j)=>cs.setIfInBounds (o+j) x) c)=(c.toList.take o++l++c.toList.drop (o+l.length)).toArray\/c.size<o+l.length:=by
     intro l o c;by_cases hb:c.size<o+l.length
     ·exact .inr hb
     ·refine .inl ?_;have gen:∀(l:UW) (s:Nat) (c:UU),o+s+l.length<=c.size->((l.zipIdx s).foldl (fun(cs:UU) (p:Value×Nat)=>cs.setIfInBounds (o+p.2) p.1) c)=(c.toList.take (o+s)++l++c.toList.drop (o+s+l.length)).toArray:=by
       intro l;induction l with
       |nil=>intro s c _;simp
       |cons x l ih=>
        intro s c hb;simp only[List.zipIdx_cons,List.foldl_cons];rw[ih (s+1) _ (by simp at hb ⊢;omega)];apply Array.ext';simp only[Array.toList_setIfInBounds];apply List.ext_getElem?;intro m;simp only[List.length_cons]at hb;rcases Nat.lt_or_ge m (o+s)with h1|h1
        ·rw[List.append_assoc,List.getElem?_append_left jF,List.append_assoc,List.getElem?_append_left jF];simp only[List.getElem?_take,List.getElem?_set];rw[jP,jN,if_pos h1]
        ·rcases Nat.lt_or_ge m (o+s+1)with h2|h2
         ·obtain rfl:m=o+s:=jB;rw[List.append_assoc,List.getElem?_append_left jF,List.append_assoc,List.getElem?_append_right jF];simp only[List.getElem?_take,List.getElem?_set,List.length_take,Array.length_toList];rw[jP];simp only[Nat.add_assoc,if_true];rw[jP,show o+s-min (o+s) c.size=0 from jB];rfl
         ·rw[List.append_assoc,List.append_assoc,List.cons_append,List.getElem?_append_right (l₁:=List.take (o+(s+1)) _) jF,List.getElem?_append_right (l₁:=List.take (o+s) _) jF];simp only[List.length_take,List.length_set,Array.length_toList];rw[show m-min (o+s) c.size=(m-min (o+(s+1)) c.size)+1 from jB,List.getElem?_cons_succ];rcases Nat.lt_or_ge (m-min (o+(s+1)) c.size) l.length with h3|h3
          ·rw[List.getElem?_append_left h3,List.getElem?_append_left h3]
          ·rw[List.getElem?_append_right h3,List.getElem?_append_right h3];simp only[List.getElem?_drop,List.getElem?_set,List.length_cons];rw[jN];congr 1
           omega
      have:=gen l 0 c jB;simp only[Nat.add_zero]at this;rw[<-this,<-Array.foldl_toList];simp
    have VB:¬(cur.size<off+v.cells.toList.length):=by simp;omega
    have hs:=(U2 v.cells.toList off cur).resolve_right VB;rw[Array.toArray_toList]at hs;obtain⟨vs,h1,h2⟩:=CI (cur:=(cur.toList.take off++v.cells.toList++cur.toList.drop (off+v.cells.toList.length)).toArray) h he (fun i a v ha hv=>hr (i+1) a v (by simpa using ha) (by simpa using hv)) (by
     refine⟨by simp[kH];omega,fun m x y hx hy=>?_⟩;simp only[kH]at hx;rcases Nat.lt_or_ge m off with g1|g1
     ·rw[List.append_assoc,List.getElem?_append_left jF,List.getElem?_take,if_pos g1]at hx hy;exact hc.2 m x y hx hy
     ·rcases Nat.lt_or_ge m (off+a.cells.length)with g2|g2
      ·rw[List.append_assoc,List.getElem?_append_right jF,List.getElem?_append_left jF]at hx hy;simp only[List.length_take,Array.length_toList]at hx hy;rw[show m-min off cells.length=m-off from jB]at hx;rw[show m-min off cur.size=m-off from jB]at hy;exact hv.2 _ x y hx hy
      ·rw[List.getElem?_append_right jF]at hx hy;simp only[List.length_append,List.length_take,Array.length_toList,List.getElem?_drop]at hx hy;rw[show off+a.cells.length+(m-(min off cells.length+a.cells.length))=m from jB]at hx;rw[show off+v.cells.size+(m-(min off cur.size+v.cells.size))=m from jB]at hy;exact hc.2 m x y hx hy)
    refine⟨vs,?_,h2⟩;simp only[Instr.fill,hp];rw[if_neg jF,hs];exact h1
   ·cases h
  ·cases h
def RX{t:US}{pl:List (Nat×Nat)}(h:jf P t=some pl):∃fs:Array Field,P.underlying t=some (.struct fs)/\(fs.mapM (m:=Sem) fun f=>do pure (f.offset,<-sizeOf f.type)).run P w.toWorld=.ok pl.toArray w.toWorld:=by
 unfold jf at h;split at h
 ·rename_i fs hu;refine⟨fs,hu,?_⟩;rw[Array.mapM_eq_mapM_toList];have gen:∀(l:List Field) (pl:List (Nat×Nat)),l.mapM (fun f=>(dh P f.type).map fun k=>(f.offset,k))=some pl->(l.mapM (m:=Sem) fun f=>do pure (f.offset,<-sizeOf f.type)).run P w.toWorld=.ok pl w.toWorld:=by
   intro l;induction l with
   |nil=>intro pl h;simp at h;subst h;simp
   |cons f l ih=> intro pl h;rw[List.mapM_cons]at h;simp only[Option.bind_eq_bind,Option.bind_eq_some_iff,Option.map_eq_some_iff,Option.pure_def,Option.some.injEq]at h;obtain⟨p,⟨k,hk,rfl⟩,rest,Vl,rfl⟩:=h;rw[List.mapM_cons];simp only[Sem.run_bind,lV hk,Result.andThen_ok,Sem.run_pure,ih rest Vl]
  simp only[Sem.run_map,gen fs.toList pl h,Result.andThen_ok]
 ·cases h
def Pt(t:US){parts:List (Nat×AV)}{vparts:Array (Nat×Value)}(h1:parts.map (·.1)=vparts.toList.map (·.1))(h2:∀(i:Nat) a v,parts[i]?=some a->vparts.toList[i]?=some v->ax w a.2 v.2):j7 P w (Instr.build t vparts) (wy P t parts):=by
 intro hq;unfold wy at*;split at hq<;>try exact hq.elim
 rename_i zs pl e1 e2;split at hq<;>try exact hq.elim
 rename_i out hf;obtain⟨z,hz,rfl⟩:=yS (w:=w) e1;obtain⟨fs,hu,hp⟩:=RX (w:=w) e2;simp only[cQ,List.all_eq_true]at hq;have Xc:∀(i:Nat) a,parts[i]?=some a->cQ a.2.cells=true:=fun i a ha=>by simp only[cQ,List.all_eq_true];intro x hx;exact hq x (List.mem_flatten.2 ⟨_,List.mem_map.2 ⟨a,List.mem_of_getElem? ha,rfl⟩,hx⟩)
 obtain⟨vs,g1,g2⟩:=CI (w:=w) (cur:=z.cells) hf h1 (fun i a v ha hv=>(h2 i a v ha hv).gL (Xc i a ha))
  ⟨jE,fun i a v ha hv=>by simp only[List.getElem?_map,Option.map_eq_some_iff]at ha;obtain⟨x,hx,rfl⟩:=ha;rw[hx]at hv;cases hv;exact .raw _⟩
 refine⟨.agg vs,?_,.agg _ _ (by have:=g2.1;simpa using this) fun i a v ha hv=>g2.2 i a v ha (by simpa using hv)⟩;have e:(fun i:Nat=>pl.toArray[i]?)=(fun i:Nat=>pl[i]?):=by funext i;simp
 simp only[Instr.build,Sem.run_bind,hz,Result.andThen_ok,run_underlying hu,hp,e,g1,Sem.run_pure]
end
section
variable {P:UY}{w:NW}{H:Hp}{ρ:Operand->Value}{ev:UT}
def vO(hr:∀x,ax w (ev x) (ρ x))(l:List Operand):ci w (l.map ev) (l.map ρ):=
 ⟨jE,fun i a v ha hv=>by simp only[List.getElem?_map,Option.map_eq_some_iff]at ha hv;obtain⟨x,hx,rfl⟩:=ha;obtain⟨y,hy,rfl⟩:=hv;rw[hx]at hy;cases hy;exact hr x⟩
def Bh(hr:∀x,ax w (ev x) (ρ x))(o:Option Operand):∀x y,o.map ev=some x->o.map ρ=some y->ax w x y:=by
 intro x y hx hy;cases o with
 |none=>cases hx
 |some z=>cases hx;cases hy;exact hr z
def mz{s:Sem Value}{q:PA}(hq:q.1)(h:j7 P w s q):∃v,(do pure (Next.value (<-s)):Sem Next).run P w.toWorld=.ok (.value v) w.toWorld/\ax w q.2 v:=by obtain⟨v,h1,h2⟩:=h hq;exact⟨v,by simp[h1],h2⟩
def BL{c a b:Operand}{x y z:AV}{dst:Option Tmp}{ty:US}{pos:String}{after:Array Edge}{guard:Option (Nat×Bool)}(hc:ax w x (ρ c))(ha:ax w y (ρ a))(hb:ax w z (ρ b))(hq:(oa x y z).1) :
  ∃v,(execOp ρ ⟨dst,.pick c a b,ty,pos,after,guard⟩).run P w.toWorld=.ok (.value v) w.toWorld/\ax w (oa x y z).2 v:=by
 obtain⟨v,h1,h2⟩:=Ft (P:=P) hc ha hb hq;refine⟨v,?_,h2⟩;simp only[execOp,Sem.run_bind,Sem.run_pure]at h1 ⊢;cases hb:(asBool (ρ c)).run P w with
 |ok x w'=>rw[hb]at h1;simp only[Result.andThen_ok,Result.ok.injEq]at h1 ⊢;exact⟨by rw[h1.1],h1.2⟩
 |halt e w'=>rw[hb]at h1;simp at h1
def xS(o:Oper)(hw:aJ w H)(hr:∀x,ax w (ev x) (ρ x))(hq:(vq P ev H o.op).1):∃v,(execOp ρ o).run P w.toWorld=.ok (.value v) w.toWorld/\ax w (vq P ev H o.op).2 v:=by
 obtain⟨dst,op,ty,pos,after,guard⟩:=o;cases op
 case move x=>exact⟨_,rfl,hr x⟩
 case assign x=>exact⟨_,rfl,hr x⟩
 case pick c a b=>
  obtain⟨v,h1,h2⟩:=Ft (P:=P) (hr c) (hr a) (hr b) hq;refine⟨v,?_,h2⟩;simp only[execOp,Sem.run_bind,Sem.run_pure]at h1 ⊢;cases hb:(asBool (ρ c)).run P w with
  |ok x w'=>rw[hb]at h1;simp only[Result.andThen_ok,Result.ok.injEq]at h1 ⊢;exact⟨by rw[h1.1],h1.2⟩
  |halt e w'=>rw[hb]at h1;simp at h1
 case nilCheck x=>exact T5 x rfl (hr x) _ rfl hq
 case binOp op t x y t'=>exact mz hq (FV op t x y (hr x) (hr y))
 case unOp op t x=>exact mz hq (Q7 op (hr x))
 case load t a=>exact mz hq (MD t (hr a) hw)
 case fieldAddr t a f=>exact mz hq (Ox t f (hr a))
 case field t a f=>exact mz hq (KV t f (hr a))
 case indexAddr t a i=>exact mz hq (PQ t (hr a) (hr i))
 case index t a i=>exact mz hq (ME t (hr a) (hr i))
 case extract a i=>exact mz hq (M1 (hr a) i)
 case slice t a lo hi mx=>exact mz hq (Sl t (hr a) (Bh hr lo) (by cases lo<;>rfl) (Bh hr hi) (by cases hi<;>rfl) (Bh hr mx) (by cases mx<;>rfl))
 case makeFunc fn first captured=>
  have:=L6 (P:=P) fn (vO hr first.toList) (vO hr captured.toList);have e1:(first.toList.map ρ).toArray=first.map ρ:=by rw[<-Array.toList_map,Array.toArray_toList]
  have e2:(captured.toList.map ρ).toArray=captured.map ρ:=by rw[<-Array.toList_map,Array.toArray_toList]
  rw[e1,e2]at this;exact mz hq this
 case makeInterface t x=>exact mz hq (Le t (hr x))
 case convert s d x=>exact mz hq (QC s d (hr x))
 case build t parts=> refine mz hq (Pt t jE fun i a v ha hv=>?_);simp only[List.getElem?_map,Option.map_eq_some_iff,Array.toList_map,Array.getElem?_toList]at ha hv;obtain⟨x,hx,rfl⟩:=ha;obtain⟨y,hy,rfl⟩:=hv;rw[hx]at hy;cases hy;exact hr x.2
 case call c=>
  obtain⟨callee,args,argTypes⟩:=c;cases callee
  case builtin b=>
   simp only[vq]at hq ⊢;generalize hts:argTypes.toList=ts at*;obtain rfl:argTypes=ts.toArray:=by rw[<-hts]
   have WT:=vO hr args.toList;have Wf:args.map ρ=(args.toList.map ρ).toArray:=by rw[<-Array.toList_map,Array.toArray_toList]
   have B':∀s:Sem Value,(∀cs,builtin b ts.toArray ty cs (args.toList.map ρ).toArray=(do pure (Next.value (<-s))))->(execOp ρ ⟨dst,.call ⟨.builtin b,args,ts.toArray⟩,ty,pos,after,guard⟩)=(do pure (Next.value (<-s))):=by intro s hs;simp only[execOp,resolve,pure_bind,invoke,Wf];exact hs _
   generalize hus:args.toList.map ρ=us at*;generalize hals:args.toList.map ev=als at*;unfold mI at*;split at hq<;>try exact hq.elim
   ·rename_i t ts x als;cases us with
    |nil=>have:=WT.1;simp at this
    |cons u us=> rw[B' _ (fun _=>rfl)];exact mz hq (OD ty t ts us hw (WT.2 0 _ _ rfl rfl))
   ·rename_i t ts x als;cases us with
    |nil=>have:=WT.1;simp at this
    |cons u us=> rw[B' _ (fun _=>rfl)];exact mz hq (OA ty t ts us (WT.2 0 _ _ rfl rfl))
   ·rw[B' _ (fun _=>rfl)];have:=EJ (P:=P) true ts.toArray ty WT;exact mz hq this
   ·rw[B' _ (fun _=>rfl)];have:=EJ (P:=P) false ts.toArray ty WT;exact mz hq this
  all_goals exact hq.elim
 all_goals exact hq.elim
end
universe u
def aS(P:Program)(f:FuncId):Bool:=match P.funcs[f]? with
 | some fn => fn.body.isSome && !(fn.name == "runtime.NumGoroutine")
 |none=>false
def aB(P:UY)(f:FuncId)(args:UM)(r:AV):Prop:=ab P f args [] fun r' l'=>r'=r/\l'=[]
def dm(P:UY)(f:FuncId)(args:UM)(H:Hp)(K:UJ):Prop:=
 ∀(w:NW) (vs:UU),aJ w H->bs w args vs->Calls P f vs w.toWorld fun e W=>∃v r H' w',W=NW.toWorld w'/\e=.returned v/\K r H'/\aJ w' H'/\ax w' r v/\Ext w H w' H'
theorem dm.mono{P:UY}{f:FuncId}{args:UM}{H:Hp}{K K':UJ}(h:dm P f args H K)(hk:∀r H,K r H->K' r H):dm P f args H K':=
 fun w vs h1 h2=>(h w vs h1 h2).mono fun _ _ ⟨v,r,H',w',e0,e,k,g⟩=>⟨v,r,H',w',e0,e,hk _ _ k,g⟩
def BH:AV->Option (FuncId×UM×UM)
 |.raw (.func (.func f) first captured)=>some (f,first.toList.map .raw,captured.toList.map .raw)
 |.dW f cs=>some (f,[],cs)
 |.bd f fs=>some (f,fs,[])
 |_=>none
-- what follows is hidden from simp: an argument that a later one's type hangs on is held fixed
inductive iy{α:Sort u}(a:α):Type
 |mk
def vV(H:Hp)(A:Nat->Prop)(_:iy A):Prop:=∃i,H.get i=none/\A i
def vJ(P:UY)(H:Hp)(t:US)(a x:AV)(K:UJ):Prop:=match a,dh P t with
 |.pt i m k j,some n=>match H.get i with
  |some r=>(cQ x.cells=true/\x.cells.length=n/\A7 r m k j n)/\K .any (H.put i (zR r k j x.cells))
  |none=>False
 |_,_=>False
def nS(P:UY)(H:Hp)(t:US)(K:UJ):Prop:=match dR P t with
 |some zs=>vV H (fun i=>K (.pt i 0 0 0) (H.put i (.var t (zs.map .raw)))) .mk
 |none=>False
def rf(H:Hp)(t:US)(x:AV)(K:UJ):Prop:=cQ x.cells=true/\vV H (fun i=>K (.pt i 0 0 0) (H.put i (.var t x.cells))) .mk
def wF(sz:Nat):Nat->List (Nat×AV)->Prop
 |_,[]=>True
 |k,(i,a)::rest=>(i=k/\cQ a.cells=true/\a.cells.length=sz)/\wF sz (k+1) rest
theorem Ge{sz:Nat}:∀{k:Nat} {l:List (Nat×AV)},wF sz k l->l.map (·.1)=List.range' k l.length/\∀p∈l,cQ p.2.cells=true/\p.2.cells.length=sz
 |_,[],_=>⟨rfl,fun p hp=>by simp at hp⟩
 |k,(i,a)::rest,h=>by
  obtain⟨⟨rfl,h1,h2⟩,h3⟩:=h;obtain⟨g1,g2⟩:=Ge h3;refine⟨by simp[g1,List.range'_succ],fun p hp=>?_⟩;rcases List.mem_cons.1 hp with rfl|hp
  ·exact⟨h1,h2⟩
  ·exact g2 p hp
def mm(parts:List (Nat×AV)):UK:=parts.map (·.2.cells)
def tN(e:US)(sz:Nat)(css:UK)(H:Hp)(K:UJ):Prop:=
 (aZ eJ css.flatten=true/\K (.sl true sz css []) H)\/(0<sz/\∃i,H.get i=none/\K (.rs i css.length sz css.length) (H.put i (.aG e sz css)))
def mK(P:UY)(H:Hp)(t:US)(n:Nat)(parts:List (Nat×AV))(K:UJ):Prop:=match iu P t with
 |some e=>match dh P e with
  |some sz=>(parts.length=n/\wF sz 0 parts/\n*sz<=16777216/\(n*sz=0\/(dR P e).isSome=true))/\
   tN e sz (mm parts) H K
  |none=>False
 |none=>False
def qm(P:UY)(ne:Bool)(t:US)(x y:AV)(H:Hp)(K:UJ):Prop:=match x,y with
 |.sl _ _ css _,.raw (.slice none 0 0)=>ig P t=true/\∀b:Bool,(b=true->css=[])->K (.raw (.bool (ne ^^ b))) H
 |.rs _ _ _ n,.raw (.slice none 0 0)=>ig P t=true/\∀b:Bool,(b=true->n=0)->K (.raw (.bool (ne ^^ b))) H
 |x,y=>(fI P (if ne then .neq else .eql) t x y).1/\K (fI P (if ne then .neq else .eql) t x y).2 H
def ur(H:Hp):AV->Option (Prop×UK)
 |.sl _ _ css _=>some (True,css)
 |.rs i m sz n=>match H.get i with
  |some (.aG _ sz' css)=>some (sz'=sz/\m=css.length/\n<=m,css.take n)
  |_=>none
 |.rv i m sz o n=>match H.get i with
  |some (.aG _ sz' css)=>some (sz'=sz/\m=css.length/\o+n<=m,(css.drop o).take n)
  |_=>none
 |.raw (.slice none 0 0)=>some (True,[])
 |_=>none
def ku(P:UY)(t:US):Nat:=((P.info? t).map (·.bytes)).getD 0
def room(by_ n:Nat):Prop:=n*by_<=140737488355328/\n<=9223372036854775807
def dz(css:UK)(n:Nat)(ys:UK):UK:=css.take n++ys++css.drop (n+ys.length)
def uz(i:Nat)(e:US)(m sz n:Nat)(css ys:UK)(H:Hp)(K:UJ):Prop:=if n=m then K (.rs i (m+ys.length) sz (n+ys.length)) (H.put i (.aG e sz (css++ys)))else K (.rs i (max m (n+ys.length)) sz (n+ys.length)) (H.put i (.aG e sz (dz css n ys)))
def O6(css ys:UK):dz css css.length ys=css++ys:=by simp[dz]
variable{css:UK}{n:Nat}
def uQ(ys:UK)(h:n<=css.length):(dz css n ys).length=max css.length (n+ys.length):=by simp[dz];omega
variable{sz:Nat}{H:Hp}{K:UJ}
def Sj{i:Nat}{e:US}{ys:UK}(h:uz i e css.length sz n css ys H K):K (.rs i (max css.length (n+ys.length)) sz (n+ys.length)) (H.put i (.aG e sz (dz css n ys))):=by
 unfold uz at h;split at h
 ·rename_i e;subst e;rw[O6,Nat.max_eq_right jB];exact h
 ·exact h
def Be(by_:Nat)(e:US)(sz:Nat)(ys:UK)(a:AV)(H:Hp)(K:UJ):Prop:=match a with
 |.rs i m sz' n=>match H.get i with
  |some (.aG e' sz'' css)=>(e'=e/\sz'=sz/\sz''=sz/\m=css.length/\n<=m/\room by_ (n+ys.length))/\uz i e m sz n css ys H K
  |_=>False
 |.raw (.slice none 0 0)=>room by_ ys.length/\vV H (fun i=>K (.rs i ys.length sz ys.length) (H.put i (.aG e sz ys))) .mk
 |.sl true sz' css _=>(sz'=sz/\room by_ (css.length+ys.length)/\(css.length=0\/0<ys.length))/\vV H (fun i=>K (.rs i (css.length+ys.length) sz (css.length+ys.length)) (H.put i (.aG e sz (css++ys)))) .mk
 |_=>False
def zz(P:UY)(t:US)(a x:AV)(H:Hp)(K:UJ):Prop:=match iu P t with
 |some e=>match dh P e,dR P e,ur H x with
  |some sz,some zs,some (c,ys)=>(zs.length=sz/\0<sz/\c/\Good sz ys)/\Be (ku P e) e sz ys a H K
  |_,_,_=>False
 |none=>False
def qw(P:UY)(t t':US)(a x:AV)(H:Hp)(K:UJ):Prop:=
 ∀(w:NW) va vx ty,aJ w H->ax w a va->ax w x vx->∃(w':NW) (H':Hp) (r:AV) (v:Value),(Builtin.append_ #[t,t'] ty #[va,vx]).run P w.toWorld=.ok v w'.toWorld/\K r H'/\aJ w' H'/\ax w' r v/\Ext w H w' H'
def pO(P:UY)(b:Builtin)(ts:List US)(args:UM)(H:Hp)(K:UJ):Prop:=
 ∀(w:NW) vs ty cs,aJ w H->ci w args vs->∃(w':NW) (H':Hp) (r:AV) (v:Value),(builtin b ts.toArray ty cs vs.toArray).run P w.toWorld=.ok (.value v) w'.toWorld/\K r H'/\aJ w' H'/\ax w' r v/\Ext w H w' H'
def jV(P:UY)(o:Op)(ty:US)(ev:UT)(H:Hp)(K:UJ):Prop:=
 ∀(w:NW) ρ dst pos after guard,aJ w H->(∀x∈o.operands.toList,ax w (ev x) (ρ x))->∃(w':NW) (H':Hp) (r:AV),K r H'/\aJ w' H'/\Ext w H w' H'/\
  ((∃v,(execOp ρ ⟨dst,o,ty,pos,after,guard⟩).run P w.toWorld=.ok (.value v) w'.toWorld/\ax w' r v)\/((execOp ρ ⟨dst,o,ty,pos,after,guard⟩).run P w.toWorld=.ok .skip w'.toWorld/\r=.any))
def uf(P:UY)(f:FuncId)(args:UM)(H:Hp)(K:UJ):Prop:=
 ∀(w:NW) vs,aJ w H->bs w args vs->∃(v:Value) (w':NW) (r:AV) (H':Hp),(callFunc f vs).run P w.toWorld=.ok (.value v) w'.toWorld/\K r H'/\aJ w' H'/\ax w' r v/\Ext w H w' H'
def fh(P:UY)(f:AV)(args:UM)(H:Hp)(K:UJ):Prop:=match BH f with
 |some (f,first,captured)=>(aS P f=true/\dm P f (first++args++captured) H K)\/uf P f (first++args++captured) H K
 |none=>False
def qF(P:UY)(a:AV)(m:String)(args:UM)(H:Hp)(K:UJ):Prop:=match a with
 |.iQ t v=>match oA P t m with
  |some f=>fh P (.raw (.func (.func f) #[] #[])) (v::args) H K
  |none=>False
 |_=>False
def dt:Op->Bool
 |.box .. |.alloc _|.store .. |.buildSlice .. |.makeMap .. |.makeSlice .. |.mapUpdate .. |.insert .. |.lookup .. |.range .. |.next .. |.entry .. |.typeAssert ..=>false
 |.binOp .eql .. |.binOp .neq ..=>false
 |.call { callee:=.builtin b,.. }=>match b with
  |.len|.cap|.max|.min=>true
  |_=>false
 |.call _=>false
 |_=>true
def vc(P:UY)(ev:UT)(H:Hp)(ty:US)(K:UJ):Op->Prop
 |.box t x=>rf H t (ev x) K
 |.alloc t=>nS P H t K
 |.store t a x=>vJ P H t (ev a) (ev x) K
 |.buildSlice t n parts=>mK P H t n (parts.toList.map fun p=>(p.1,ev p.2)) K
 |.binOp .eql t x y _=>qm P false t (ev x) (ev y) H K
 |.binOp .neq t x y _=>qm P true t (ev x) (ev y) H K
 |.call { callee:=.value f,args,.. }=>fh P (ev f) (args.toList.map ev) H K
 |.call { callee:=.invoke r m,args,.. }=>qF P (ev r) m (args.toList.map ev) H K
 |.call { callee:=.builtin .append,args,argTypes }=>match argTypes.toList,args.toList with
  |[t,t'],[a,x]=>qw P t t' (ev a) (ev x) H K
  |_,_=>False
 |.call { callee:=.builtin b,args,argTypes }=>if dt (.call ⟨.builtin b,args,argTypes⟩)then(vq P ev H (.call ⟨.builtin b,args,argTypes⟩)).1/\K (vq P ev H (.call ⟨.builtin b,args,argTypes⟩)).2 H else pO P b argTypes.toList (args.toList.map ev) H K
 |o=>if dt o then(vq P ev H o).1/\K (vq P ev H o).2 H else jV P o ty ev H K
section
variable {P:UY}{ops:Array Oper}{F:UM}{H:Hp}
variable{K:UJ}
def K7{o:Oper}(hq:(vq P (cn F) H o.op).1)(hk:K (vq P (cn F) H o.op).2 H):Bx P o F H K:=fun w tm h1 h2=>by obtain⟨v,hr,hv⟩:=xS o h1 (fun x=>h2.eval [] x) hq;exact⟨w,H,_,hk,h1,Ext.refl w H,.inl ⟨v,hr,hv⟩⟩
theorem GA{sz:Nat}:∀(parts:List (Nat×AV)) (k:Nat) (pre zs:UM),parts.map (·.1)=List.range' k parts.length->(∀p∈parts,p.2.cells.length=sz)->pre.length=k*sz->zs.length=parts.length*sz->
  sk (fun i=>some (i*sz,sz)) (pre++zs) parts=some (pre++(parts.map (·.2.cells)).flatten)
 |[],k,pre,zs,_,_,_,hz=>by
  have:zs=[]:=by simpa using hz
  simp[sk,this]
 |(i,a)::parts,k,pre,zs,hp,hs,hk,hz=>by
  simp only[List.map_cons,List.length_cons,List.range'_succ,List.cons.injEq]at hp;obtain⟨rfl,hp⟩:=hp;have ha:a.cells.length=sz:=hs (i,a) jE;have Vz:zs.length=parts.length*sz+sz:=by rw[hz,List.length_cons,Nat.add_mul,Nat.one_mul]
  simp only[sk];rw[if_pos ⟨ha,by simp;omega⟩];have e:kH (pre++zs) (i*sz) a.cells=(pre++a.cells)++zs.drop sz:=by
   unfold kH;rw[<-hk,List.take_left',List.drop_append,ha]
   ·simp
   ·rfl
  rw[e,GA parts (i+1) (pre++a.cells) (zs.drop sz) hp (fun p hp=>hs p (by simp[hp])) (by simp[hk,ha,Nat.add_mul]) jF];simp[List.append_assoc]
variable{w:NW}
def NG{l:UM}{vs:UW}(h:ci w l vs){k:Nat}{u:AV}(hu:l[k]?=some u):ax w u (vs.toArray.getD k undef):=by
 have hk:k<vs.length:=by rw[<-h.1];exact(List.getElem?_eq_some_iff.1 hu).1
 refine h.2 k u _ hu ?_;simp[hk]
variable{t:US}
def Ng{n:Nat}{parts:List (Nat×AV)}{vparts:Array (Nat×Value)}(hw:aJ w H)(h1:parts.map (·.1)=vparts.toList.map (·.1))(h2:∀(i:Nat) a v,parts[i]?=some a->vparts.toList[i]?=some v->ax w a.2 v.2)
  (hv:mK P H t n parts K):∃(w':NW) (H':Hp) (r:AV) (v:Value),(Instr.buildSlice t n vparts).run P w.toWorld=.ok v w'.toWorld/\K r H'/\aJ w' H'/\ax w' r v/\Ext w H w' H':=by
 unfold mK at hv;split at hv;rotate_left
 ·exact hv.elim
 rename_i e he;split at hv;rotate_left
 ·exact hv.elim
 rename_i sz Wz;obtain⟨⟨O',hok,hn,hz⟩,hk⟩:=hv;have hu:P.underlying t=some (.slice e):=by unfold iu at he;split at he<;>simp_all
 obtain⟨hp,hs⟩:=Ge hok;rw[O',<-List.range_eq_range']at hp;have hzr:∃z:UU,(n*sz=0/\z=#[])\/(n*sz≠0/\∃v,(zeroValue e).run P w.toWorld=.ok v w.toWorld/\v.cells=z):=by
  by_cases h0:n*sz=0
  ·exact⟨#[],.inl ⟨h0,rfl⟩⟩
  ·have Vz:=hz.resolve_left h0;obtain⟨zs,YA⟩:=Option.isSome_iff_exists.1 Vz;obtain⟨z,VK,_⟩:=yS (w:=w.toWorld) YA;exact⟨z.cells,.inr ⟨h0,z,VK,rfl⟩⟩
 obtain⟨z,hz⟩:=hzr;generalize XQ:(Array.range (n*sz)).map (z[· % z.size]!)=cur;have VV:cur.size=n*sz:=by subst XQ;simp
 have hf:=GA (sz:=sz) parts 0 [] (cur.toList.map .raw) (by rw[hp,O',List.range_eq_range']) (fun p hp=>(hs p hp).2) jE (by simp[VV,O']);simp only[List.nil_append]at hf;obtain⟨vs,g1,g2⟩:=CI (w:=w) (cur:=cur) hf h1 (fun i a v ha hv=>(h2 i a v ha hv).gL (hs _ (List.mem_of_getElem? ha)).1)
  ⟨jE,fun i a v ha hv=>by simp only[List.getElem?_map,Option.map_eq_some_iff]at ha;obtain⟨x,hx,rfl⟩:=ha;rw[hx]at hv;cases hv;exact .raw _⟩
 have B':(Instr.buildSlice t n vparts).run P w.toWorld=.ok (.slice (some ⟨w.heap.size,0,none⟩) n n) (w.alloc (.cells vs e)):=by
  have WH:¬(n*sz>2 ^ 24):=jB;rcases hz with⟨h0,rfl⟩|⟨h0,v,hv,rfl⟩
  ·simp only[Instr.buildSlice,Sem.run_bind,run_underlying hu,Result.andThen_ok,lV Wz,if_neg WH,if_pos h0,Sem.run_pure,XQ,g1,newRow,run_newObj];rfl
  ·simp only[Instr.buildSlice,Sem.run_bind,run_underlying hu,Result.andThen_ok,lV Wz,if_neg WH,if_neg h0,hv,Sem.run_pure,XQ,g1,newRow,run_newObj];rfl
 have VU:(mm parts).length=n:=by simp[mm,O']
 have ZK:∀cs∈mm parts,cs.length=sz:=fun cs VV=>by obtain⟨p,hp,rfl⟩:=List.mem_map.1 VV;exact(hs p hp).2
 have Wb:(mm parts).flatten.length=n*sz:=by rw[gp ZK,VU]
 have Xp:vs.size=n*sz:=by have:=g2.1;simp only[Array.length_toList]at this;rw[<-this];exact Wb
 rcases hk with⟨U8,hk⟩|⟨h0,i,hi,hk⟩
 ·have ex:=Ext.fu hw (.cells vs e);refine⟨_,H,_,_,B',hk,hw.fu _,?_,ex⟩;by_cases h0:n=0
  ·have:mm parts=[]:=List.length_eq_zero_iff.1 jB;rw[this,h0];exact .gz true sz _ 0 (fun _=>rfl)
  ·have:=ax.sl (w:=w.to (w.alloc (.cells vs e))) (d:=[]) true sz (mm parts) ⟨w.heap.size,0,none⟩ n (fun j=>vs.getD j undef) jB jB (fun _=>⟨VU.symm,vs,e,heap_alloc_new w.toWorld _⟩) ZK jE (fun h=>by have:=hw.fin _ h;simp at this) (fun i j hi hj=>by
    rw[ju,th w.heap.size _ vs e (0,0) (heap_alloc_new w.toWorld _)];have:=y6 hi hj;rw[VU]at this;simp[show i*sz+j<vs.size from jB]) (fun i j u hi hu=>by
    have hj:j<sz:=by have:=(List.getElem?_eq_some_iff.1 hu).1;rwa [ve ZK hi]at this
    have hx:=NG g2 (k:=i*sz+j) (u:=u) (by rw[<-hu];exact qH ZK hi hj);rw[Array.toArray_toList]at hx;refine(hx.lh (lz U8 (i:=i*sz+j) (by rw[<-hu];exact qH ZK hi hj))).aY ex.toKeep.bare (nG u))
   rw[VU]at this;exact this
 ·obtain⟨q1,q2⟩:=wm (row:=.aG e sz (mm parts)) hw (hw.none hi _) (fun r' hr=>by rw[hi]at hr;cases hr) ⟨h0,ZK⟩ vs ⟨rfl,by show(mm parts).flatten.length<=_;omega⟩ (fun k a v ha hv=>g2.2 k a v ha (by simpa using hv));refine⟨_,_,_,_,B',hk,q1,?_,q2⟩;have:=ax.rs (w:=((w.to (w.alloc ((Row.aG e sz (mm parts)).obj vs))).gg w.heap.size).name i (Row.aG e sz (mm parts)).fW (.at w.heap.size vs.size (Row.aG e sz (mm parts)).bB)) i (mm parts).length sz (mm parts).length w.heap.size vs.size n (NW.cA _ _ _ _) Xp.symm jB h0;rw[VU]at this ⊢;exact this
def Kg(ne:Bool)(t:US){a b:AV}{va vb:Value}(x y:Operand)(ha:ax w a va)(hb:ax w b vb)(hv:qm P ne t a b H K) :
  ∃r v,(do eqGuard (if ne then .neq else .eql) t x y va vb;binOp (if ne then .neq else .eql) t va vb:Sem Value).run P w.toWorld=.ok v w.toWorld/\K r H/\ax w r v:=by
 have key:∀{n:Nat},ig P t=true->(∀b:Bool,(b=true->n=0)->K (.raw (.bool (ne ^^ b))) H)->(∃A c,va=.slice A n c/\(A=none->n=0))->vb=.slice none 0 0->
   ∃r v,(do eqGuard (if ne then .neq else .eql) t x y va vb;binOp (if ne then .neq else .eql) t va vb:Sem Value).run P w.toWorld=.ok v w.toWorld/\K r H/\ax w r v:=fun{n} h1 h2 h3 h4=>by
  obtain⟨e,hu⟩:=pA h1;obtain⟨A,c,rfl,hA⟩:=h3;subst h4;have he:(Op.equal t (.slice A n c) (.slice none 0 0)).run P w.toWorld=.ok A.isNone w.toWorld:=by refine qO (fun d=>?_);cases A<;>simp[Op.equalIn,run_underlying hu]
  obtain⟨v,h1,h3⟩:=rF (P:=P) (w:=w) (ne:=ne) (t:=t) (x:=x) (y:=y) (fun op=>eqGuard_at_slice _ _ _ _ _ _ _ _) rfl rfl he;exact⟨_,v,h1,h2 A.isNone (fun h=>hA (by simpa using h)),h3⟩
 unfold qm at hv;split at hv
 ·rename_i z sz css _;refine key (n:=css.length) hv.1 (fun b hb=>hv.2 b fun h=>List.length_eq_zero_iff.1 (hb h)) ?_ (df hb);cases ha with
  |gz _ _ A c _=>exact⟨A,c,rfl,fun _=>rfl⟩
  |sl _ _ _ ad c _ _ _ _ _ _ _ _ _=>exact⟨some ad,c,rfl,fun h=>by cases h⟩
 ·rename_i i m sz n;refine key (n:=n) hv.1 hv.2 ?_ (df hb);cases ha with
  |iN _ _ _ A _=>exact⟨A,0,rfl,fun _=>rfl⟩
  |rs _ _ _ _ b t c _ _ _ _=>exact⟨some ⟨b,0,none⟩,c,rfl,fun h=>by cases h⟩
 ·obtain⟨v,h1,h2⟩:=FV (P:=P) (if ne then .neq else .eql) t x y ha hb hv.1;exact⟨_,v,h1,hv.2,h2⟩
-- appends
def ci.append{a b:UM}{x y:UW}(h:ci w a x)(k:ci w b y):ci w (a++b) (x++y):=by
 refine⟨by simp[h.1,k.1],fun i u v hu hv=>?_⟩;rcases Nat.lt_or_ge i a.length with h1|h1
 ·rw[List.getElem?_append_left h1]at hu;rw[List.getElem?_append_left (by rw[<-h.1];exact h1)]at hv;exact h.2 i u v hu hv
 ·rw[List.getElem?_append_right h1]at hu;rw[List.getElem?_append_right (by rw[<-h.1];exact h1),<-h.1]at hv;exact k.2 _ u v hu hv
def AI(w:NW)(sz:Nat)(v:Value)(ys:UK):Prop:=∃A c news,v=.slice A ys.length c/\ci w ys.flatten news/\(0<ys.length->∃ad,A=some ad/\∀(j:Nat) v,news[j]?=some v->w.cell? (ad.add j)=some v)
variable{sz:Nat}
def v8(A:Option Addr)(c:Nat):AI w sz (.slice A 0 c) []:=⟨A,c,[],rfl,⟨rfl,fun i a v h=>by simp at h⟩,fun h=>by simp at h⟩
variable{ys:UK}
def yp{c:Nat}{ad:Addr}(hl:∀y∈ys,y.length=sz)(h:∀i j,i<ys.length->j<sz->∃v,w.cell? (ad.add (i*sz+j))=some v/\∀u,(ys.getD i [])[j]?=some u->ax w u v):AI w sz (.slice (some ad) ys.length c) ys:=by
 have Wb:=gp hl;refine⟨some ad,c,(List.range (ys.length*sz)).map fun k=>(w.cell? (ad.add k)).getD undef,rfl,⟨by simp[Wb],fun k a v ha hv=>?_⟩,fun _=>⟨ad,rfl,fun k v hv=>?_⟩⟩
 ·have hk:k<ys.length*sz:=by have:=(List.getElem?_eq_some_iff.1 ha).1;omega
  obtain⟨i,j,hi,hj,rfl⟩:=u0 hk;rw[qH hl hi hj]at ha;obtain⟨v',h1,h2⟩:=h i j hi hj;simp only[List.getElem?_map,List.getElem?_range hk,Option.map_some,Option.some.injEq,h1,Option.getD_some]at hv;subst hv;exact h2 a ha
 ·have hk:k<ys.length*sz:=by have:=(List.getElem?_eq_some_iff.1 hv).1;simpa using this
  obtain⟨i,j,hi,hj,rfl⟩:=u0 hk;obtain⟨v',h1,h2⟩:=h i j hi hj;simp only[List.getElem?_map,List.getElem?_range hk,Option.map_some,Option.some.injEq,h1,Option.getD_some]at hv;subst hv;exact h1
variable{css:UK}
def sF(hw:aJ w H){i:Nat}{e:US}{b t s:Nat}(hi:H.get i=some (.aG e sz css))(hn:w.nm i css.length=some (.at b t s)){k j:Nat}(hk:k<css.length)(hj:j<sz) :
  s=sz/\(∀cs∈css,cs.length=sz)/\css.length*sz<=t/\∃v,w.cell? ⟨b,k*sz+j,none⟩=some v/\∀u,(css.getD k [])[j]?=some u->ax w u v:=by
 obtain⟨hok,z,hz,Vg⟩:=hw.rows i _ hi;have:z=.at b t s:=by have hz:w.nm i css.length=some z:=hz;rw[hn]at hz;cases hz;rfl
 subst this;obtain⟨hs_,cur,hh,⟨hs,hl⟩,hr⟩:=Vg;have hs_:sz=s:=hs_.symm;subst hs_;have Wb:(Row.aG e sz css).cells.length=css.length*sz:=gp hok.2;have h3:=y6 hk hj;have h4:k*sz+j<cur.size:=jB;refine⟨rfl,hok.2,jB,cur[k*sz+j],?_,fun u hu=>?_⟩
 ·rw[th b _ cur _ (0,0) hh];simp[h4]
 ·refine hr (k*sz+j) u _ ?_ (by simp[h4]);show css.flatten[k*sz+j]?=some u;rw[qH hok.2 hk hj];exact hu
def Au(hw:aJ w H){x:AV}{vx:Value}(hx:ax w x vx){c:Prop}(h:ur H x=some (c,ys))(hc:c)(hg:Good sz ys):AI w sz vx ys:=by
 unfold ur at h;split at h
 ·rename_i xx sz' css _;cases h;cases hx with
  |gz=>exact v8 _ _
  |sl _ _ _ ad c vs hn Wa hx U' hb hH D' hr=>
   have hz:sz'=sz:=by rw[<-U' (ys[0]) (List.getElem_mem hn),(hg _ (List.getElem_mem hn)).1]
   subst hz;exact yp U' fun i j hi hj=>⟨_,D' i j hi hj,fun u hu=>(hr i j u hi hu).mG⟩
 ·rename_i i m sz' n;split at h
  ·rename_i e sz2 css hi;cases h;obtain⟨rfl,rfl,hn⟩:=hc;cases hx with
   |iN _ _ _ A Vd=>rw[List.take_zero];exact v8 _ _
   |rs _ _ _ _ b t c Vd Wa U6 Wp=>
    have O':(css.take n).length=n:=by simp;omega
    by_cases h0:n=0
    ·subst h0;rw[List.take_zero];exact v8 _ _
    have hz:sz2=sz:=by obtain⟨_,Vj,_⟩:=sF hw hi Vd (k:=0) (j:=0) jB Wp;have h1:(css.take n)[0]' jB∈css.take n:=List.getElem_mem _;rw[<-Vj _ (List.mem_of_mem_take h1),(hg _ h1).1]
    subst hz;have:=yp (w:=w) (sz:=sz2) (c:=c) (ys:=css.take n) (ad:=⟨b,0,none⟩) (fun y hy=>(hg y hy).1) fun i' j VE hj=>by obtain⟨_,_,_,v,h1,h2⟩:=sF hw hi Vd (k:=i') (j:=j) jB hj;refine⟨v,by rw[ju,Nat.zero_add];exact h1,fun u hu=>h2 u ?_⟩;rw[<-hu];simp[List.getElem?_take,show i'<n from jB]
    rw[O']at this;exact this
  ·cases h
 ·rename_i i m sz' o n;split at h
  ·rename_i e sz2 css hi;cases h;obtain⟨rfl,rfl,hn⟩:=hc;have O':((css.drop o).take n).length=n:=by simp;omega
   cases hx with
   |jx _ _ _ _ A=>rw[List.take_zero];exact v8 _ _
   |rv _ _ _ _ _ b t c Vd U6=>
    by_cases h0:n=0
    ·subst h0;rw[List.take_zero];exact v8 _ _
    have h1:((css.drop o).take n)[0]' jB∈(css.drop o).take n:=List.getElem_mem _;obtain⟨hok,_⟩:=hw.rows i _ hi;have hz:sz2=sz:=by rw[<-hok.2 _ (List.mem_of_mem_drop (List.mem_of_mem_take h1)),(hg _ h1).1]
    subst hz;have:=yp (w:=w) (sz:=sz2) (c:=c) (ys:=(css.drop o).take n) (ad:=⟨b,o*sz2,none⟩) (fun y hy=>(hg y hy).1) fun i' j VE hj=>by obtain⟨_,_,_,v,h1,h2⟩:=sF hw hi Vd (k:=o+i') (j:=j) jB hj;refine⟨v,by rw[ju,<-Nat.add_assoc,<-Nat.add_mul];exact h1,fun u hu=>h2 u ?_⟩;rw[<-hu];simp[List.getElem?_take,show i'<n from jB]
    rw[O']at this;exact this
  ·cases h
 ·cases h;have:=df hx;subst this;exact v8 _ _
 ·cases h
def sW{e:US}(he:iu P t=some e):P.underlying t=some (.slice e):=by unfold iu at he;split at he<;>simp_all
def tW{e:US}{zs:UW}(U':dh P e=some sz)(hz:dR P e=some zs)(hl:zs.length=sz):∃i z,P.info? e=some i/\i.size=sz/\i.zero=some z/\z.cells.size=sz/\ku P e=i.bytes:=by
 unfold dh at U';cases hi:P.info? e with
 |none=>rw[hi]at U';cases U'
 |some i=> rw[hi]at U';unfold dR at hz;rw[hi]at hz;simp only[Option.bind_some,Option.map_eq_some_iff]at hz;obtain⟨z,VK,YB⟩:=hz;refine⟨i,z,rfl,by simpa using U',VK,?_,by simp[ku,hi]⟩;rw[<-hl,<-YB];simp
def tc(hw:aJ w H){i:Nat}{e:US}{cap:Nat}{cO:UW}{rest:UU}(h0:0<sz)(O':∀cs∈css,cs.length=sz)(Vo:ci w css.flatten cO)(XU:css.length<=cap)(Vl:rest.size=(cap-css.length)*sz)
  (YM:w.nm i css.length=none) (XO:∀r,H.get i=some r->r.fW<=css.length) :
  ∃w':NW,w'.toWorld=w.drew.alloc (.cells (cO.toArray++rest) e)/\aJ w' (H.put i (.aG e sz css))/\Ext w H w' (H.put i (.aG e sz css))/\ax w' (.rs i css.length sz css.length) (.slice (some ⟨w.heap.size,0,none⟩) css.length cap):=by
 have Wb:=gp O';have Zn:cO.length=css.length*sz:=by rw[<-Vo.1,Wb]
 have U':(cO.toArray++rest).size=cap*sz:=by simp only[Array.size_append,List.size_toArray,Zn,Vl];rw[<-Nat.add_mul];congr 1;omega
 have U6:=Nat.mul_le_mul_right sz XU;obtain⟨g1,g2⟩:=wm (row:=.aG e sz css) hw.drew YM XO ⟨h0,O'⟩ (cO.toArray++rest) ⟨rfl,by show css.flatten.length<=_;omega⟩ (fun k a v ha hv=>by
  have hi:k<cO.length:=by rw[<-Vo.1];exact(List.getElem?_eq_some_iff.1 ha).1
  rw[Array.getElem?_append_left (by simpa using hi)]at hv;exact(Vo.2 k a v ha (by simpa using hv)).ext (Ext.drew w H))
 refine⟨_,rfl,g1,(Ext.drew w H).trans g2,?_⟩;exact ax.rs i css.length sz css.length w.heap.size (cO.toArray++rest).size cap (NW.cA _ _ _ _) U'.symm XU h0
def TC{a x:AV}(h:zz P t a x H K):qw P t t a x H K:=by
 intro w va vx ty hw W7 Z8;unfold zz at h;split at h;rotate_left
 ·exact h.elim
 rename_i e he;split at h;rotate_left
 ·exact h.elim
 rename_i sz zs c ys Wz Yn Xq;obtain⟨⟨Xl,h0,hc,hg⟩,h⟩:=h;have hu:=sW he;obtain⟨i,z,hi,Vt,Xd,YA,YQ⟩:=tW Wz Yn Xl;obtain⟨A,cx,news,rfl,Vv,V7⟩:=Au hw Z8 Xq hc hg;have Wb:ys.flatten.length=ys.length*sz:=gp fun y hy=>(hg y hy).1
 have WS:news.length=ys.length*sz:=by rw[<-Vv.1,Wb]
 have X7:∀m,(Builtin.zeroCells z.cells m).size=m*sz:=fun m=>by simp[Builtin.zeroCells,YA]
 have W8:∀need old,need<=grownCap w.toWorld need old e:=fun need old=>by unfold grownCap Question.cut;simp
 have WD:cQ ys.flatten=true:=by simp only[cQ,List.all_eq_true];intro u Yo;obtain⟨y,hy,Zf⟩:=List.mem_flatten.1 Yo;have:=(hg y hy).2;simp only[cQ,List.all_eq_true]at this;exact this u Zf
 have hf0:∀A:Option Addr,ys.length=0->(Builtin.firstCells i.size 0 (.slice A 0 cx)).run P w.toWorld=.ok #[] w.toWorld:=fun A _=>by cases A<;>simp[Builtin.firstCells,loadCells,loadCellsFrom]
 rw[YQ]at h;unfold Be at h;split at h
 ·-- a row of one's own
  rename_i d m sz' n;split at h;rotate_left
  ·exact h.elim
  rename_i e' sz2 css hd;obtain⟨⟨rfl,rfl,rfl,rfl,hax,V8,h63⟩,hk⟩:=h;have hk:=Sj hk;have hok:=(hw.rows d _ hd).1;have Vm:∀cs∈dz css n ys,cs.length=sz2:=fun cs h=>by
   unfold dz at h;rcases List.mem_append.1 h with h|h
   ·rcases List.mem_append.1 h with h|h
    ·exact hok.2 _ (List.mem_of_mem_take h)
    ·exact(hg cs h).1
   ·exact hok.2 _ (List.mem_of_mem_drop h)
  have WY:=gp hok.2;have Ve:=uQ ys hax;cases W7 with
  |iN _ _ _ A Vd=>
   -- nowhere yet
   obtain⟨_,z',Vz,Vg⟩:=hw.rows d _ hd;have:z'=.nil:=by have Vz:w.nm d css.length=some z':=Vz;rw[Vd]at Vz;cases Vz;rfl
   subst this;obtain⟨e2,sz3,Vg⟩:=Vg;cases Vg;simp only[dz,List.take_nil,List.drop_nil,List.append_nil,List.nil_append,List.length_nil,Nat.zero_add,Nat.zero_max]at hk Ve;by_cases hy:ys.length=0
   ·have:ys=[]:=List.length_eq_zero_iff.1 hy;subst this;refine⟨w,_,_,.slice A 0 0,?_,hk,?_,.iN _ _ _ _ Vd,?_⟩
    ·cases A<;>simp[Builtin.append_,run_underlying hu,sizeOf,typeInfo,hi,Builtin.lenOf,hf0,storeCells]
    ·refine{ hw with rows:=fun j r hj=>?_,di:=fun j q z hz=>?_ }
     ·rw[Hp.bk]at hj;split at hj
      ·rename_i e;subst e;exact hw.rows j r (by rw[hd];exact hj)
      ·exact hw.rows j r hj
     ·rw[Hp.bk];split
      ·rename_i e;subst e;obtain⟨r,g1,g2⟩:=hw.di j q z hz;rw[hd]at g1;cases g1;exact⟨_,rfl,g2⟩
      ·exact hw.di j q z hz
    ·exact{ Ext.refl w H with base:=rfl }
   ·obtain⟨ad,rfl,D'⟩:=V7 jB;obtain⟨w',e1,g1,g2,g3⟩:=tc (i:=d) (e:=e') (cap:=grownCap w.toWorld ys.length 0 e') (css:=ys) (rest:=Builtin.zeroCells z.cells (grownCap w.toWorld ys.length 0 e'-ys.length)) hw h0 (fun y hy=>(hg y hy).1) Vv (W8 _ _) (X7 _) (hw.later hd (by show([]:UK).length<_;simp;omega)) (fun r hr=>by rw[hd]at hr;cases hr;exact Nat.zero_le _);refine⟨w',_,_,_,?_,hk,by simpa using g1,by simpa using g3,by simpa using g2⟩;rw[e1];cases A with
    |none=> have:=run_append_nil w.toWorld t ty e' i z hu hi Xd ad ys.length cx news (by rw[Vt];exact WS) D' jB (by simp at h63;omega) (by simp at V8;omega);exact this
    |some b=>
     have:=run_append_grow (P:=P) w.toWorld t ty e' i z hu hi Xd b 0 0 [] jE (fun j v h=>by simp at h) ad ys.length cx news (by rw[Vt];exact WS) D' jB (by simp at h63;simp;omega) (by rw[Nat.zero_add,nextslicecap_zero jB];simp at V8;omega)
     simpa using this
  |rs _ _ _ _ b t' cap Vd Wt U6 Wp=>
   obtain⟨_,z',Vz,Vg⟩:=hw.rows d _ hd;have:z'=.at b t' sz2:=by have Vz:w.nm d css.length=some z':=Vz;rw[Vd]at Vz;cases Vz;rfl
   subst this;obtain⟨_,cur,hh,⟨VV,U4⟩,Xr⟩:=Vg;have hh:w.heap[b]?=some (.cells cur e' (0,0)):=hh;have U4:css.flatten.length<=t':=U4;have XU:css.length<=cap:=by rw[WY,<-Wt]at U4;exact Nat.le_of_mul_le_mul_right U4 h0
   have WM:(css.take n).flatten.length=n*sz2:=by rw[gp fun c hc=>hok.2 c (List.mem_of_mem_take hc),List.length_take,Nat.min_eq_left hax]
   have haz:(css.take n).flatten=css.flatten.take (n*sz2):=by
    have:css.flatten=(css.take n).flatten++(css.drop n).flatten:=by rw[<-List.flatten_append,List.take_append_drop]
    rw[this,<-WM,List.take_left'];rfl
   by_cases VB:n+ys.length<=cap
   ·-- in place
    have Wo:n*sz2+ys.flatten.length<=t':=by rw[Wb,<-Nat.add_mul,<-Wt];exact Nat.mul_le_mul_right _ VB
    obtain⟨w',B',g1,g2,g3⟩:=sx (P:=P) (off:=n*sz2) (r':=.aG e' sz2 (dz css n ys)) hw hd Vd Vv WD Wo rfl rfl rfl rfl (by show css.length<=(dz css n ys).length;rw[Ve];omega) ⟨h0,Vm⟩ (by show(dz css n ys).flatten.length<=t';rw[gp Vm,Ve,<-Wt];exact Nat.mul_le_mul_right _ (Nat.max_le.2 ⟨XU,VB⟩)) (fun p u hp=>by
     have hp:(dz css n ys).flatten[p]?=some u:=hp;unfold dz at hp;rw[List.flatten_append,List.flatten_append]at hp;show if _ then _ else css.flatten[p]?=some u
     rcases Nat.lt_or_ge p (n*sz2)with h|h
     ·rw[jN];rw[List.getElem?_append_left (by simp only[List.length_append];omega),List.getElem?_append_left jB,haz,List.getElem?_take,if_pos h]at hp;exact hp
     ·rcases Nat.lt_or_ge p (n*sz2+ys.flatten.length)with h'|h'
      ·rw[if_pos ⟨h,h'⟩];rw[List.getElem?_append_left (by simp only[List.length_append];omega),List.getElem?_append_right jB,WM]at hp;exact hp
      ·rw[jN];rw[List.getElem?_append_right (by simp only[List.length_append];omega)]at hp;have e2:css.flatten=(css.take (n+ys.length)).flatten++(css.drop (n+ys.length)).flatten:=by rw[<-List.flatten_append,List.take_append_drop]
       have I':=(List.getElem?_eq_some_iff.1 hp).1;have hnk:n+ys.length<=css.length:=by
        rcases Nat.lt_or_ge css.length (n+ys.length)with h6|h6
        ·rw[List.drop_eq_nil_of_le jB]at I';simp at I'
        ·exact h6
       have e3:(css.take (n+ys.length)).flatten.length=n*sz2+ys.flatten.length:=by rw[gp fun c hc=>hok.2 c (List.mem_of_mem_take hc),List.length_take,Nat.min_eq_left hnk,Wb,Nat.add_mul]
       rw[e2,List.getElem?_append_right jB,e3];simp only[List.length_append,WM]at hp;exact hp)
    refine⟨w',_,_,.slice (some ⟨b,0,none⟩) (n+ys.length) cap,?_,hk,g1,?_,g2⟩
    ·have hf:(Builtin.firstCells i.size ys.length (.slice A ys.length cx)).run P w.toWorld=.ok news.toArray w.toWorld:=by
      by_cases h0:ys.length=0
      ·have:news=[]:=by have:=WS;rw[h0,Nat.zero_mul]at this;simpa using this
       subst this;rw[h0];cases A<;>simp[Builtin.firstCells,loadCells,loadCellsFrom]
      ·obtain⟨ad,rfl,D'⟩:=V7 jB;exact run_firstCells_some (P:=P) w.toWorld i.size ys.length ad ys.length cx news (by rw[Vt];exact WS) D'
     have Yp:(⟨b,0,none⟩:Addr).add (n*sz2)=⟨b,n*sz2,none⟩:=by rw[ju];simp
     rw[Vt]at hf;simp[Builtin.append_,run_underlying hu,sizeOf,typeInfo,hi,Builtin.lenOf,VB,hf,Vt,Yp,B']
    ·have g3:w'.nm d (max css.length (n+ys.length))=some (.at b t' sz2):=by rw[<-Ve];exact g3
     exact .rs d _ sz2 _ b t' cap g3 Wt VB Wp
   ·-- a new row
    have Wg:0<ys.length:=jB;obtain⟨ad,rfl,D'⟩:=V7 Wg;have X8:dz css n ys=css.take n++ys:=by unfold dz;rw[List.drop_eq_nil_of_le jB,List.append_nil]
    have XT:max css.length (n+ys.length)=n+ys.length:=Nat.max_eq_right jB;rw[X8]at hk Vm Ve;rw[XT]at hk Ve;have hold:ci w (css.take n).flatten (cur.toList.take (n*sz2)):=by
     refine⟨by simp only[List.length_take,Array.length_toList];have:=Nat.mul_le_mul_right sz2 U6;omega,fun k a v ZL hv=>?_⟩;rw[List.getElem?_take]at hv;split at hv
     ·rename_i hkn;rw[haz,List.getElem?_take,if_pos hkn]at ZL;exact Xr k a v ZL (by simpa using hv)
     ·cases hv
    have Vj:=hold.append Vv;rw[<-List.flatten_append]at Vj;obtain⟨w',e1,g1,g2,g3⟩:=tc (i:=d) (e:=e') (cap:=grownCap w.toWorld (n+ys.length) cap e') (css:=css.take n++ys) (rest:=Builtin.zeroCells z.cells (grownCap w.toWorld (n+ys.length) cap e'-(n+ys.length))) hw h0 Vm Vj (by rw[Ve];exact W8 _ _) (by rw[Ve];exact X7 _) (hw.later hd (by show css.length<_;rw[Ve];omega)) (fun r hr=>by rw[hd]at hr;cases hr;show css.length<=_;rw[Ve];omega);rw[Ve]at g3;refine⟨w',_,_,_,?_,hk,g1,g3,g2⟩;rw[e1];have:=run_append_grow (P:=P) w.toWorld t ty e' i z hu hi Xd ⟨b,0,none⟩ n cap (cur.toList.take (n*sz2)) (by rw[<-hold.1,WM,Vt]) (fun k v hv=>by
     rw[List.getElem?_take]at hv;split at hv
     ·rw[ju,th b _ cur e' (0,0) hh,Nat.zero_add];simpa using hv
     ·cases hv) ad ys.length cx news (by rw[Vt];exact WS) D' jB jB (growslice_fits jB jB)
    rw[this];congr 3
    apply Array.ext';simp
 ·-- nothing
  obtain⟨⟨V8,h63⟩,d,hd,hk⟩:=h;have:=df W7;subst this;by_cases hy:ys.length=0
  ·have:ys=[]:=List.length_eq_zero_iff.1 hy;subst this;obtain⟨g1,g2⟩:=wP hw hd e h0;refine⟨_,_,_,.slice none 0 0,?_,hk,g1,.iN _ _ _ _ (NW.cA _ _ _ _),g2⟩;have:(Builtin.append_ #[t,t] ty #[.slice none 0 0,.slice A 0 cx]).run P w.toWorld=.ok (.slice none 0 0) w.toWorld:=by
    simp[Builtin.append_,run_underlying hu,sizeOf,typeInfo,hi,Builtin.lenOf,hf0,storeCells]
   exact this
  ·obtain⟨ad,rfl,D'⟩:=V7 jB;obtain⟨w',e1,g1,g2,g3⟩:=tc (i:=d) (e:=e) (cap:=grownCap w.toWorld ys.length 0 e) (css:=ys) (rest:=Builtin.zeroCells z.cells (grownCap w.toWorld ys.length 0 e-ys.length)) hw h0 (fun y hy=>(hg y hy).1) Vv (W8 _ _) (X7 _) (hw.none hd _) (fun r hr=>by rw[hd]at hr;cases hr);refine⟨w',_,_,_,?_,hk,g1,g3,g2⟩;rw[e1];exact run_append_nil w.toWorld t ty e i z hu hi Xd ad ys.length cx news (by rw[Vt];exact WS) D' jB jB jB
 ·-- a literal
  rename_i sz' css _;obtain⟨⟨rfl,⟨V8,h63⟩,hor⟩,d,hd,hk⟩:=h;have Ve:(css++ys).length=css.length+ys.length:=List.length_append;cases W7 with
  |gz _ _ A' c' hx=>
   have Wu:=hx rfl;subst Wu;by_cases hy:ys.length=0
   ·have:ys=[]:=List.length_eq_zero_iff.1 hy;subst this;obtain⟨g1,g2⟩:=wP hw hd e h0;refine⟨_,_,_,.slice A' 0 0,?_,hk,g1,.iN _ _ _ _ (NW.cA _ _ _ _),g2⟩;have:(Builtin.append_ #[t,t] ty #[.slice A' 0 0,.slice A 0 cx]).run P w.toWorld=.ok (.slice A' 0 0) w.toWorld:=by
     cases A'<;>simp[Builtin.append_,run_underlying hu,sizeOf,typeInfo,hi,Builtin.lenOf,hf0,storeCells]
    exact this
   ·obtain⟨ad,rfl,D'⟩:=V7 jB;obtain⟨w',e1,g1,g2,g3⟩:=tc (i:=d) (e:=e) (cap:=grownCap w.toWorld ys.length 0 e) (css:=ys) (rest:=Builtin.zeroCells z.cells (grownCap w.toWorld ys.length 0 e-ys.length)) hw h0 (fun y hy=>(hg y hy).1) Vv (W8 _ _) (X7 _) (hw.none hd _) (fun r hr=>by rw[hd]at hr;cases hr);refine⟨w',_,_,_,?_,hk,by simpa using g1,by simpa using g3,by simpa using g2⟩;rw[e1];cases A' with
    |none=>exact run_append_nil w.toWorld t ty e i z hu hi Xd ad ys.length cx news (by rw[Vt];exact WS) D' jB (by simp at h63;omega) (by simp at V8;omega)
    |some b=>
     have:=run_append_grow (P:=P) w.toWorld t ty e i z hu hi Xd b 0 0 [] jE (fun j v h=>by simp at h) ad ys.length cx news (by rw[Vt];exact WS) D' jB (by simp at h63;simp;omega) (by rw[Nat.zero_add,nextslicecap_zero jB];simp at V8;omega)
     simpa using this
  |sl _ _ _ b c' vs hn Wa hx U' hb hH Z9 hr=>
   have Vm:∀cs∈css++ys,cs.length=sz':=fun cs h=>by
    rcases List.mem_append.1 h with h|h
    ·exact U' _ h
    ·exact(hg cs h).1
   obtain⟨YC,cur,el,XR⟩:=hx rfl;subst YC;have WY:=gp U';have hold:ci w css.flatten ((List.range (css.length*sz')).map vs):=by
    refine⟨by simp[WY],fun k a v ZL hv=>?_⟩;have hk:k<css.length*sz':=by have:=(List.getElem?_eq_some_iff.1 ZL).1;omega
    obtain⟨i',j,VE,hj,rfl⟩:=u0 hk;rw[qH U' VE hj]at ZL;simp only[List.getElem?_map,List.getElem?_range hk,Option.map_some,Option.some.injEq]at hv;subst hv;exact(hr i' j a VE ZL).mG
   by_cases hy:ys.length=0
   ·
    omega
   ·obtain⟨ad,rfl,D'⟩:=V7 jB;have Vj:=hold.append Vv;rw[<-List.flatten_append]at Vj;obtain⟨w',e1,g1,g2,g3⟩:=tc (i:=d) (e:=e) (cap:=grownCap w.toWorld (css.length+ys.length) css.length e) (css:=css++ys) (rest:=Builtin.zeroCells z.cells (grownCap w.toWorld (css.length+ys.length) css.length e-(css.length+ys.length))) hw h0 Vm Vj (by rw[Ve];exact W8 _ _) (by rw[Ve];exact X7 _) (hw.none hd _) (fun r hr=>by rw[hd]at hr;cases hr);rw[Ve]at g3;refine⟨w',_,_,_,?_,hk,g1,g3,g2⟩;rw[e1];have:=run_append_grow (P:=P) w.toWorld t ty e i z hu hi Xd b css.length css.length ((List.range (css.length*sz')).map vs) (by rw[<-hold.1,WY,Vt]) (fun k v hv=>by
     have hk:k<css.length*sz':=by have:=(List.getElem?_eq_some_iff.1 hv).1;simpa using this
     obtain⟨i',j,VE,hj,rfl⟩:=u0 hk;simp only[List.getElem?_map,List.getElem?_range hk,Option.map_some,Option.some.injEq]at hv;subst hv;exact Z9 i' j VE hj) ad ys.length cx news (by rw[Vt];exact WS) D' jB jB (growslice_fits jB jB)
    rw[this];congr 3
    apply Array.ext';simp
 ·exact h.elim
end
section
variable {P:UY}{H:Hp}
variable{w:NW}
def zK(l:UW):ci w (l.map .raw) l:=⟨jE,fun i a v ha hv=>by simp only[List.getElem?_map,Option.map_eq_some_iff]at ha;obtain⟨x,hx,rfl⟩:=ha;rw[hx]at hv;cases hv;exact .raw _⟩
variable{f:FuncId}
def TY{a:AV}{v:Value}{first captured:UM}(h:ax w a v)(hf:BH a=some (f,first,captured)):∃x y:UU,v=.func (.func f) x y/\ci w first x.toList/\ci w captured y.toList:=by
 unfold BH at hf;split at hf
 ·rename_i f x y;simp only[Option.some.injEq,Prod.mk.injEq]at hf;obtain⟨rfl,rfl,rfl⟩:=hf;exact⟨x,y,df h,zK _,zK _⟩
 ·simp only[Option.some.injEq,Prod.mk.injEq]at hf;obtain⟨rfl,rfl,rfl⟩:=hf;cases h with
  |dW _ _ vs hl hr=>exact⟨#[],vs,rfl,⟨rfl,fun i a v h=>by simp at h⟩,⟨by simpa using hl,fun i a v h1 h2=>hr i a v h1 (by simpa using h2)⟩⟩
 ·simp only[Option.some.injEq,Prod.mk.injEq]at hf;obtain⟨rfl,rfl,rfl⟩:=hf;cases h with
  |bd _ _ vs hl hr=>exact⟨vs,#[],rfl,⟨by simpa using hl,fun i a v h1 h2=>hr i a v h1 (by simpa using h2)⟩,⟨rfl,fun i a v h=>by simp at h⟩⟩
 ·cases hf
def Fl{l:UM}{vs:UW}(h:ci w l vs):bs w l vs.toArray:=⟨by simpa using h.1,fun i a v ha hv=>h.2 i a v ha (by simpa using hv)⟩
def Pf  (h : aS P f = true) : ∃ fn, P.funcs[f]? = some fn ∧ fn.body.isSome = true ∧ (fn.name == "runtime.NumGoroutine") = false := by
 unfold aS at h;split at h
 ·rename_i fn hf;simp only[Bool.and_eq_true,Bool.not_eq_true']at h;exact⟨fn,hf,h.1,h.2⟩
 ·cases h
variable{R:UJ}
def JD{xs:UU}{l:UM}{o:Oper}(h:(aS P f=true/\dm P f l H R)\/uf P f l H R){a:Act}{next:Act->World->Prop}{Q:Exit->Act->World->Prop}(hcf:(execOp a.eval o).run P w.toWorld=(callFunc f xs).run P w.toWorld)(hw:aJ w H)(Vo:bs w l xs)
  (hn:∀(v:Value) (r:AV) (w':NW) (H':Hp),R r H'->aJ w' H'->ax w' r v->Ext w H w' H'->next (a.put o.dst v) w'.toWorld):Oper.wp P o a w.toWorld next Q:=by
 rcases h with⟨Vp,hc⟩|Vx
 ·obtain⟨fn,VY,hb,XC⟩:=Pf Vp;have B':(execOp a.eval o).run P w.toWorld=.ok (.enter f xs) w.toWorld:=by
   have VQ:fn.body.isNone=false:=by cases hbb:fn.body<;>simp_all
   rw[hcf];simp only[callFunc,Sem.run_bind,run_program,Result.andThen_ok,VY,XC,VQ,Bool.false_eq_true,if_false,Sem.run_pure]
  simp only[Oper.wp,B',Oper.upon_enter];refine(hc w _ hw Vo).mono ?_;rintro e W ⟨v,r,H',w',rfl,rfl,hR,g1,g2,g3⟩;exact hn v r w' H' hR g1 g2 g3
 ·obtain⟨v,w',r,H',B',hR,g1,g2,g3⟩:=Vx w _ hw Vo;rw[<-hcf]at B';simp only[Oper.wp,B',Oper.upon];exact hn v r w' H' hR g1 g2 g3
variable{as:Array Operand}{ts:Array US}{dst:Option Tmp}{after:Array Edge}{guard:Option (Nat×Bool)}
def ug{f:AV}{args:UM}{fo:Operand}{ty:US}{pos:String}{ev:UT}(XK:ev fo=f)(ZM:as.toList.map ev=args)
  (h:fh P f args H R) {w:NW} {a:Act} {next:Act->World->Prop} {Q:Exit->Act->World->Prop} (hw:aJ w H) (hr:∀x,ax w (ev x) (a.eval x))
  (hn:∀(v:Value) (r:AV) (w':NW) (H':Hp),R r H'->aJ w' H'->ax w' r v->Ext w H w' H'->next (a.put dst v) w'.toWorld):Oper.wp P ⟨dst,.call ⟨.value fo,as,ts⟩,ty,pos,after,guard⟩ a w.toWorld next Q:=by
 unfold fh at h;split at h
 ·rename_i f first captured hf
  obtain⟨x,y,hv,hx,hy⟩:=TY (XK ▸ hr fo) hf;have Wf:as.map a.eval=(as.toList.map a.eval).toArray:=by rw[<-Array.toList_map,Array.toArray_toList]
  refine JD h ?_ hw (Fl ((hx.append (ZM ▸ vO hr as.toList)).append hy)) hn;have e:x++(as.toList.map a.eval).toArray++y=(x.toList++as.toList.map a.eval++y.toList).toArray:=by apply Array.ext';simp
  simp only[execOp,resolve,hv,Deferred.ofValue,pure_bind,invoke,Wf,e]
 ·exact h.elim
def Tp{t:US}{m:String}(h:oA P t m=some f)(v:Value)(W:World):(method (P.types.size+Made.depth) t v m).run P W=.ok (f,v) W:=by
 unfold oA at h;split at h;rotate_left
 ·cases h
 rename_i ti e ht hu;split at h;rotate_left
 ·cases h
 rename_i r hr;split at h;rotate_left
 ·cases h
 rename_i hp;split at h;rotate_left
 ·cases h
 rename_i g hf;cases h;have XR:r.path.toList=[]:=by have:=Array.isEmpty_iff.1 hp;rw[this]
 obtain⟨n,hn⟩:∃n,P.types.size+Made.depth=n+1:=⟨P.types.size+Made.depth-1,by have hd:=(by decide:Made.depth≠0);omega⟩;rw[hn];unfold method;simp only[Sem.run_bind,run_typeInfo W ht,Result.andThen_ok,hr,XR,follow,Sem.run_pure,hf,receiverAt,run_underlying hu,Place.get]
def zj{x:AV}{m:String}{args:UM}{fo:Operand}{ty:US}{pos:String}{ev:UT}(XK:ev fo=x)(ZM:as.toList.map ev=args)
  (h:qF P x m args H R) {w:NW} {a:Act} {next:Act->World->Prop} {Q:Exit->Act->World->Prop} (hw:aJ w H) (hr:∀x,ax w (ev x) (a.eval x))
  (hn:∀(v:Value) (r:AV) (w':NW) (H':Hp),R r H'->aJ w' H'->ax w' r v->Ext w H w' H'->next (a.put dst v) w'.toWorld):Oper.wp P ⟨dst,.call ⟨.invoke fo m,as,ts⟩,ty,pos,after,guard⟩ a w.toWorld next Q:=by
 unfold qF at h;split at h;rotate_left
 ·exact h.elim
 rename_i t b;split at h;rotate_left
 ·exact h.elim
 rename_i f hf;have hx:=hr fo;rw[XK]at hx;generalize hv:a.eval fo=v at hx;cases hx with
 |iQ _ _ u hu=>
  have Wf:as.map a.eval=(as.toList.map a.eval).toArray:=by rw[<-Array.toList_map,Array.toArray_toList]
  have h':(aS P f=true/\dm P f (b::args) H R)\/uf P f (b::args) H R:=by
   have:fh P (.raw (.func (.func f) #[] #[])) (b::args) H R=((aS P f=true/\dm P f (b::args) H R)\/uf P f (b::args) H R):=by show((aS P f=true/\dm P f ([]++(b::args)++[]) H R)\/uf P f ([]++(b::args)++[]) H R)=_;rw[List.nil_append,List.append_nil]
   rw[<-this];exact h
  have hl:ci w (b::args) (u::as.toList.map a.eval):=ci.append (a:=[b]) (x:=[u]) ⟨rfl,fun i p q hp hq=>by
   match i with
   |0=>cases hp;cases hq;exact hu
   |i+1=>simp at hp⟩ (ZM ▸ vO hr as.toList)
  refine JD h' (xs:=(u::as.toList.map a.eval).toArray) ?_ hw (Fl hl) hn;have e0:(#[Value.iface t u]++as.map a.eval)[0]?=some (.iface t u):=by rw[Array.getElem?_append_left (by show 0<1;decide)];rfl
  have e1:(#[Value.iface t u]++as.map a.eval).extract 1 (#[Value.iface t u]++as.map a.eval).size=as.map a.eval:=jE;have e2:#[u]++as.map a.eval=(u::as.toList.map a.eval).toArray:=by apply Array.ext';simp
  simp only[execOp,resolve,pure_bind,invoke,hv,e0,e1,callMethod,Sem.run_bind,run_program,Result.andThen_ok,Tp hf,e2]
end
variable{P:UY}{args':UM}
@[congr] theorem j1x{f f':AV}{args:UM}(h1:f=f')(h2:args=args'):fh P f args H K=fh P f' args' H K:=by rw[h1,h2]
variable{a':AV}
@[congr] theorem jxC{a:AV}{m:String}{args:UM}(h1:a=a')(h2:args=args'):qF P a m args H K=qF P a' m args' H K:=by rw[h1,h2]
variable{t:US}
@[congr] theorem jyL:nS P H t K=nS P H t K:=rfl
@[congr] theorem j2J{x x':AV}(h:x=x'):rf H t x K=rf H t x' K:=by rw[h]
@[congr] theorem jva{t':US}{a x x':AV}(h1:a=a')(h2:x=x'):qw P t t' a x H K=qw P t t' a' x' H K:=by rw[h1,h2]
@[congr] theorem jsg{b:Builtin}{ts ts':List US}{as as':UM}(h1:ts=ts')(h2:as=as'):pO P b ts as H K=pO P b ts' as' H K:=by rw[h1,h2]
def ll(ops:Array Oper)(F:UM)(j:Nat)(want:Bool):Option Bool:=match (ops[j]?).bind (·.dst)with
 |some d=>match F[d]? with
  |some (.raw (.bool b))=>some (b == want)
  |some (.gd g (.raw (.bool b)))=>some (g && (b == want))
  |_=>none
 |none=>none
def bG(F:UM)(x:Operand):AV:=(iT (cn F x)).2
def gq(F:UM)(o:Op):Bool:=o.operands.toList.all fun x=>(iT (cn F x)).1
def iM:Op->Bool
 |.call { callee:=.invoke ..,.. }=>true
 |.binOp .eql ..=>true
 |.binOp .neq ..=>true
 |o=>dt o
def eO(P:UY)(F:UM)(H:Hp)(g:Bool)(K:AV->Prop):Op->Prop
 |.call { callee:=.value f,args,argTypes }=>∃r,(g=true->gq F (.call ⟨.value f,args,argTypes⟩)=true/\fh P (bG F f) (args.toList.map (bG F)) H fun r' H'=>r'=r/\H'=H)/\K (.gd g r)
 |.call { callee:=.invoke f m,args,argTypes }=>∃r,(g=true->gq F (.call ⟨.invoke f m,args,argTypes⟩)=true/\qF P (bG F f) m (args.toList.map (bG F)) H fun r' H'=>r'=r/\H'=H)/\K (.gd g r)
 |.pick c a b=>(g=true->(iT (cn F c)).1=true/\(oa (bG F c) (cn F a) (cn F b)).1)/\K (.gd g (oa (bG F c) (cn F a) (cn F b)).2)
 |o=>if iM o then(g=true->gq F o=true/\(vq P (bG F) H o).1)/\K (.gd g (vq P (bG F) H o).2)else False
def iU:Op->Bool
 |.call { callee:=.value _,.. }=>true
 |_=>false
def lq(P:UY)(ops:Array Oper)(K:UI):List Oper->UI
 |[],F,H=>K F H
 |o::rest,F,H=>match o.guard with
  |none=>vc P (cn F) H o.type (fun r H'=>lq P ops K rest (cM F o.dst r) H') o.op
  |some (j,want)=>match ll ops F j want with
   |some b=>if iU o.op || iM o.op then eO P F H b (fun r=>lq P ops K rest (cM F o.dst r) H) o.op
    else(b=true->vc P (cn F) H o.type (fun r H'=>lq P ops K rest (cM F o.dst r) H') o.op)/\(b=false->lq P ops K rest (cM F o.dst .any) H)
   |none=>False
section
variable {P:UY}{ops:Array Oper}{F:UM}{H:Hp}
variable{K:UI}{w:NW}{tm:UU}
def yf{o:Oper}{ev:UT}(h:vc P ev H o.type (fun r H'=>K (cM F o.dst r) H') o.op){Q:Exit->Act->World->Prop}{next:Act->World->Prop}
  (h1:aJ w H) (h2:bs w F tm) (hr:∀x,ax w (ev x) ((Act.mk tm []).eval x))
  (hn:∀VH (w':NW) F' H',K F' H'->aJ w' H'->bs w' F' VH->Ext w H w' H'->next ⟨VH,[]⟩ w'.toWorld):o.wp P ⟨tm,[]⟩ w.toWorld next Q:=by
 have quiet:((vq P ev H o.op).1/\K (cM F o.dst (vq P ev H o.op).2) H)->o.wp P ⟨tm,[]⟩ w.toWorld next Q:=fun hq=>by obtain⟨v,B',hv⟩:=xS o h1 hr hq.1;simp only[Oper.wp,B',Oper.upon];rw[Act.put_eq];exact hn _ w _ H hq.2 h1 (h2.put o.dst hv []) (Ext.refl w H)
 have val:∀{w':NW} {H':Hp} {r:AV} {v:Value},(execOp (Act.mk tm []).eval o).run P w.toWorld=.ok (.value v) w'.toWorld->K (cM F o.dst r) H'->aJ w' H'->ax w' r v->Ext w H w' H'->o.wp P ⟨tm,[]⟩ w.toWorld next Q:=fun{w' H' r v} B' hk g1 g2 g3=>by simp only[Oper.wp,B',Oper.upon];rw[Act.put_eq];exact hn _ w' _ H' hk g1 ((h2.ext g3).put o.dst g2 []) g3
 have skip:∀{w':NW} {H':Hp},(execOp (Act.mk tm []).eval o).run P w.toWorld=.ok .skip w'.toWorld->K (cM F o.dst .any) H'->aJ w' H'->Ext w H w' H'->o.wp P ⟨tm,[]⟩ w.toWorld next Q:=fun{w' H'} B' hk g1 g3=>by simp only[Oper.wp,B',Oper.upon];rw[Act.put_eq];exact hn _ w' _ H' hk g1 ((h2.ext g3).put o.dst (.any _) []) g3
 have other:jV P o.op o.type ev H (fun r H'=>K (cM F o.dst r) H')->o.wp P ⟨tm,[]⟩ w.toWorld next Q:=fun ho=>by
  obtain⟨w',H',r,hk,g1,g2,g3⟩:=ho w (Act.mk tm []).eval o.dst o.pos o.after o.guard h1 (fun x _=>hr x);rcases g3 with⟨v,B',hv⟩|⟨B',rfl⟩
  ·exact val B' hk g1 hv g2
  ·exact skip B' hk g1 g2
 obtain⟨dst,op,ty,pos,after,guard⟩:=o;have vrun:∀{s:Sem Value} {v:Value} {W:World},s.run P w.toWorld=.ok v W->(do pure (Next.value (<-s)):Sem Next).run P w.toWorld=.ok (.value v) W:=fun hs=>by simp[hs]
 cases op
 case box t x=> obtain⟨ho,i,hi,hk⟩:=h;obtain⟨u,w',B',g0,g1,g2⟩:=KG (P:=P) (t:=t) h1 hi (hr x) ho;exact val (vrun B') hk g1 g0 g2
 case alloc t=>
  simp only[vc,nS]at h;split at h
  ·rename_i zs hz;obtain⟨i,hi,hk⟩:=h;obtain⟨u,w',B',g0,g1,g2⟩:=Mh (P:=P) (t:=t) h1 hi hz;exact val (vrun B') hk g1 g0 g2
  ·exact h.elim
 case store t a x=>
  simp only[vc,vJ]at h;split at h
  ·rename_i i m k j n ha hk;split at h
   ·rename_i r hb;obtain⟨⟨s1,s2,s3⟩,Vk⟩:=h;have hva:=hr a;rw[ha]at hva;obtain⟨w',B',g1,g2⟩:=Rj (P:=P) h1 hva hb (hr x) s1 hk s2 s3;refine skip ?_ Vk g1 g2;simp only[execOp,Sem.run_bind,B',Result.andThen_ok,Sem.run_pure]
   ·exact h.elim
  ·exact h.elim
 case buildSlice t n parts=>
  have h':mK P H t n (parts.toList.map fun p=>(p.1,ev p.2)) (fun r H'=>K (cM F dst r) H'):=h;obtain⟨w',H',r,v,B',hk,g1,g2,g3⟩:=Ng (P:=P) (parts:=parts.toList.map fun p=>(p.1,ev p.2)) (vparts:=parts.map fun p=>(p.1,(Act.mk tm []).eval p.2)) h1 jE (fun i a v ha hv=>by simp only[List.getElem?_map,Option.map_eq_some_iff,Array.toList_map,Array.getElem?_toList]at ha hv;obtain⟨x,hx,rfl⟩:=ha;obtain⟨y,hy,rfl⟩:=hv;rw[hx]at hy;cases hy;exact hr x.2) h'
  exact val (vrun B') hk g1 g2 g3
 case binOp op t x y t'=>
  cases op
  case eql=> obtain⟨r,v,B',hk,hv⟩:=Kg (P:=P) (K:=fun r H'=>K (cM F dst r) H') false t x y (hr x) (hr y) h;exact val (vrun B') hk h1 hv (Ext.refl w H)
  case neq=> obtain⟨r,v,B',hk,hv⟩:=Kg (P:=P) (K:=fun r H'=>K (cM F dst r) H') true t x y (hr x) (hr y) h;exact val (vrun B') hk h1 hv (Ext.refl w H)
  all_goals exact quiet h
 case call c=>
  obtain⟨callee,args,argTypes⟩:=c;cases callee
  case value f=>
   refine ug rfl rfl h h1 hr fun v r w' H' hk g1 g2 g3=>?_
   rw[Act.put_eq];exact hn _ w' _ H' hk g1 ((h2.ext g3).put dst g2 []) g3
  case invoke r m=>
   refine zj rfl rfl h h1 hr fun v r w' H' hk g1 g2 g3=>?_
   rw[Act.put_eq];exact hn _ w' _ H' hk g1 ((h2.ext g3).put dst g2 []) g3
  case builtin b=>
   have Wf:args.map (Act.mk tm []).eval=(args.toList.map (Act.mk tm []).eval).toArray:=by rw[<-Array.toList_map,Array.toArray_toList]
   have bvc:pO P b argTypes.toList (args.toList.map ev) H (fun r H'=>K (cM F dst r) H')->Oper.wp P ⟨dst,.call ⟨.builtin b,args,argTypes⟩,ty,pos,after,guard⟩ ⟨tm,[]⟩ w next Q:=fun hb=>by obtain⟨w',H',r,v,B',hk,g1,g2,g3⟩:=hb w _ ty (args.map fun|.const _=>true|_=>false) h1 (vO hr args.toList);refine val (w':=w') (v:=v) ?_ hk g1 g2 g3;simp only[execOp,resolve,pure_bind,invoke,Wf];exact B'
   cases b
   case append=>
    simp only[vc]at h;split at h
    ·rename_i t t' a x ht ha;obtain⟨w',H',r,v,B',hk,g1,g2,g3⟩:=h w _ _ ty h1 (hr a) (hr x);refine val (w':=w') (v:=v) ?_ hk g1 g2 g3;have e1:argTypes=#[t,t']:=by rw[<-Array.toArray_toList (xs:=argTypes),ht]
     have e2:args=#[a,x]:=by rw[<-Array.toArray_toList (xs:=args),ha]
     subst e1 e2;simp only[execOp,resolve,pure_bind,invoke,builtin,Sem.run_bind];have:(#[a,x].map (Act.mk tm []).eval)=#[(Act.mk tm []).eval a,(Act.mk tm []).eval x]:=jE;rw[this,B'];rfl
    ·exact h.elim
   case len=>exact quiet h
   case cap=>exact quiet h
   case max=>exact quiet h
   case min=>exact quiet h
   all_goals exact bvc h
 case move=>exact quiet h
 case assign=>exact quiet h
 case pick=>exact quiet h
 case nilCheck=>exact quiet h
 case unOp=>exact quiet h
 case load=>exact quiet h
 case fieldAddr=>exact quiet h
 case field=>exact quiet h
 case indexAddr=>exact quiet h
 case index=>exact quiet h
 case extract=>exact quiet h
 case slice=>exact quiet h
 case makeFunc=>exact quiet h
 case makeInterface=>exact quiet h
 case convert=>exact quiet h
 case build=>exact quiet h
 all_goals first|exact other h|exact(quiet h)
def pF{o:Oper}(hg:o.guard=none)(h:vc P (cn F) H o.type (fun r H'=>K (cM F o.dst r) H') o.op):lK P ops o F H K:=fun w tm Q next h1 h2 hn=>by unfold sH;rw[if_pos (by simp[Region.wanted,hg])];exact .inl (yf h h1 h2 (fun x=>h2.eval [] x) hn)
def KK{j:Nat}{want b:Bool}(h:ll ops F j want=some b)(h2:bs w F tm):(yielded ops tm j == some want)=b:=by
 unfold ll at h;split at h
 ·rename_i d hd;split at h<;>try cases h
  ·rename_i b' hF;have I':d<tm.size:=by rw[<-h2.1];exact(List.getElem?_eq_some_iff.1 hF).1
   have:=df (h2.2 d _ _ hF (Array.getElem?_eq_getElem I'));unfold yielded;rw[hd,Option.bind_some,Array.getElem?_eq_getElem I',this];cases b'<;>cases want<;>rfl
  ·rename_i g b' hF;have I':d<tm.size:=by rw[<-h2.1];exact(List.getElem?_eq_some_iff.1 hF).1
   have hr:=h2.2 d _ _ hF (Array.getElem?_eq_getElem I');unfold yielded;rw[hd,Option.bind_some,Array.getElem?_eq_getElem I'];cases hr with
   |gd _ _ _ hh hu=>cases g with
    |true=> have:=df (hh rfl);rw[this];cases b'<;>cases want<;>rfl
    |false=>rw[hu rfl];rfl
 ·cases h
def zg(h2:bs w F tm)(x:Operand)(ok:(iT (cn F x)).1=true):ax w (bG F x) ((Act.mk tm []).eval x):=xo (h2.eval [] x) ok
def gB(F:UM)(x:Operand):AV:=if(iT (cn F x)).1=true then bG F x else .any
def DT{f g:UT}{o:Option Operand}(h:∀x∈o.toList,f x=g x):o.map f=o.map g:=by
 cases o with
 |none=>rfl
 |some x=>simp[h x jE]
def rY{ev ev':UT}(o:Op)(h:∀x∈o.operands.toList,ev x=ev' x):vq P ev H o=vq P ev' H o:=by
 cases o
 case call c=>
  obtain⟨callee,args,ts⟩:=c;cases callee
  case builtin b=> simp only[vq];rw[List.map_congr_left (fun x hx=>h x (by simpa[Op.operands,Call.operands]using hx))]
  all_goals rfl
 case slice t a lo hi mx=> simp only[Op.operands]at h;simp only[vq];rw[h a jE,DT (o:=lo) (fun x hx=>h x (by simp at hx ⊢;simp[hx])),DT (o:=hi) (fun x hx=>h x (by simp at hx ⊢;simp[hx])),DT (o:=mx) (fun x hx=>h x (by simp at hx ⊢;simp[hx]))]
 case makeFunc fn a b=> simp only[Op.operands]at h;simp only[vq];rw[List.map_congr_left (l:=a.toList) (fun x hx=>h x (by simp at hx ⊢;simp[hx])),List.map_congr_left (l:=b.toList) (fun x hx=>h x (by simp at hx ⊢;simp[hx]))]
 case build t ps=> simp only[Op.operands]at h;simp only[vq];rw[List.map_congr_left (g:=fun p=>(p.1,ev' p.2)) (fun x hx=>by rw[h x.2 (by simp at hx ⊢;exact⟨_,hx⟩)])]
 all_goals first
  |rfl
  |(simp only[Op.operands]at h;simp only[vq];(repeat rw[h _ jE]))
def oI(h2:bs w F tm)(x:Operand):ax w (gB F x) ((Act.mk tm []).eval x):=by
 unfold gB;split
 ·rename_i h;exact zg h2 x h
 ·exact .any _
def nP{o:Op}(h:gq F o=true):∀x∈o.operands.toList,gB F x=bG F x:=fun x hx=>by unfold gB;rw[if_pos];simp only[gq,List.all_eq_true]at h;exact h x hx
def lF{o:Oper}{j:Nat}{want b:Bool}(hg:o.guard=some (j,want))(hb:ll ops F j want=some b)
  (ht:b=true->∀w tm (Q:Exit->Act->World->Prop) (next:Act->World->Prop),aJ w H->bs w F tm->(∀VH w' F' H',K F' H'->aJ w' H'->bs w' F' VH->Ext w H w' H'->next ⟨VH,[]⟩ w')->o.wp P ⟨tm,[]⟩ w.toWorld next Q)
  (hf:b=false->∃r,(∀w:NW,ax w r undef)/\K (cM F o.dst r) H):lK P ops o F H K:=fun w tm Q next h1 h2 hn=>by
 have hy:=KK hb h2;unfold sH;have hw:Region.wanted o (yielded ops (Act.mk tm []).tmps)=b:=by unfold Region.wanted;rw[hg];exact hy
 cases b with
 |true=> rw[if_pos hw];exact .inl (ht rfl w tm Q next h1 h2 hn)
 |false=> rw[if_neg (by rw[hw];exact Bool.false_ne_true)];obtain⟨r,hr,hk⟩:=hf rfl;rw[Act.put_eq];exact hn _ w _ H hk h1 (h2.put o.dst (hr w) []) (Ext.refl w H)
def ny{r:AV}{g:Bool}(hg:g=false)(w:NW):ax w (.gd g r) undef:=.gd _ _ _ (fun h=>by rw[hg]at h;cases h) (fun _=>rfl)
def ph{r:AV}{v:Value}{g:Bool}(hg:g=true)(h:ax w r v):ax w (.gd g r) v:=.gd _ _ _ (fun _=>h) (fun h=>by rw[hg]at h;cases h)
theorem wH{K:UI}:∀(l:List Oper) (F:UM) (H:Hp),lq P ops K l F H->oK P ops K l F H
 |[],F,H,h=>Ga h
 |o::rest,F,H,h=>by
  refine zk ?_;simp only[lq]at h;split at h
  ·rename_i hg;exact(pF (K:=fun F' H'=>lq P ops K rest F' H') hg h).mono fun F' H' hk=>wH rest F' H' hk
  ·rename_i j want hg;split at h
   ·rename_i b hb;split at h
    ·refine lK.mono (K:=fun F' H'=>lq P ops K rest F' H') ?_ fun F' H' hk=>wH rest F' H' hk
     obtain⟨dst,op,ty,pos,after,guard⟩:=o;unfold eO at h;split at h
     ·rename_i f args argTypes W6;cases W6;obtain⟨r,hc,hk⟩:=h;refine lF hg hb (fun Vi w tm Q next h1 h2 hn=>?_) (fun Vi=>⟨_,ny Vi,hk⟩);obtain⟨ok,Vp⟩:=hc Vi;have WN:=nP ok;have e1:gB F f=bG F f:=WN f (by simp[Op.operands,Call.operands]);have e2:args.toList.map (gB F)=args.toList.map (bG F):=List.map_congr_left fun x hx=>WN x (by simp[Op.operands,Call.operands]at hx ⊢;exact .inr hx)
      refine ug (ev:=gB F) e1 e2 Vp h1 (oI h2) fun v r' w' H' hR g1 g2 g3=>?_
      obtain⟨rfl,rfl⟩:=hR;rw[Act.put_eq];exact hn _ w' _ H' hk g1 ((h2.ext g3).put dst (ph Vi g2) []) g3
     ·rename_i f m args argTypes W6;cases W6;obtain⟨r,hc,hk⟩:=h;refine lF hg hb (fun Vi w tm Q next h1 h2 hn=>?_) (fun Vi=>⟨_,ny Vi,hk⟩);obtain⟨ok,Vp⟩:=hc Vi;have WN:=nP ok;have e1:gB F f=bG F f:=WN f (by simp[Op.operands,Call.operands]);have e2:args.toList.map (gB F)=args.toList.map (bG F):=List.map_congr_left fun x hx=>WN x (by simp[Op.operands,Call.operands]at hx ⊢;exact .inr hx)
      refine zj (ev:=gB F) e1 e2 Vp h1 (oI h2) fun v r' w' H' hR g1 g2 g3=>?_
      obtain⟨rfl,rfl⟩:=hR;rw[Act.put_eq];exact hn _ w' _ H' hk g1 ((h2.ext g3).put dst (ph Vi g2) []) g3
     ·rename_i c x y W6;simp only at W6;subst W6;obtain⟨hs,hk⟩:=h;refine lF hg hb (fun Vi w tm Q next h1 h2 hn=>?_) (fun Vi=>⟨_,ny Vi,hk⟩);obtain⟨ok,hq⟩:=hs Vi;obtain⟨v,B',hv⟩:=BL (P:=P) (ρ:=(Act.mk tm []).eval) (dst:=dst) (ty:=ty) (pos:=pos) (after:=after) (guard:=guard) (zg h2 c ok) (h2.eval [] x) (h2.eval [] y) hq;simp only[Oper.wp,B',Oper.upon];rw[Act.put_eq];exact hn _ w _ H hk h1 (h2.put dst (ph Vi hv) []) (Ext.refl w H)
     ·split at h
      ·obtain⟨hs,hk⟩:=h;refine lF hg hb (fun Vi w tm Q next h1 h2 hn=>?_) (fun Vi=>⟨_,ny Vi,hk⟩);obtain⟨ok,hq⟩:=hs Vi;rw[<-rY _ (nP ok)]at hq;obtain⟨v,B',hv⟩:=xS (ρ:=(Act.mk tm []).eval) ⟨dst,op,ty,pos,after,guard⟩ h1 (oI h2) hq;simp only[Oper.wp,B',Oper.upon];rw[Act.put_eq];rw[rY _ (nP ok)]at hv;exact hn _ w _ H hk h1 (h2.put dst (ph Vi hv) []) (Ext.refl w H)
      ·exact h.elim
    ·refine lK.mono (K:=fun F' H'=>lq P ops K rest F' H') ?_ fun F' H' hk=>wH rest F' H' hk
     refine lF hg hb (fun Vi w tm Q next h1 h2 hn=>?_) (fun Vi=>⟨_,fun w=>.any _,h.2 Vi⟩);exact yf (h.1 Vi) h1 h2 (fun x=>h2.eval [] x) hn
   ·exact h.elim
def Mi{id:Nat}{l:List Oper}{Q:Exit->UI}(h:lq P l.toArray (Q .normal) l F H):dH P (.region id l.toArray false) Q F H:=
 BU (by simpa using wH l F H h)
-- the results of a body
def jK(P:UY)(H:Hp)(F:UM):List ResultVar->Option UM
 |[]=>some []
 |.tmp t::rest=>(jK P H F rest).map (F.getD t .any::·)
 |.cell a t::rest=>match pT H (F.getD a .any),dI P t,dh P t with
  |some (_,cs),some ag,some k=>(jK P H F rest).map (uv ag k cs::·)
  |_,_,_=>none
def kN(P:UY)(H:Hp)(F:UM):List ResultVar->Prop
 |[]=>True
 |.tmp _::rest=>kN P H F rest
 |.cell a t::rest=>match pT H (F.getD a .any),dh P t with
  |some (c,cs),some k=>(c/\k<=cs.length/\1<=cs.length)/\kN P H F rest
  |_,_=>False
def kI:UM->AV
 |[r]=>r
 |rs=>.aQ rs
def vL(tm:UU):ResultVar->Sem Value
 |.tmp t=>pure (tm.getD t undef)
 |.cell a t=>do loadVar t (<-asAddr (tm.getD a undef))
def O9(fn:Func)(tm:UU):results fn tm=(do let vs <-fn.results.mapM (vL tm);pure (if h:vs.size=1 then vs[0]else .tuple vs)):=rfl
theorem Cz{w:NW}{tm:UU}(hw:aJ w H)(h2:bs w F tm):∀(rs:List ResultVar) (out:UM),kN P H F rs->jK P H F rs=some out->
  ∃vs:UW,ci w out vs/\(rs.mapM (vL tm)).run P w.toWorld=.ok vs w.toWorld
 |[],out,_,h=>by simp[jK]at h;subst h;exact⟨[],⟨rfl,fun i a v ha=>by simp at ha⟩,jE⟩
 |.tmp t::rest,out,hok,h=>by
  simp only[jK,Option.map_eq_some_iff]at h;obtain⟨l,hl,rfl⟩:=h;obtain⟨vs,Vo,B'⟩:=Cz hw h2 rest l hok hl;refine⟨tm.getD t undef::vs,⟨by simp[Vo.1],fun i a v ha hv=>?_⟩,?_⟩
  ·cases i with
   |zero=> simp only[List.getElem?_cons_zero,Option.some.injEq]at ha hv;subst ha hv;exact h2.eval [] (.tmp t)
   |succ i=>exact Vo.2 i a v (by simpa using ha) (by simpa using hv)
  ·rw[List.mapM_cons];simp only[vL,Sem.run_bind,Sem.run_pure,Result.andThen_ok];rw[B'];rfl
 |.cell ad t::rest,out,hok,h=>by
  simp only[jK]at h;simp only[kN]at hok;split at h
  ·rename_i c cs ag k e1 e2 e3;rw[e1,e3]at hok;obtain⟨⟨hc,Vr,Vc⟩,hok⟩:=hok;simp only[Option.map_eq_some_iff]at h;obtain⟨l,hl,rfl⟩:=h;obtain⟨vs,Vo,B'⟩:=Cz hw h2 rest l hok hl;obtain⟨addr,us,hv,D',hr⟩:=J3 (h2.eval [] (.tmp ad)) hw e1 hc;obtain⟨v,haA,hvr⟩:=FQ (P:=P) e2 e3 Vr Vc D' hr;have Vq:tm.getD ad undef=.pointer (some addr):=hv;refine⟨v::vs,⟨by simp[Vo.1],fun i a u ha hu=>?_⟩,?_⟩
   ·cases i with
    |zero=> simp only[List.getElem?_cons_zero,Option.some.injEq]at ha hu;subst ha hu;exact hvr
    |succ i=>exact Vo.2 i a u (by simpa using ha) (by simpa using hu)
   ·rw[List.mapM_cons];have ha:(asAddr (tm.getD ad undef)).run P w.toWorld=.ok addr w.toWorld:=by rw[Vq];rfl
    have hf:(vL tm (.cell ad t)).run P w.toWorld=.ok v w.toWorld:=by simp only[vL,Sem.run_bind,ha,haA,Result.andThen_ok]
    simp only[Sem.run_bind,hf,B',Sem.run_pure,Result.andThen_ok]
  ·cases h
def RW{fn:Func}{out:UM}(hw:aJ w H)(h2:bs w F tm)(hok:kN P H F fn.results.toList)(h:jK P H F fn.results.toList=some out):∃v,(results fn tm).run P w.toWorld=.ok v w.toWorld/\ax w (kI out) v:=by
 obtain⟨vs,Vo,B'⟩:=Cz (P:=P) hw h2 _ out hok h;have hm:(fn.results.mapM (vL tm)).run P w.toWorld=.ok vs.toArray w.toWorld:=by rw[Array.mapM_eq_mapM_toList];simp only[Sem.run_map,B',Result.andThen_ok]
 have hr:(results fn tm).run P w.toWorld=.ok (if h:vs.toArray.size=1 then vs.toArray[0]else .tuple vs.toArray) w.toWorld:=by rw[O9];simp only[Sem.run_bind,hm,Result.andThen_ok,Sem.run_pure]
 refine⟨_,hr,?_⟩;match vs,out,Vo with
 |[],[],Vo=>exact .aQ _ _ rfl fun i a v ha=>by simp at ha
 |[v],[a],Vo=>exact Vo.2 0 _ _ rfl rfl
 |v::v'::vs,a::a'::out,Vo=>exact .aQ _ _ (by have:=Vo.1;simpa using this) fun i x y hx hy=>Vo.2 i x y hx (by simpa using hy)
 |[],_::_,Vo=>have:=Vo.1;simp at this
 |_::_,[],Vo=>have:=Vo.1;simp at this
 |[_],_::_::_,Vo=>have:=Vo.1;simp at this
 |_::_::_,[_],Vo=>have:=Vo.1;simp at this
def lu(P:UY)(fn:Func)(R:AV->List U0->Prop):Exit->UI
 |.normal,F,H|.ret,F,H=>∃out r H',jK P H F fn.results.toList=some out/\kN P H F fn.results.toList/\iD (kI out) H r H'/\R r H'.l
 |_,_,_=>False
def Fv{f:FuncId}{fn:Func}{c:Code}{args:UM}{l:UL}{R:AV->List U0->Prop}(hf:P.funcs[f]?=some fn)(hb:fn.body=some c)(h:dH P c (lu P fn R) (args++List.replicate (fn.ntmps-args.length) .any) (entry l)) :
  ab P f args l R:=fun w vs h1 h2=>by
 have O':args.length=vs.size:=h2.1;refine calls_of_wp hf hb (wp_mono (h w _ h1 ?_) ?_)
 ·refine⟨by simp[O'],fun i a v ha hv=>?_⟩;rcases Nat.lt_or_ge i args.length with hi|hi
  ·rw[List.getElem?_append_left hi]at ha;rw[Array.getElem?_append_left jB]at hv;exact h2.2 i a v ha hv
  ·rw[List.getElem?_append_right hi]at ha;rw[List.getElem?_replicate]at ha;split at ha<;>cases ha;exact .any _
 ·rintro e a W ⟨tm,F',H',w',rfl,rfl,hq,g1,g2,g3⟩;have fin:(∃out r VT,jK P H' F' fn.results.toList=some out/\kN P H' F' fn.results.toList/\iD (kI out) H' r VT/\R r VT.l)->
    ∃v,(results fn tm).run P w'.toWorld=.ok v w'.toWorld/\∃v' r VT w'',w'.toWorld=NW.toWorld w''/\Ending.returned v=.returned v'/\R r (Hp.l VT)/\aJ w'' VT/\ax w'' r v'/\fS w (entry l) w'' VT:=by
   rintro⟨out,r,VT,e1,e0,e2,e3⟩;obtain⟨v,B',hv⟩:=RW g1 g2 e0 e1;obtain⟨w'',k0,k1,k2,k3⟩:=e2 w' v g1 hv;exact⟨v,B',v,r,VT,w'',k0.symm,rfl,e3,k1,k2,g3.trans k3⟩
  cases e with
  |normal=>exact⟨rfl,fin hq⟩
  |ret=>exact⟨rfl,fin hq⟩
  |exit id=>exact hq.elim
  |goto l=>exact hq.elim
  |panic ch=>exact hq.elim
  |outgrown=>exact hq.elim
end
-- encoders of Lean data
class bK{α:Type}(enc:α->List AV)(sz:outParam Nat):Prop where
 len:∀x,(enc x).length=sz
 cQ:∀x,cQ (enc x)=true
 free:∀x,aZ eJ (enc x)=true
def QL(q:UX)(css:UK):Prop:=∀cs∈css,aZ q cs=true
def xp(q:UX):Row->Prop
 |.var _ cs=>aZ q cs=true
 |.aG _ _ css=>QL q css
 |.mp _ vs=>aZ q vs=true
theorem vv{q:UX}:∀(a b:UM),aZ q (a++b)=(aZ q a && aZ q b)
 |[],b=>by simp[aZ]
 |x::a,b=>by simp[aZ,vv a b,Bool.and_assoc]
theorem Gk{q:UX}:∀{css:UK},QL q css->aZ q css.flatten=true
 |[],_=>rfl
 |cs::css,h=>by rw[List.flatten_cons,vv,h cs jE,Gk (css:=css) fun c hc=>h c (by simp[hc])];rfl
variable{q:UX}
def JQ{r:Row}(h:xp q r):aZ q r.cells=true:=by
 cases r with
 |var t cs=>exact h
 |aG e sz css=>exact Gk h
 |mp ks vs=>exact h
def PR(q:UX):QL q []:=fun _ h=>by simp at h
def NS{a b:UK}(h:QL q a)(k:QL q b):QL q (a++b):=fun c hc=>(List.mem_append.1 hc).elim (h c) (k c)
variable{α:Type}
def nM{enc:α->UM}[e:bK enc sz](l:List α):QL q (l.map enc):=fun c hc=>by obtain⟨x,_,rfl⟩:=List.mem_map.1 hc;exact fX (fun _ h=>by cases h) _ (e.free x)
def LD(sz:Nat):Good sz []:=fun _ h=>by simp at h
def Tm{enc:α->UM}[e:bK enc sz](l:List α):Good sz (l.map enc):=fun c hc=>by obtain⟨x,_,rfl⟩:=List.mem_map.1 hc;exact⟨e.len x,e.cQ x⟩
-- calls
def rP:List U0->Hp->Prop
 |[],_=>True
 |(i,r)::l,H=>H.get i=some r/\rP l H
theorem DC:∀{l:UL} {H:Hp},rP l H->∀i r,aC l i=some r->H.get i=some r
 |[],_,_,i,r,h=>by cases h
 |(j,s)::l,H,hf,i,r,h=>by
  simp only[aC]at h;split at h
  ·rename_i e;subst e;cases h;exact hf.1
  ·exact DC hf.2 i r h
def rK(q:UX):List U0->Prop
 |[]=>True
 |(_,r)::l=>xp q r/\rK q l
theorem GL{q:UX}:∀{l:UL},rK q l->∀i r,aC l i=some r->aZ q r.cells=true
 |[],_,i,r,h=>by cases h
 |(j,s)::l,hf,i,r,h=>by
  simp only[aC]at h;split at h
  ·cases h;exact JQ hf.1
  ·exact GL hf.2 i r h
def oJ(L:UQ)(H:Hp):List U0->Prop
 |[]=>True
 |(i,_)::l=>(L.contains i=true\/H.get i=none)/\oJ L H l
theorem Am{L:UQ}{H:Hp}:∀{l:UL},oJ L H l->∀i r,aC l i=some r->L.contains i=true\/H.get i=none
 |[],_,i,r,h=>by cases h
 |(j,s)::l,hf,i,r,h=>by
  simp only[aC]at h;split at h
  ·rename_i e;subst e;exact hf.1
  ·exact Am hf.2 i r h
section
variable {P:UY}{f:FuncId}{args:UM}{H:Hp}{l:UL}{K:UJ}
def Rr{R:AV->List U0->Prop}(hc:ab P f args l R)(h1:rP l H)(h2:aZ (fun i=>(ids l).contains i) args=true)(h3:rK (fun i=>(ids l).contains i) l)
  (hk:∀r l',R r l'->oJ (ids l) H l'/\(ids l').Nodup/\K r ⟨H.B,gx H.l l'⟩):dm P f args H K:=fun _ _ hw hv=>
 Ao hc (DC h1) h2 (GL h3) (fun r l' hR=>⟨Am (hk r l' hR).1,(hk r l' hR).2⟩) hw hv
def wA{r0:AV}{l0:UL}(hc:ab P f args l fun r l'=>r=r0/\l'=l0)(h1:rP l H)(h2:aZ (fun i=>(ids l).contains i) args=true)(h3:rK (fun i=>(ids l).contains i) l)
  (h4:oJ (ids l) H l0) (h5:(ids l0).Nodup) (hk:K r0 ⟨H.B,gx H.l l0⟩):dm P f args H K:=
 Rr hc h1 h2 h3 fun r l' ⟨e1,e2⟩=>by rw[e1,e2];exact⟨h4,h5,hk⟩
def yK{r:AV}(hc:aB P f args r)(h2:aZ eJ args=true)(hk:K r H):dm P f args H K:=
 wA hc trivial (by simpa[ids]using h2) trivial trivial (by simp[ids]) hk
def nQ{args:UM}(hc:aS P f=true)(h:dm P f args H K):fh P (.raw (.func (.func f) #[] #[])) args H K:=.inl ⟨hc,by simpa using h⟩
def Qq{cs:UM}{args:UM}(hc:aS P f=true)(h:dm P f (args++cs) H K):fh P (.dW f cs) args H K:=.inl ⟨hc,by simpa using h⟩
def LG{args:UM}(h:uf P f args H K):fh P (.raw (.func (.func f) #[] #[])) args H K:=.inr (by simpa using h)
end
-- things of which D holds are let go of, and may be read from then on
def fB(D:UX):List U0->UL
 |[]=>[]
 |(j,s)::l=>bif D j then fB D l else(j,s)::fB D l
theorem CC(D:UX):∀(l:UL) (i:Nat),aC (fB D l) i=if D i=true then none else aC l i
 |[],i=>by simp[fB,aC]
 |(k,s)::l,i=>by
  have ih:=CC D l i;unfold fB;cases hk:D k
  ·simp only[cond_false,aC];split
   ·rename_i h;subst h;rw[hk];simp
   ·exact ih
  ·simp only[cond_true,aC];rw[ih];split
   ·rfl
   ·rename_i h;rw[if_neg];rintro rfl;exact h hk
def NW.cU(w:NW)(D:UX):NW:={ w with O:=fun b=>w.O b/\∀i m t s,D i=true->w.nm i m≠some (.at b t s),nm:=fun j n=>if D j=true then none else w.nm j n }
def im(D:UX):UX:=fun i=>!(D i)
def iO(D:UX):List U0->Prop
 |[]=>True
 |(j,r)::l=>(D j=true\/xp (im D) r)/\iO D l
theorem Du{D:UX}:∀{l:UL},iO D l->∀{i:Nat} {r:Row},aC l i=some r->D i=false->aZ (im D) r.cells=true
 |[],_,i,r,h,_=>by cases h
 |(j,s)::l,hf,i,r,h,hd=>by
  simp only[aC]at h;split at h
  ·rename_i e;subst e;cases h;rcases hf.1 with h|h
   ·rw[hd]at h;cases h
   ·exact JQ h
  ·exact Du hf.2 h hd
def pN(w:NW)(D:UX):Keep (im D) w (w.cU D):=⟨Nat.le_refl _,fun b _ h=>⟨rfl,fun h'=>h h'.1⟩,fun j n z hq h=>by show(if D j=true then none else w.nm j n)=_;rw[if_neg (by unfold im at hq;intro e;rw[e]at hq;cases hq)];exact h⟩
variable{D:UX}
def FD{w:NW}(r:aJ w H)(hB:H.B.all (im D)=true)(hl:iO D H.l):aJ (w.cU D) ⟨H.B,fB D H.l⟩/\fS w H (w.cU D) ⟨H.B,fB D H.l⟩:=by
 have VJ:∀j n,(w.cU D).nm j n=if D j=true then none else w.nm j n:=fun _ _=>rfl
 have gE:∀j,(Hp.mk H.B (fB D H.l)).get j=if D j=true then none else H.get j:=fun j=>CC D H.l j
 refine⟨{ rows:=fun j s hj=>?_,di:=fun j n z hz=>?_,inj:=fun j n j' n' b t s t' s' h1 h2=>?_,own:=fun j n b t s h=>?_,fin:=fun b hb=>r.fin b hb.1,cd:=r.cd.aY (pN w D) },{ pN w D with names:=fun j n z hq h=>?_,os:=rfl,tape:=rfl,output:=rfl,rest:=fun b hb hO U8=>⟨rfl,⟨hO,fun i m t s _=>U8 _ _ _ _⟩,fun j n t s h=>?_⟩,base:=rfl }⟩
 ·rw[gE]at hj;split at hj
  ·cases hj
  ·rename_i e;obtain⟨h1,z,h2,h3⟩:=r.rows j s hj;refine⟨h1,z,by rw[VJ,if_neg e];exact h2,?_⟩;cases z with
   |nil=>exact h3
   |«at» b t st=> obtain⟨g1,cur,g2,g3,g5⟩:=h3;exact⟨g1,cur,g2,g3,fun k a v ha hv=>(g5 k a v ha hv).aY (pN w D) (lz (Du hl hj (by simpa using e)) ha)⟩
 ·rw[VJ]at hz;split at hz
  ·cases hz
  ·rename_i e;obtain⟨r',h1,h2⟩:=r.di j n z hz;exact⟨r',by rw[gE,if_neg e];exact h1,h2⟩
 ·rw[VJ]at h1 h2;split at h1
  ·cases h1
  ·split at h2
   ·cases h2
   ·exact r.inj _ _ _ _ _ _ _ _ _ h1 h2
 ·rw[VJ]at h;split at h
  ·cases h
  ·rename_i e;exact⟨r.own _ _ _ _ _ h,fun i m t' s' hd h'=>e (by rw[r.inj _ _ _ _ _ _ _ _ _ h h'];exact hd)⟩
 ·have hq:H.B.contains j=true:=hq;have:=List.all_eq_true.1 hB j (List.contains_iff_mem.1 hq);rw[VJ,if_neg (by intro e;unfold im at this;rw[e]at this;cases this)];exact h
 ·rw[VJ]at h;split at h
  ·cases h
  ·exact U8 _ _ _ _ h
inductive cY(D:Nat->Bool)(H:Hp):AV->AV->Prop
 |same (a:AV) (h:a.all (im D)=true):cY D H a a
 |drop (a:AV):cY D H a .any
 |nil (sz:Nat) (d:List AV):cY D H (.raw (.slice none 0 0)) (.sl false sz [] d)
 |lit (x:Bool) (sz:Nat) (css:List (List AV)) (d d':List AV):cY D H (.sl x sz css d) (.sl false sz css d')
 |agg (cs ds:List AV) (hl:cs.length=ds.length) (h:∀(i:Nat) c d,cs[i]?=some c->ds[i]?=some d->cY D H c d):cY D H (.agg cs) (.agg ds)
 |aQ (cs ds:List AV) (hl:cs.length=ds.length) (h:∀(i:Nat) c d,cs[i]?=some c->ds[i]?=some d->cY D H c d):cY D H (.aQ cs) (.aQ ds)
 |zc (dd:List AV) (i sz m n:Nat) (e:TypeId) (css:List (List AV)) (dss:List (List AV)) (hD:D i=true) (hi:H.get i=some (.aG e sz css)) (hm:m=css.length) (hn:n<=m) (hd:dss.length=n) (XS:∀ds∈dss,ds.length=sz) (U8:QL eJ dss)
   (h:∀k (j:Nat) c d,k<n->(css.getD k [])[j]?=some c->(dss.getD k [])[j]?=some d->cY D H c d):cY D H (.rs i m sz n) (.sl false sz dss dd)
 |pt (i k j:Nat) (t:TypeId) (cs ds:List AV) (hD:D i=true) (hi:H.get i=some (.var t cs)) (hl:(cs.drop j).length=ds.length) (U8:aZ eJ ds=true) (h:∀(q:Nat) c d,(cs.drop j)[q]?=some c->ds[q]?=some d->cY D H c d):cY D H (.pt i 0 k j) (.ip ds)
def cY.sound{w:NW}(hw:aJ w H){a:AV}(h:cY D H a a'):∀{v:Value},ax w a v->ax (w.cU D) a' v:=by
 induction h with
 |same a h=>intro v hv;exact hv.aY (pN w D) h
 |drop a=>intro v hv;exact .any v
 |nil sz d=>intro v hv;have:=df hv;subst this;exact .gz _ _ _ _ (fun e=>by cases e)
 |lit x sz css d d'=>
  intro v hv;have Vq:=hv.aY (pN w D) (by simp only[AV.all]);cases Vq with
  |gz _ _ A c _=>exact .gz _ _ _ _ (fun e=>by cases e)
  |sl _ _ _ a c vs hn hc hx U' hb hH D' hr=>exact .sl _ _ _ a c vs hn hc (fun e=>by cases e) U' hb hH D' hr
 |agg cs ds hl _ ih=>
  intro v hv;cases hv with
  |agg _ vs Wk hr=>
   refine .agg ds vs jB fun i d v hd hv=>?_
   have hi:i<cs.length:=by rw[hl];exact(List.getElem?_eq_some_iff.1 hd).1
   have hc:cs[i]?=some cs[i]:=List.getElem?_eq_getElem hi;exact ih i _ d hc hd (hr i _ v hc hv)
 |aQ cs ds hl _ ih=>
  intro v hv;cases hv with
  |aQ _ vs Wk hr=>
   refine .aQ ds vs jB fun i d v hd hv=>?_
   have hi:i<cs.length:=by rw[hl];exact(List.getElem?_eq_some_iff.1 hd).1
   have hc:cs[i]?=some cs[i]:=List.getElem?_eq_getElem hi;exact ih i _ d hc hd (hr i _ v hc hv)
 |zc dd i sz m n e css dss hD hi hm hn hd XS U8 _ ih=>
  intro v hv;subst hm;cases hv with
  |iN _ _ _ A Vd=> have:dss=[]:=List.length_eq_zero_iff.1 jB;rw[this];exact .gz _ _ _ _ (fun h=>by cases h)
  |rs _ _ _ _ b t c Vd hc U6 Wp=>
   by_cases h0:n=0
   ·have:dss=[]:=List.length_eq_zero_iff.1 jB;rw[this,h0];exact .gz _ _ _ _ (fun h=>by cases h)
   ·have hsz0:0<sz:=Wp;have:=ax.sl (w:=w.cU D) (d:=dd) false sz dss ⟨b,0,none⟩ c (fun k=>(w.cell? ⟨b,k,none⟩).getD undef) jB jB (fun h=>by cases h) XS (hw.lt Vd) (fun h=>h.2 i _ t sz hD Vd) (fun k j hk hj=>by
     obtain⟨_,_,_,v,h1,h2⟩:=sF hw hi Vd (k:=k) (j:=j) jB hj;show w.cell? _=_;rw[ju,Nat.zero_add,h1];rfl) (fun k j u hk hu=>by
     have hj:j<sz:=by have:=(List.getElem?_eq_some_iff.1 hu).1;rwa [ve XS hk]at this
     obtain⟨_,Vj,_,v,h1,h2⟩:=sF hw hi Vd (k:=k) (j:=j) jB hj;have hlc:=ve Vj (show k<css.length from jB);have hc:(css.getD k [])[j]?=some ((css.getD k [])[j]' jB):=List.getElem?_eq_getElem jB;rw[h1];have VI:dss.getD k []∈dss:=by
      have:dss.getD k []=dss[k]:=by simp[hk]
      rw[this];exact List.getElem_mem _
     exact(ih k j _ u jB hc hu (h2 _ hc)).lh (lz (U8 _ VI) hu))
    rw[hd]at this;exact this
 |pt i k j t cs ds hD hi hl U8 _ ih=>
  intro v hv;cases hv with
  |pt _ _ _ _ b t' s Vd=>
   obtain⟨hok,z,hz,Vg⟩:=hw.rows i _ hi;have:z=.at b t' s:=by have hz:w.nm i 0=some z:=hz;rw[Vd]at hz;cases hz;rfl
   subst this;obtain⟨rfl,cur,hh,⟨hs,U6⟩,hr⟩:=Vg;have Wp:(Row.var t cs).bB=0:=rfl;have U6:cs.length<=t':=U6;have e0:k*(Row.var t cs).bB+j=j:=by rw[Wp];omega
   rw[e0];refine .ip ds ⟨b,j,none⟩ (fun q=>cur.getD (j+q) undef) (hw.lt Vd) (fun h=>h.2 i 0 _ _ hD Vd) (fun q hq=>?_) (fun q u hu=>?_)
   ·show w.cell? _=_;simp only[List.length_drop]at hl;have:j+q<cur.size:=jB;rw[ju,th b _ cur _ (0,0) hh];simp[this]
   ·have Zg:q<(cs.drop j).length:=by rw[hl];exact(List.getElem?_eq_some_iff.1 hu).1
    have hc:(cs.drop j)[q]?=some (cs.drop j)[q]:=List.getElem?_eq_getElem Zg;simp only[List.length_drop]at Zg;have:j+q<cur.size:=jB;refine(ih q _ u hc hu (hr (j+q) _ _ (by rw[<-List.getElem?_drop];exact hc) ?_)).lh (lz U8 hu);simp[this]
theorem cY.rs{D:UX}{H:Hp}(dd:UM)(i sz n:Nat)(e:US)(css:UK)(dss:UK)(hD:D i=true)(hi:H.get i=some (.aG e sz css))(hn:n=css.length)(hd:dss.length=css.length)(XS:∀ds∈dss,ds.length=sz)(U8:QL eJ dss)
  (h:∀k (j:Nat) c d,k<css.length->(css.getD k [])[j]?=some c->(dss.getD k [])[j]?=some d->cY D H c d):cY D H (.rs i n sz n) (.sl false sz dss dd):=
 .zc dd i sz n n e css dss hD hi hn jl jB XS U8 fun k j c d hk=>h k j c d jB
def cY.row{dd:UM}{i:Nat}{e:US}{enc:α->UM}[he:bK enc sz](l:List α)(hD:D i=true)(hi:H.get i=some (.aG e sz (l.map enc)))(hn:n=l.length):cY D H (.rs i n sz n) (.sl false sz (l.map enc) dd):=
 .rs dd i sz n e _ _ hD hi (by simpa using hn) rfl (fun ds XS=>by obtain⟨x,_,rfl⟩:=List.mem_map.1 XS;exact he.len x) (nM l) fun k j c d hk h1 h2=>by
  rw[h1]at h2;cases h2;have Vk:k<l.length:=by simpa using hk
  have e1:(l.map enc).getD k []=enc l[k]:=by simp[Vk]
  rw[e1]at h1;exact .same c (ql (fun _ h=>by cases h) _ (lz (he.free _) h1))
def iD.free{r r':AV}(D:UX)(hB:H.B.all (im D)=true)(hl:iO D H.l)(hv:cY D H r r'):iD r H r' ⟨H.B,fB D H.l⟩:=fun w v h1 h2=>by obtain⟨a,b⟩:=FD h1 hB hl;exact⟨w.cU D,rfl,a,hv.sound h1 h2,b⟩
def bt(D:UX)(H:Hp):UM->UM->Prop
 |[],[]=>True
 |a::l,b::m=>cY D H a b/\bt D H l m
 |_,_=>False
theorem bt.get{D:UX}{H:Hp}:∀{l m:UM},bt D H l m->l.length=m.length/\∀(i:Nat) a b,l[i]?=some a->m[i]?=some b->cY D H a b
 |[],[],_=>⟨rfl,fun i a b h=>by simp at h⟩
 |x::l,y::m,h=>by
  have ih:=bt.get h.2;refine⟨by simp[ih.1],fun i a b ha hb=>?_⟩;cases i with
  |zero=>simp at ha hb;subst ha hb;exact h.1
  |succ i=>exact ih.2 i a b (by simpa using ha) (by simpa using hb)
theorem bt.agg{D:UX}{H:Hp}{cs ds:UM}(h:bt D H cs ds):cY D H (.agg cs) (.agg ds):=.agg cs ds h.get.1 h.get.2
theorem bt.aQ{D:UX}{H:Hp}{cs ds:UM}(h:bt D H cs ds):cY D H (.aQ cs) (.aQ ds):=.aQ cs ds h.get.1 h.get.2
def dT.free{F F':UM}(D:UX)(hB:H.B.all (im D)=true)(hl:iO D H.l)(hv:bt D H F F'):dT F H F' ⟨H.B,fB D H.l⟩:=fun w tm h1 h2=>by
 obtain⟨a,b⟩:=FD h1 hB hl;obtain⟨Wk,hg⟩:=hv.get;refine⟨w.cU D,rfl,a,⟨by rw[<-Wk];exact h2.1,fun i c v hc hv=>?_⟩,b⟩;have hi:i<F.length:=by rw[Wk];exact(List.getElem?_eq_some_iff.1 hc).1
 exact(hg i F[i] c (List.getElem?_eq_getElem hi) hc).sound h1 (h2.2 i _ v (List.getElem?_eq_getElem hi) hv)
-- what is lent: a function that is Z1 nothing of one's own but to read
mutual
def AV.flat:AV->Bool
 |.raw _=>true
 |.any=>true
 |.agg cs=>zp cs
 |.aQ cs=>zp cs
 |.gd _ v=>v.flat
 |_=>false
def zp:UM->Bool
 |[]=>true
 |a::l=>a.flat && zp l
end
-- a slot that holds nothing yet, as a row of one's own without elements
theorem dT.nil{F:UM}{H:Hp}(i slot:Nat)(e:US){sz:Nat}(hi:H.get i=none)(h0:0<sz)(hs:F[slot]?=some (.raw (.slice none 0 0))\/∃x s d,F[slot]?=some (.sl true s x d)/\x=[]):dT F H (F.set slot (.rs i 0 sz 0)) (H.put i (.aG e sz [])):=fun w tm h1 h2=>by
 obtain⟨a,b⟩:=wP h1 hi e h0;refine⟨w.name i 0 .nil,rfl,a,⟨by rw[List.length_set];exact h2.1,fun k c v hc hv=>?_⟩,b.pU⟩;rw[List.getElem?_set]at hc;by_cases hk:slot=k
 ·subst hk;rw[if_pos rfl]at hc;split at hc
  ·cases hc;have Vq:∃A,v=.slice A 0 0:=by
    rcases hs with hs|⟨x,s,d,hs,rfl⟩
    ·exact⟨none,by have:=h2.2 slot _ v hs hv;cases this;rfl⟩
    ·have:=h2.2 slot _ v hs hv;cases this with
     |gz _ _ A c hx=>have:=hx rfl;subst this;exact⟨A,rfl⟩
     |sl _ _ _ _ _ _ hn=>simp at hn
   obtain⟨A,rfl⟩:=Vq;exact .iN _ _ _ _ (NW.cA _ _ _ _)
  ·cases hc
 ·rw[if_neg hk]at hc;exact(h2.2 k c v hc hv).ext b
def nth{α:Type}[Inhabited α](l:List α)(i:Nat):α:=l.getD i default
variable{α:Type}{i:Nat}
def fM[Inhabited α]{l:List α}(h:i<l.length):nth l i=l[i]:=by simp[nth,h]
def tT[Inhabited α]{l:List α}(h:i<l.length):l.take (i+1)=l.take i++[nth l i]:=by rw[fM h,List.take_succ_eq_append_getElem h]
@[reducible] def aM{α:Type}[Inhabited α](enc:α->UM)(sz:Nat)(l:List α):AV:=.sl false sz (l.map enc) (enc default)
@[go_sem] def jxP:(∀(next:UI) (Q:Exit->UI) (F:UM) (H:Hp),uq next Q .normal F H=next F H)/\(∀(next:UI) (Q:Exit->UI) (F:UM) (H:Hp),uq next Q .ret F H=Q .ret F H)/\(∀(next:UI) (Q:Exit->UI) (id:Nat) (F:UM) (H:Hp),uq next Q (.exit id) F H=Q (.exit id) F H)/\(∀(id:Nat) (Q:Exit->UI) (F:UM) (H:Hp),sG id Q .normal F H=Q .normal F H)/\(∀(id:Nat) (Q:Exit->UI) (F:UM) (H:Hp),sG id Q .ret F H=Q .ret F H):=by and_intros<;>(intros;rfl)
@[go_sem] def jy4(id:Nat)(Q:Exit->UI)(F:UM)(H:Hp):sG id Q (.exit id) F H=Q .normal F H:=by simp[sG]
def AP(K:UJ)(_:iy K):UJ:=K
def u7(K:AV->Prop)(_:iy K):AV->Prop:=K
@[go_sem] def j5Z:(∀(K:UJ) (d:iy K) (r:AV) (H:Hp),AP K d r H=K r H)/\(∀(K:AV->Prop) (d:iy K) (r:AV),u7 K d r=K r):=by and_intros<;>(intros;rfl)
variable{r:AV}{H:Hp}
def Sa{K:UJ}{d:iy K}(h:K r H):AP K d r H:=h
def rG(o:Option Bool)(A:Bool->Prop)(_:iy A):Prop:=match o with
 |some b=>A b
 |none=>False
@[go_sem] def j1y(b:Bool)(A:Bool->Prop)(d:iy A):rG (some b) A d=A b:=(rfl)
def pg(q:Bool)(A B:Prop)(_:iy A)(_:iy B):Prop:=if q=true then A else B
@[go_sem] def j7f:(∀(A B:Prop) (d:iy A) (e:iy B),pg true A B d e=A)/\(∀(A B:Prop) (d:iy A) (e:iy B),pg false A B d e=B)/\(∀{P:UY} {ops:Array Oper} {K:UI} (F:UM) (H:Hp),lq P ops K [] F H=K F H):=by and_intros<;>(intros;rfl)
variable{P:UY}{ops:Array Oper}{K:UI}
@[go_sem] def j7z(dst:Option Tmp)(op:Op)(ty:US)(pos:String)(after:Array Edge)(rest:List Oper)(F:UM)(H:Hp) :
  lq P ops K (⟨dst,op,ty,pos,after,none⟩::rest) F H=vc P (cn F) H ty (AP (fun r H'=>lq P ops K rest (cM F dst r) H') .mk) op:=(rfl)
@[go_sem] def j5L(dst:Option Tmp)(op:Op)(ty:US)(pos:String)(after:Array Edge)(j:Nat)(want:Bool)(rest:List Oper)(F:UM)(H:Hp) :
  lq P ops K (⟨dst,op,ty,pos,after,some (j,want)⟩::rest) F H=rG (ll ops F j want) (fun b=>pg (iU op || iM op) (eO P F H b (u7 (fun r=>lq P ops K rest (cM F dst r) H) .mk) op)
    ((b=true->vc P (cn F) H ty (AP (fun r H'=>lq P ops K rest (cM F dst r) H') .mk) op)/\(b=false->lq P ops K rest (cM F dst .any) H)) .mk .mk) .mk:=by
 unfold rG pg;rfl
@[go_sem] def j2F(a:Nat):((a:Int)+1).toNat=a+1:=jB
@[go_sem] def j2G(a b:Nat):((a:Int)-(b:Int)).toNat=a-b:=jB
@[go_sem] def j2H(a:Nat):((a:Int)-1).toNat=a-1:=jB
attribute [go_sem] Int.cast_ofNat_Int
def sC{n:Int}(h:-9223372036854775808<=n/\n<=9223372036854775807):IntKind.i64.wrap n=n:=by have h1:(2:Int) ^ 64=18446744073709551616:=jC;have h2:(2:Int) ^ (64-1)=9223372036854775808:=jC;simp only[IntKind.wrap,IntKind.bits,IntKind.signed,Bool.true_and,h1,h2,decide_eq_true_eq];split<;>omega
variable{fn:Func}{F:UM}
def Ph{f:FuncId}{c:Code}{args:UM}(hf:P.funcs[f]?=some fn)(hb:fn.body=some c)(hF:args++List.replicate (fn.ntmps-args.length) .any=F)
  (h:dH P c (lu P fn fun r' l'=>r'=r/\l'=[]) F ⟨[],[]⟩):aB P f args r:=Fv hf hb (by rw[hF];exact h)
variable{l:UL}{R:AV->List U0->Prop}
def MW{f:FuncId}{c:Code}{args:UM}(hf:P.funcs[f]?=some fn)(hb:fn.body=some c)(hF:args++List.replicate (fn.ntmps-args.length) .any=F){L:UQ}(hL:ids l=L)
  (h:dH P c (lu P fn R) F ⟨L,l⟩):ab P f args l R:=Fv hf hb (by rw[hF];subst hL;exact h)
section
variable {P:UY}{ev:UT}{H:Hp}{ty:US}{K:UJ}
@[go_sem] def j9r(x:Operand):vc P ev H ty K (.move x)=K (ev x) H:=by simp[vc,dt,vq]
@[go_sem] def j5F(x:Operand):vc P ev H ty K (.assign x)=K (ev x) H:=by simp[vc,dt,vq]
@[go_sem] def j9s(c a b:Operand):vc P ev H ty K (.pick c a b)=((oa (ev c) (ev a) (ev b)).1/\K (oa (ev c) (ev a) (ev b)).2 H):=by simp[vc,dt,vq]
@[go_sem] def j1I(x:Operand):vc P ev H ty K (.nilCheck x)=((qZ P (ev x)).1/\K (qZ P (ev x)).2 H):=by simp[vc,dt,vq]
@[go_sem] def j9t(op:UnOp)(t:US)(x:Operand):vc P ev H ty K (.unOp op t x)=((tD op (ev x)).1/\K (tD op (ev x)).2 H):=by simp[vc,dt,vq]
@[go_sem] def j9q(t:US)(x:Operand):vc P ev H ty K (.load t x)=((py P H t (ev x)).1/\K (py P H t (ev x)).2 H):=by simp[vc,dt,vq]
@[go_sem] def jyO(t:US)(x:Operand)(f:Nat):vc P ev H ty K (.fieldAddr t x f)=((sN P t (ev x) f).1/\K (sN P t (ev x) f).2 H):=by simp[vc,dt,vq]
@[go_sem] def j7t(t:US)(x:Operand)(f:Nat):vc P ev H ty K (.field t x f)=((uZ P t (ev x) f).1/\K (uZ P t (ev x) f).2 H):=by simp[vc,dt,vq]
@[go_sem] def jyP(t:US)(x i:Operand):vc P ev H ty K (.indexAddr t x i)=((tx P t (ev x) (ev i)).1/\K (tx P t (ev x) (ev i)).2 H):=by simp[vc,dt,vq]
@[go_sem] def j7u(t:US)(x i:Operand):vc P ev H ty K (.index t x i)=((tu P t (ev x) (ev i)).1/\K (tu P t (ev x) (ev i)).2 H):=by simp[vc,dt,vq]
@[go_sem] def j2O(x:Operand)(i:Nat):vc P ev H ty K (.extract x i)=((v6 (ev x) i).1/\K (v6 (ev x) i).2 H):=by simp[vc,dt,vq]
@[go_sem] def j7v(t:US)(a:Operand)(lo hi mx:Option Operand):vc P ev H ty K (.slice t a lo hi mx)=((tA P t (ev a) (lo.map ev) (hi.map ev) (mx.map ev)).1/\K (tA P t (ev a) (lo.map ev) (hi.map ev) (mx.map ev)).2 H):=by simp[vc,dt,vq]
@[go_sem] def j1H(fn:Fn)(a b:Array Operand):vc P ev H ty K (.makeFunc fn a b)=((ww fn (a.toList.map ev) (b.toList.map ev)).1/\K (ww fn (a.toList.map ev) (b.toList.map ev)).2 H):=by simp[vc,dt,vq]
@[go_sem] def jyQ(t:US)(x:Operand):vc P ev H ty K (.makeInterface t x)=((vD P t (ev x)).1/\K (vD P t (ev x)).2 H):=by simp[vc,dt,vq]
@[go_sem] def j2N(s d:US)(x:Operand):vc P ev H ty K (.convert s d x)=((wz P s d (ev x)).1/\K (wz P s d (ev x)).2 H):=by simp[vc,dt,vq]
@[go_sem] def j7r(t:US)(ps:Array (Nat×Operand)):vc P ev H ty K (.build t ps)=((wy P t (ps.toList.map fun p=>(p.1,ev p.2))).1/\K (wy P t (ps.toList.map fun p=>(p.1,ev p.2))).2 H):=by simp[vc,dt,vq]
@[go_sem] def qcK(as:Array Operand)(ts:Array US):vc P ev H ty K (.call ⟨.builtin .len,as,ts⟩)=((mI P H .len ts.toList (as.toList.map ev)).1/\K (mI P H .len ts.toList (as.toList.map ev)).2 H):=by simp[vc,dt,vq]
@[go_sem] def qcG(as:Array Operand)(ts:Array US):vc P ev H ty K (.call ⟨.builtin .cap,as,ts⟩)=((mI P H .cap ts.toList (as.toList.map ev)).1/\K (mI P H .cap ts.toList (as.toList.map ev)).2 H):=by simp[vc,dt,vq]
@[go_sem] def qcN(as:Array Operand)(ts:Array US):vc P ev H ty K (.call ⟨.builtin .max,as,ts⟩)=((mI P H .max ts.toList (as.toList.map ev)).1/\K (mI P H .max ts.toList (as.toList.map ev)).2 H):=by simp[vc,dt,vq]
@[go_sem] def qcP(as:Array Operand)(ts:Array US):vc P ev H ty K (.call ⟨.builtin .min,as,ts⟩)=((mI P H .min ts.toList (as.toList.map ev)).1/\K (mI P H .min ts.toList (as.toList.map ev)).2 H):=by simp[vc,dt,vq]
@[go_sem] def qcE(t:US)(x y:Operand)(t':US):vc P ev H ty K (.binOp .add t x y t')=((fI P .add t (ev x) (ev y)).1/\K (fI P .add t (ev x) (ev y)).2 H):=by simp[vc,dt,vq]
@[go_sem] def qcU(t:US)(x y:Operand)(t':US):vc P ev H ty K (.binOp .sub t x y t')=((fI P .sub t (ev x) (ev y)).1/\K (fI P .sub t (ev x) (ev y)).2 H):=by simp[vc,dt,vq]
@[go_sem] def qcQ(t:US)(x y:Operand)(t':US):vc P ev H ty K (.binOp .mul t x y t')=((fI P .mul t (ev x) (ev y)).1/\K (fI P .mul t (ev x) (ev y)).2 H):=by simp[vc,dt,vq]
@[go_sem] def qcS(t:US)(x y:Operand)(t':US):vc P ev H ty K (.binOp .quo t x y t')=((fI P .quo t (ev x) (ev y)).1/\K (fI P .quo t (ev x) (ev y)).2 H):=by simp[vc,dt,vq]
@[go_sem] def qcT(t:US)(x y:Operand)(t':US):vc P ev H ty K (.binOp .rem t x y t')=((fI P .rem t (ev x) (ev y)).1/\K (fI P .rem t (ev x) (ev y)).2 H):=by simp[vc,dt,vq]
@[go_sem] def qcM(t:US)(x y:Operand)(t':US):vc P ev H ty K (.binOp .lss t x y t')=((fI P .lss t (ev x) (ev y)).1/\K (fI P .lss t (ev x) (ev y)).2 H):=by simp[vc,dt,vq]
@[go_sem] def qcL(t:US)(x y:Operand)(t':US):vc P ev H ty K (.binOp .leq t x y t')=((fI P .leq t (ev x) (ev y)).1/\K (fI P .leq t (ev x) (ev y)).2 H):=by simp[vc,dt,vq]
@[go_sem] def qcJ(t:US)(x y:Operand)(t':US):vc P ev H ty K (.binOp .gtr t x y t')=((fI P .gtr t (ev x) (ev y)).1/\K (fI P .gtr t (ev x) (ev y)).2 H):=by simp[vc,dt,vq]
@[go_sem] def qcI(t:US)(x y:Operand)(t':US):vc P ev H ty K (.binOp .geq t x y t')=((fI P .geq t (ev x) (ev y)).1/\K (fI P .geq t (ev x) (ev y)).2 H):=by simp[vc,dt,vq]
@[go_sem] def qcH:(∀(t:US) (x y:Operand) (t':US),vc P ev H ty K (.binOp .eql t x y t')=qm P false t (ev x) (ev y) H K)/\(∀(t:US) (x y:Operand) (t':US),vc P ev H ty K (.binOp .neq t x y t')=qm P true t (ev x) (ev y) H K)/\(∀(t:US) (x:Operand),vc P ev H ty K (.box t x)=rf H t (ev x) K)/\(∀(t:US),vc P ev H ty K (.alloc t)=nS P H t K)/\(∀(t:US) (a x:Operand),vc P ev H ty K (.store t a x)=vJ P H t (ev a) (ev x) K)/\(∀(t:US) (n:Nat) (ps:Array (Nat×Operand)),vc P ev H ty K (.buildSlice t n ps)=mK P H t n (ps.toList.map fun p=>(p.1,ev p.2)) K)/\(∀(f:Operand) (as:Array Operand) (ts:Array US),vc P ev H ty K (.call ⟨.value f,as,ts⟩)=fh P (ev f) (as.toList.map ev) H K)/\(∀(f:Operand) (m:String) (as:Array Operand) (ts:Array US),vc P ev H ty K (.call ⟨.invoke f m,as,ts⟩)=qF P (ev f) m (as.toList.map ev) H K):=by and_intros<;>(intros;rfl)
@[go_sem] def j1z(t:US)(v:AV)(m:String)(args:UM):qF P (.iQ t v) m args H K=match oA P t m with|some f=>fh P (.raw (.func (.func f) #[] #[])) (v::args) H K|none=>False:=(rfl)
@[go_sem] def j5E(t:US)(a x:Operand):vc P ev H ty K (.call ⟨.builtin .append,#[a,x],#[t,t]⟩)=qw P t t (ev a) (ev x) H K:=by simp[vc]
@[go_sem] def j1G(t t':US)(a x:Operand):vc P ev H ty K (.call ⟨.builtin .append,#[a,x],#[t,t']⟩)=qw P t t' (ev a) (ev x) H K:=by simp[vc]
@[go_sem] def j9p(as:Array Operand)(ts:Array US):vc P ev H ty K (.call ⟨.builtin .copy,as,ts⟩)=pO P .copy ts.toList (as.toList.map ev) H K:=by simp[vc,dt]
@[go_sem] def j7s(as:Array Operand)(ts:Array US):vc P ev H ty K (.call ⟨.builtin .clear,as,ts⟩)=pO P .clear ts.toList (as.toList.map ev) H K:=by simp[vc,dt]
end
section
variable {P:UY}{F:UM}{H:Hp}{g:Bool}{K:AV->Prop}
@[go_sem] def j9y(c a b:Operand):eO P F H g K (.pick c a b)=((g=true->(iT (cn F c)).1=true/\(oa (bG F c) (cn F a) (cn F b)).1)/\K (.gd g (oa (bG F c) (cn F a) (cn F b)).2)):=(rfl)
@[go_sem] def j1K(x:Operand):eO P F H g K (.nilCheck x)=((g=true->gq F (.nilCheck x)=true/\(qZ P (bG F x)).1)/\K (.gd g (qZ P (bG F x)).2)):=by simp[eO,iM,dt,vq]
@[go_sem] def j9z(op:UnOp)(t:US)(x:Operand):eO P F H g K (.unOp op t x)=((g=true->gq F (.unOp op t x)=true/\(tD op (bG F x)).1)/\K (.gd g (tD op (bG F x)).2)):=by simp[eO,iM,dt,vq]
@[go_sem] def j9w(t:US)(x:Operand):eO P F H g K (.load t x)=((g=true->gq F (.load t x)=true/\(py P H t (bG F x)).1)/\K (.gd g (py P H t (bG F x)).2)):=by simp[eO,iM,dt,vq]
@[go_sem] def jyR(t:US)(x:Operand)(f:Nat):eO P F H g K (.fieldAddr t x f)=((g=true->gq F (.fieldAddr t x f)=true/\(sN P t (bG F x) f).1)/\K (.gd g (sN P t (bG F x) f).2)):=by simp[eO,iM,dt,vq]
@[go_sem] def jyS(t:US)(x i:Operand):eO P F H g K (.indexAddr t x i)=((g=true->gq F (.indexAddr t x i)=true/\(tx P t (bG F x) (bG F i)).1)/\K (.gd g (tx P t (bG F x) (bG F i)).2)):=by simp[eO,iM,dt,vq]
@[go_sem] def j7A(t:US)(x i:Operand):eO P F H g K (.index t x i)=((g=true->gq F (.index t x i)=true/\(tu P t (bG F x) (bG F i)).1)/\K (.gd g (tu P t (bG F x) (bG F i)).2)):=by simp[eO,iM,dt,vq]
@[go_sem] def j7B(t:US)(a:Operand)(lo hi mx:Option Operand):eO P F H g K (.slice t a lo hi mx)=((g=true->gq F (.slice t a lo hi mx)=true/\(tA P t (bG F a) (lo.map (bG F)) (hi.map (bG F)) (mx.map (bG F))).1)/\K (.gd g (tA P t (bG F a) (lo.map (bG F)) (hi.map (bG F)) (mx.map (bG F))).2)):=by simp[eO,iM,dt,vq]
@[go_sem] def qcZ(as:Array Operand)(ts:Array US):eO P F H g K (.call ⟨.builtin .len,as,ts⟩)=((g=true->gq F (.call ⟨.builtin .len,as,ts⟩)=true/\(mI P H .len ts.toList (as.toList.map (bG F))).1)/\K (.gd g (mI P H .len ts.toList (as.toList.map (bG F))).2)):=by simp[eO,iM,dt,vq]
@[go_sem] def qcV(t:US)(x y:Operand)(t':US):eO P F H g K (.binOp .add t x y t')=((g=true->gq F (.binOp .add t x y t')=true/\(fI P .add t (bG F x) (bG F y)).1)/\K (.gd g (fI P .add t (bG F x) (bG F y)).2)):=by simp[eO,iM,dt,vq]
@[go_sem] def qc1(t:US)(x y:Operand)(t':US):eO P F H g K (.binOp .lss t x y t')=((g=true->gq F (.binOp .lss t x y t')=true/\(fI P .lss t (bG F x) (bG F y)).1)/\K (.gd g (fI P .lss t (bG F x) (bG F y)).2)):=by simp[eO,iM,dt,vq]
@[go_sem] def qc0(t:US)(x y:Operand)(t':US):eO P F H g K (.binOp .leq t x y t')=((g=true->gq F (.binOp .leq t x y t')=true/\(fI P .leq t (bG F x) (bG F y)).1)/\K (.gd g (fI P .leq t (bG F x) (bG F y)).2)):=by simp[eO,iM,dt,vq]
@[go_sem] def qcY(t:US)(x y:Operand)(t':US):eO P F H g K (.binOp .gtr t x y t')=((g=true->gq F (.binOp .gtr t x y t')=true/\(fI P .gtr t (bG F x) (bG F y)).1)/\K (.gd g (fI P .gtr t (bG F x) (bG F y)).2)):=by simp[eO,iM,dt,vq]
@[go_sem] def qcX(t:US)(x y:Operand)(t':US):eO P F H g K (.binOp .geq t x y t')=((g=true->gq F (.binOp .geq t x y t')=true/\(fI P .geq t (bG F x) (bG F y)).1)/\K (.gd g (fI P .geq t (bG F x) (bG F y)).2)):=by simp[eO,iM,dt,vq]
@[go_sem] def j9x(x:Operand):eO P F H g K (.move x)=((g=true->gq F (.move x)=true)/\K (.gd g (bG F x))):=by simp[eO,iM,dt,vq]
@[go_sem] def qcW(t:US)(x y:Operand)(t':US):eO P F H g K (.binOp .eql t x y t')=((g=true->gq F (.binOp .eql t x y t')=true/\(fI P .eql t (bG F x) (bG F y)).1)/\K (.gd g (fI P .eql t (bG F x) (bG F y)).2)):=by simp[eO,iM,vq]
@[go_sem] def qc2(t:US)(x y:Operand)(t':US):eO P F H g K (.binOp .neq t x y t')=((g=true->gq F (.binOp .neq t x y t')=true/\(fI P .neq t (bG F x) (bG F y)).1)/\K (.gd g (fI P .neq t (bG F x) (bG F y)).2)):=by simp[eO,iM,vq]
@[go_sem] def j5M:(∀(f:Operand) (m:String) (as:Array Operand) (ts:Array US),eO P F H g K (.call ⟨.invoke f m,as,ts⟩)=∃r,(g=true->gq F (.call ⟨.invoke f m,as,ts⟩)=true/\qF P (bG F f) m (as.toList.map (bG F)) H fun r' H'=>r'=r/\H'=H)/\K (.gd g r))/\(∀(f:Operand) (as:Array Operand) (ts:Array US),eO P F H g K (.call ⟨.value f,as,ts⟩)=∃r,(g=true->gq F (.call ⟨.value f,as,ts⟩)=true/\fh P (bG F f) (as.toList.map (bG F)) H fun r' H'=>r'=r/\H'=H)/\K (.gd g r)):=by and_intros<;>(intros;rfl)
@[go_sem] def j70:(∀(t:Tmp),cn F (.tmp t)=F.getD t .any)/\(∀(v:Value),cn F (.const v)=.raw v)/\(∀(f:FuncId),cn F (.func f)=.raw (.func (.func f) #[] #[]))/\(∀(d:Tmp) (a:AV),cM F (some d) a=F.set d a)/\(∀(a:AV),cM F none a=F):=by and_intros<;>(intros;rfl)
end
attribute [go_sem] bG gq iT ll iU iM dt oa qZ yU yx wM fI tD py pT sN uZ zm tx tu v6 rb tA Ig ww vD wz uK yA xN mI sk wy vJ qm mK kH
attribute [go_sem] cQ Op.operands Call.operands wF
section
@[go_sem] def j3g:(∀(cs:UM),(AV.agg cs).cells=cs)/\(∀(k:IntKind) (n:Int),(AV.raw (.int k n)).cells=[.raw (.int k n)])/\(∀(s:UR),(AV.raw (.string s)).cells=[.raw (.string s)])/\(∀(a:Option Addr) (n c:Nat),(AV.raw (.slice a n c)).cells=[.raw (.slice a n c)])/\(∀(x:Bool) (sz:Nat) (css:UK) (d:UM),(AV.sl x sz css d).cells=[.sl x sz css d])/\(∀(i m k j:Nat),(AV.pt i m k j).cells=[.pt i m k j])/\(∀(i m k j:Nat),(AV.rs i m k j).cells=[.rs i m k j])/\(∀(k:IntKind) (n:Int),(AV.raw (.int k n)).one=true)/\(∀(s:UR),(AV.raw (.string s)).one=true)/\(∀(a:Option Addr) (n c:Nat),(AV.raw (.slice a n c)).one=true)/\(∀(x:Bool) (sz:Nat) (css:UK) (d:UM),(AV.sl x sz css d).one=true)/\(∀(i m k j:Nat),(AV.pt i m k j).one=true)/\(∀(i m k j:Nat),(AV.rs i m k j).one=true):=by and_intros<;>(intros;rfl)
end
attribute [go_sem] Hp.get Hp.put aC bg p6 gx entry ids ur Be zz room zR A7 mm
attribute [go_sem] AV.all aZ eJ AV.flat zp xp rK rP oJ iO fB im Jd H5 bt
@[go_sem] def j4a(sz:Nat):Good sz []=True:=by simp[LD]
@[go_sem] def j2q(sz:Nat)(cs:UM)(css:UK):Good sz (cs::css)=((cs.length=sz/\cQ cs=true)/\Good sz css):=by simp[Good]
@[go_sem] def j39(enc:α->UM)(sz:Nat)[bK enc sz](l:List α):Good sz (l.map enc)=True:=by simp[Tm]
@[go_sem] def j88(q:UX):QL q []=True:=by simp[PR]
@[go_sem] def j7a(q:UX)(cs:UM)(css:UK):QL q (cs::css)=(aZ q cs=true/\QL q css):=by simp[QL]
@[go_sem] def j2D(q:UX)(a b:UK):QL q (a++b)=(QL q a/\QL q b):=by apply propext;exact⟨fun h=>⟨fun c hc=>h c (List.mem_append_left _ hc),fun c hc=>h c (List.mem_append_right _ hc)⟩,fun h=>NS h.1 h.2⟩
variable{sz:Nat}
@[go_sem] def j87(q:UX)(enc:α->UM)[bK enc sz](l:List α):QL q (l.map enc)=True:=by simp[nM]
@[go_sem] def j37[Inhabited α](enc:α->UM)(l:List α)(k:Nat)(h:k<l.length):(l.map enc).getD k []=enc (nth l k):=by simp[nth,h]
@[go_sem] def j2p[Inhabited α](enc:α->UM)(l:List α)(k:Nat):(l.map enc).getD k (enc default)=enc (nth l k):=by unfold nth;rcases Nat.lt_or_ge k l.length with h|h<;>simp[h]
@[go_sem] def j4N(enc:α->UM)(l:List α)(k:Nat):(l.map enc).drop k=(l.drop k).map enc:=jE
@[go_sem] def j4O(enc:α->UM)(l:List α)(k:Nat):(l.map enc).take k=(l.take k).map enc:=jE
@[go_sem] def j5q(l:List α):l.take l.length=l:=jE
@[go_sem] def j0C{β:Type}(f:α->β)(l:List α):(l.map f).length=l.length:=jE
@[go_sem] def jvh(a b:List α):(a++b).length=a.length+b.length:=jE
@[go_sem] def j0H{β:Type}(f:α->β)(a b:List α):(a++b).map f=a.map f++b.map f:=jE
@[go_sem] def jvZ(i:Nat):([]:UQ).contains i=false:=(rfl)
@[go_sem] def jvd(i j:Nat)(l:UQ):(j::l).contains i=(i == j || l.contains i):=List.contains_cons
@[go_sem] def j08(e e':US)(sz sz':Nat)(a b:UK):(Row.aG e sz a=Row.aG e' sz' b)=(e=e'/\sz=sz'/\a=b):=jE
@[go_sem] def j07(e e':US)(a b:UM):(Row.var e a=Row.var e' b)=(e=e'/\a=b):=jE
attribute [go_sem] List.getD_cons_zero List.getD_cons_succ List.getD_nil List.set_cons_zero List.set_cons_succ List.set_nil List.map_nil List.map_cons List.getElem?_cons_zero List.getElem?_cons_succ List.getElem?_nil List.getElem?_toArray List.all_nil List.all_cons List.append_nil List.nil_append List.cons_append List.length_cons List.length_nil List.take_succ_cons List.take_zero List.take_nil List.drop_succ_cons List.drop_zero List.drop_nil List.flatten_nil List.flatten_cons
def RE(b:Bool):(b == true)=b:=by cases b<;>rfl
def Us(b:Bool):(b == false)=!b:=by cases b<;>rfl
attribute [go_sem] if_true if_false true_and and_true false_and and_false Option.map_some Option.map_none Option.getD_some Option.getD_none Option.bind_some Option.bind_none Option.isSome_some Option.isNone_some Option.isNone_none Option.some.injEq Bool.and_true Bool.true_and Bool.and_self Bool.not_true Bool.not_false RE Us Bool.false_eq_true Bool.true_eq_false reduceCtorEq imp_self implies_true forall_const or_true true_or or_self or_false false_or not_true_eq_false not_false_eq_true eq_self ne_eq and_self List.foldl_cons List.foldl_nil Bool.not_eq_true' Bool.or_true Bool.or_false Bool.true_or Bool.false_or decide_true decide_false Nat.zero_add Nat.add_zero Nat.le_refl Int.toNat_natCast
@[go_sem] def j1X(c x:Bool):wR c x false=(c && x):=by cases c<;>rfl
@[go_sem] def j3f(c y:Bool):wR c true y=(c || y):=by cases c<;>rfl
@[go_sem] def j2V(b:Bool):(false ^^ b)=b:=by cases b<;>rfl
@[go_sem] def j5W(b:Bool):(true ^^ b)=!b:=by cases b<;>rfl
@[go_sem] def jvb(id id':Nat)(Q:Exit->UI)(F:UM)(H:Hp):sG id Q (.exit id') F H=if id'=id then Q .normal F H else Q (.exit id') F H:=(rfl)
def mO(J:List (Nat×AV))(F:UM):UM:=J.foldl (fun F p=>F.set p.1 p.2) F
attribute [go_sem] mO nE Fi List.replicate_succ List.replicate_zero
def Next(n:Nat){S:Type}(W:List (Nat×Nat))(ok:S->Prop)(J:S->List (Nat×AV))(G:S->Hp)(μ:S->Nat)(F₀ F:UM)(H:Hp):Prop:=∃s,μ s<n/\dT F H (mO (J s) (nE W F₀)) (G s)/\ok s
variable{n:Nat}{W:List (Nat×Nat)}{F₀:UM}
def dY{S:Type}{ok:S->Prop}{J:S->List (Nat×AV)}{G:S->Hp}{μ:S->Nat}(s:S)(h1:ok s)(h2:μ s<n)(h4:H=G s)(h3:lc F (mO (J s) (nE W F₀))):Next n W ok J G μ F₀ F H:=⟨s,h2,by rw[<-h4];exact dT.pt H h3,h1⟩
def Ho{S:Type}{ok:S->Prop}{J:S->List (Nat×AV)}{G:S->Hp}{μ:S->Nat}(D:UX)(s:S)(h1:ok s)(h2:μ s<n)(hB:H.B.all (im D)=true)(hl:iO D H.l)(h4:⟨H.B,fB D H.l⟩=G s)(h3:bt D H F (mO (J s) (nE W F₀))):Next n W ok J G μ F₀ F H:=⟨s,h2,by rw[<-h4];exact dT.free D hB hl h3,h1⟩
def ee{c:Code}{Q:Exit->UI}{S:Type}(W:List (Nat×Nat))(ok:S->Prop)(J:S->List (Nat×AV))(G:S->Hp)(μ:S->Nat)(s₀:S)(h0:ok s₀)(U6:dT F H (mO (J s₀) (nE W F)) (G s₀))
  (round:∀s,ok s->∀K:UI,(∀F' H',Next (μ s) W ok J G μ F F' H'->K F' H')->dH P c (uq K Q) (mO (J s) (nE W F)) (G s)):dH P (.loop c) Q F H:=by
 refine Uc (S:=S) (fun s F' H'=>F'=mO (J s) (nE W F)/\H'=G s/\ok s) μ s₀ U6 ⟨rfl,rfl,h0⟩ ?_;rintro s F' H' ⟨rfl,rfl,hok⟩;refine round s hok _ ?_;rintro F'' VT ⟨s',h1,h2,h3⟩;exact⟨s',_,_,h1,h2,rfl,rfl,h3⟩
def dZ{F':UM}{H':Hp}(h1:H=H')(h2:lc F F'):dT F H F' H':=by rw[<-h1];exact dT.pt H h2
variable{out:UM}
def wq{e:Exit}(he:e=.normal\/e=.ret)(ho:jK P H F fn.results.toList=some out)(hok:kN P H F fn.results.toList)(r:AV)(H':Hp)(U6:iD (kI out) H r H')(hR:R r H'.l):lu P fn R e F H:=by rcases he with rfl|rfl<;>exact⟨out,r,H',ho,hok,U6,hR⟩
variable{t:US}{K:UJ}{zs:UW}
def yH(i:Nat)(hz:dR P t=some zs)(hi:H.get i=none)(h:K (.pt i 0 0 0) (H.put i (.var t (zs.map .raw)))):nS P H t K:=by unfold nS;rw[hz];exact⟨i,hi,h⟩
def zI{x:AV}(i:Nat)(ho:cQ x.cells=true)(hi:H.get i=none)(h:K (.pt i 0 0 0) (H.put i (.var t x.cells))):rf H t x K:=⟨ho,i,hi,h⟩
def zu:List U0->Nat->Nat
 |[],m=>m
 |(i,_)::l,m=>zu l (if m<=i then i+1 else m)
def nx(l:UL):Nat:=zu l 0
theorem Iy:∀(l:UL) (m i:Nat),zu l m<=i->aC l i=none/\m<=i
 |[],m,i,h=>⟨rfl,h⟩
 |(j,r)::l,m,i,h=>by
  obtain⟨h1,h2⟩:=Iy l _ i h;simp only[aC];split at h2
  ·rw[jN];exact⟨h1,jB⟩
  ·rw[jN];exact⟨h1,h2⟩
def yW(l:UL)(i:Nat)(h:nx l<=i):aC l i=none:=(Iy l 0 i h).1
attribute [go_sem] zu
attribute [go_sem] nx
@[go_sem] def j0U:((none:Option Operand).toArray.toList=[])/\(∀(x:Operand),(some x).toArray.toList=[x]):=by and_intros<;>(intros;rfl)
def My{A:Nat->Prop}{d:iy A}(h:A (nx H.l)):vV H A d:=⟨_,yW _ _ jl,h⟩
def Mu(hz:dR P t=some zs)(h:K (.pt (nx H.l) 0 0 0) (H.put (nx H.l) (.var t (zs.map .raw)))):nS P H t K:=yH _ hz (yW _ _ jl) h
def PT{x:AV}(ho:cQ x.cells=true)(h:K (.pt (nx H.l) 0 0 0) (H.put (nx H.l) (.var t x.cells))):rf H t x K:=zI _ ho (yW _ _ jl) h
variable{css:UK}
def Oj{e:US}(h1:aZ eJ css.flatten=true)(h2:K (.sl true sz css []) H):tN e sz css H K:=.inl ⟨h1,h2⟩
def IB{e:US}(i:Nat)(h0:0<sz)(hi:H.get i=none)(h2:K (.rs i css.length sz css.length) (H.put i (.aG e sz css))):tN e sz css H K:=.inr ⟨h0,i,hi,h2⟩
def Rg{e:US}(h0:0<sz)(h2:K (.rs (nx H.l) css.length sz css.length) (H.put (nx H.l) (.aG e sz css))):tN e sz css H K:=IB _ h0 (yW _ _ jl) h2
def Nu{e:US}(h0:0<sz)(h2:K (.rs (nx H.l) 0 sz 0) (H.put (nx H.l) (.aG e sz []))):tN e sz [] H K:=Rg h0 h2
def gM(a a':AV):Prop:=∀(w:NW) v,ax w a v->ax w a' v
def gM.refl(a:AV):gM a a:=fun _ _ h=>h
theorem gM.sl{x:Bool}{sz:Nat}{css:UK}{d d':UM}:gM (.sl x sz css d) (.sl false sz css d'):=fun w v hr=>by
 cases hr with
 |gz _ _ A c _=>exact .gz _ _ _ _ (fun e=>by cases e)
 |sl _ _ _ a c vs hn hc hx U' hb hH D' hr=>exact .sl _ _ _ a c vs hn hc (fun e=>by cases e) U' hb hH D' hr
def gM.nil{d:UM}:gM (.raw (.slice none 0 0)) (.sl false sz [] d):=fun w v hr=>by have:=df hr;subst this;exact .gz _ _ _ _ (fun e=>by cases e)
def qe:UM->UM->Prop
 |[],[]=>True
 |a::l,b::m=>gM a b/\qe l m
 |_,_=>False
theorem qe.get:∀{l m:UM},qe l m->l.length=m.length/\∀(i:Nat) a b,l[i]?=some a->m[i]?=some b->gM a b
 |[],[],_=>⟨rfl,fun i a b h=>by simp at h⟩
 |x::l,y::m,h=>by
  have ih:=qe.get h.2;refine⟨by simp[ih.1],fun i a b ha hb=>?_⟩;cases i with
  |zero=>simp at ha hb;subst ha hb;exact h.1
  |succ i=>exact ih.2 i a b (by simpa using ha) (by simpa using hb)
attribute [go_sem] kI
@[go_sem] def j2o(l:UM)(n m:Nat):(l.drop n).getD m .any=l.getD (n+m) .any:=by simp[List.getD_eq_getElem?_getD]
attribute [go_sem] List.drop_drop List.length_drop Array.toList_append
def SA{e:Exit}(he:e=.normal\/e=.ret)(ho:jK P H F fn.results.toList=some out)(hok:kN P H F fn.results.toList)(h1:kI out=r)(h2:H.l=l):lu P fn (fun r' l'=>r'=r/\l'=l) e F H:=
 wq he ho hok r H (iD.of_eq H h1) ⟨rfl,h2⟩
def IG{e:Exit}(D:UX)(he:e=.normal\/e=.ret)(ho:jK P H F fn.results.toList=some out)(hok:kN P H F fn.results.toList)(hB:H.B.all (im D)=true)(hl:iO D H.l)(hv:cY D H (kI out) r)(h2:fB D H.l=l):lu P fn (fun r' l'=>r'=r/\l'=l) e F H:=
 wq he ho hok r _ (iD.free D hB hl hv) ⟨rfl,h2⟩
def Ar{D:UX}{a a':AV}(h:a=a')(hq:a.all (im D)=true):cY D H a a':=by subst h;exact .same _ hq
def mX(B:UQ):UX:=fun i=>!(B.contains i)
def Px{e:Exit}(he:e=.normal\/e=.ret)(ho:jK P H F fn.results.toList=some out)(hok:kN P H F fn.results.toList)(hl:iO (mX H.B) H.l)(hv:cY (mX H.B) H (kI out) r)(h2:fB (mX H.B) H.l=l):lu P fn (fun r' l'=>r'=r/\l'=l) e F H:=
 IG (mX H.B) he ho hok (by rw[List.all_eq_true];intro x hx;simp[im,mX,hx]) hl hv h2
attribute [go_sem] jK kN
def E4{e:Exit}(rs:List ResultVar)(Xs:fn.results.toList=rs)(he:e=.normal\/e=.ret)(ho:jK P H F rs=some out)(hok:kN P H F rs)(hl:iO (mX H.B) H.l)(hv:cY (mX H.B) H (kI out) r)(h2:fB (mX H.B) H.l=l):lu P fn (fun r' l'=>r'=r/\l'=l) e F H:=by subst Xs;exact Px he ho hok hl hv h2
def RO{e:Exit}(rs:List ResultVar)(Xs:fn.results.toList=rs)(he:e=.normal\/e=.ret)(ho:jK P H F rs=some out)(hok:kN P H F rs)(h1:kI out=r)(h2:H.l=l):lu P fn (fun r' l'=>r'=r/\l'=l) e F H:=by subst Xs;exact SA he ho hok h1 h2
attribute [go_sem] mX cond_true cond_false uv
def po{S:Type}{ok:S->Prop}{J:S->List (Nat×AV)}{G:S->Hp}{μ:S->Nat}(L:UQ)(s:S)(h1:ok s)(h2:μ s<n)(hB:H.B.all (im fun i=>L.contains i)=true)(hl:iO (fun i=>L.contains i) H.l)(h4:⟨H.B,fB (fun i=>L.contains i) H.l⟩=G s)(h3:bt (fun i=>L.contains i) H F (mO (J s) (nE W F₀))):Next n W ok J G μ F₀ F H:=Ho _ s h1 h2 hB hl h4 h3
def Ua{D:UX}(a:AV):cY D H a .any:=.drop a
@[go_sem] def j1w(i:Nat)(e:US)(m sz:Nat)(css ys:UK)(H:Hp)(K:UJ):uz i e m sz m css ys H K=K (.rs i (m+ys.length) sz (m+ys.length)) (H.put i (.aG e sz (css++ys))):=if_pos rfl
def RN{enc:α->UM}(vars more ys:List α){e:US}{m:Nat}{yss:UK}(hm:m=vars.length+more.length)(hn:n=vars.length)(hc:css=(vars++more).map enc)(hy:yss=ys.map enc)
  (h:K (.rs i (vars.length+ys.length+(more.drop ys.length).length) sz (vars.length+ys.length)) (H.put i (.aG e sz ((vars++ys++more.drop ys.length).map enc)))):uz i e m sz n css yss H K:=by
 subst hm hn hc hy;unfold uz;split
 ·rename_i h';have:more=[]:=List.length_eq_zero_iff.1 jB;subst this;simpa using h
 ·have e1:max (vars.length+more.length) (vars.length+(ys.map enc).length)=vars.length+ys.length+(more.drop ys.length).length:=by simp;omega
  have e2:dz ((vars++more).map enc) vars.length (ys.map enc)=(vars++ys++more.drop ys.length).map enc:=by
   unfold dz;rw[<-List.map_take,List.take_left',<-List.map_drop,List.length_map,List.drop_append,List.drop_eq_nil_of_le jB,List.nil_append]
   ·simp
   ·rfl
  rw[e1,e2];simpa using h
def IK{b c:Bool}(h:b=c):AV.raw (.bool b)=AV.raw (.bool c):=by rw[h]
def Pg{k:IntKind}{b c:Int}(h:b=c):AV.raw (.int k b)=AV.raw (.int k c):=by rw[h]
section
variable {P:UY}{ops:Array Oper}{H:Hp}
def yg(ops:Array Oper)(o:Oper)(F G:UM):Prop:=(∀x∈o.op.operands.toList,cn G x=cn F x)/\∀j b,o.guard=some (j,b)->ll ops G j b=ll ops F j b
def QV(P:UY)(ops:Array Oper)(o:Oper)(F:UM)(H:Hp)(r:AV):Prop:=∀G,yg ops o F G->lK P ops o G H fun F' H'=>F'=cM G o.dst r/\H'=H
variable{K:UJ}
def yC{f:AV}{args:UM}{K':UJ}(h:fh P f args H K)(hk:∀r H,K r H->K' r H):fh P f args H K':=by
 unfold fh at*;split at h
 ·rcases h with h|h
  ·exact .inl ⟨h.1,h.2.mono hk⟩
  ·exact .inr fun w vs h1 h2=>by obtain⟨v,w',r,H',e,k,g⟩:=h w vs h1 h2;exact⟨v,w',r,H',e,hk _ _ k,g⟩
 ·exact h.elim
def pw(P:UY)(t:US)(n:Nat)(parts:List (Nat×AV))(K:AV->Prop):Prop:=match iu P t with
 |some e=>match dh P e with
  |some sz=>((parts.length=n/\wF sz 0 parts/\n*sz<=16777216/\(n*sz=0\/(dR P e).isSome=true))/\aZ eJ (mm parts).flatten=true)/\K (.sl true sz (mm parts) [])
  |none=>False
 |none=>False
variable{t:US}{n:Nat}{parts:List (Nat×AV)}
def Rk(h:pw P t n parts fun r=>K r H):mK P H t n parts K:=by
 unfold pw at h;unfold mK;split at h
 ·rename_i e he;split at h
  ·rename_i sz hs;try simp only[he,hs]
   exact⟨h.1.1,.inl ⟨h.1.2,h.2⟩⟩
  ·exact h.elim
 ·exact h.elim
variable{K:AV->Prop}
def CP(h:pw P t n parts K):∃r,K r/\∀K':AV->Prop,K' r->pw P t n parts K':=by
 unfold pw at h;split at h
 ·rename_i e he;split at h
  ·rename_i sz hs;exact⟨_,h.2,fun K' hk=>by unfold pw;rw[he];simp only[hs];exact⟨h.1,hk⟩⟩
  ·exact h.elim
 ·exact h.elim
def oE:Op->Bool
 |.binOp .eql ..=>true
 |.binOp .neq ..=>true
 |_=>false
variable{o:Oper}{F:UM}
def Rp{K:UI}(hg:o.guard=none)(hq:(vq P (cn F) H o.op).1)(hk:K (cM F o.dst (vq P (cn F) H o.op).2) H):lK P ops o F H K:=
 Sz hg (K7 (K:=fun r H'=>K (cM F o.dst r) H') hq hk)
def u5(hg:o.guard=none)(hq:(vq P (cn F) H o.op).1):QV P ops o F H (vq P (cn F) H o.op).2:=fun G hG=>by have e:vq P (cn G) H o.op=vq P (cn F) H o.op:=rY _ hG.1;exact Rp hg (by rw[e];exact hq) ⟨by rw[e],rfl⟩
variable{dst:Option Tmp}{after:Array Edge}
def Gs{f:Operand}{args:Array Operand}{ts:Array US}{ty:US}{pos:String}{r:AV}(h:fh P (cn F f) (args.toList.map (cn F)) H fun r' H'=>r'=r/\H'=H) :
  QV P ops ⟨dst,.call ⟨.value f,args,ts⟩,ty,pos,after,none⟩ F H r:=fun G hG=>by
 refine pF (K:=fun F' H'=>F'=cM G dst r/\H'=H) rfl ?_;show fh P (cn G f) (args.toList.map (cn G)) H _;rw[hG.1 f (by simp[Op.operands,Call.operands]),List.map_congr_left (g:=cn F) (fun x hx=>hG.1 x (by simp[Op.operands,Call.operands]at hx ⊢;exact .inr hx))];exact yC h fun r' H' ⟨e1,e2⟩=>⟨by rw[e1],e2⟩
def B4{parts:Array (Nat×Operand)}{ty:US}{pos:String}{r:AV}(h:pw P t n (parts.toList.map fun p=>(p.1,cn F p.2)) fun r'=>r'=r) :
  QV P ops ⟨dst,.buildSlice t n parts,ty,pos,after,none⟩ F H r:=fun G hG=>by
 refine pF (K:=fun F' H'=>F'=cM G dst r/\H'=H) rfl ?_;show mK P H t n (parts.toList.map fun p=>(p.1,cn G p.2)) (fun r_1 H'=>cM G dst r_1=cM G dst r/\H'=H);rw[List.map_congr_left (g:=fun p=>(p.1,cn F p.2)) (fun x hx=>by rw[hG.1 x.2 (by simp[Op.operands]at hx ⊢;exact⟨_,hx⟩)])];refine Rk ?_;obtain⟨r',e,hk⟩:=CP h;subst e;exact hk _ ⟨rfl,rfl⟩
variable{G:UM}
def B5(o:Op)(h:∀x∈o.operands.toList,cn G x=cn F x):gq G o=gq F o:=by unfold gq;rw[Bool.eq_iff_iff,List.all_eq_true,List.all_eq_true];constructor<;>intro hh x hx<;>have:=hh x hx<;>rw[h x hx]at*<;>exact this
def xX:Op->Bool
 |.pick ..=>true
 |.call { callee:=.invoke ..,.. }=>true
 |_=>false
def zF{g:Bool}(o:Op)(h:iU o=false)(hp:xX o=false):eO P F H g K o=if iM o then(g=true->gq F o=true/\(vq P (bG F) H o).1)/\K (.gd g (vq P (bG F) H o).2)else False:=by
 cases o
 case call c=>
  obtain⟨callee,args,ts⟩:=c;cases callee
  case value f=>cases h
  case invoke f m=>cases hp
  all_goals rfl
 case pick=>cases hp
 all_goals rfl
def Cn{g:Bool}{o:Op}(h:eO P F H g K o):∃r,K (.gd g r)/\∀(G:UM) (K':AV->Prop),(∀x∈o.operands.toList,cn G x=cn F x)->K' (.gd g r)->eO P G H g K' o:=by
 cases hc:iU o with
 |false=>
  by_cases hp:xX o=true
  ·cases o<;>try cases hp
   case call c=>
    obtain⟨callee,args,ts⟩:=c;cases callee<;>try cases hp
    rename_i f m;obtain⟨r,h1,h2⟩:=h;refine⟨r,h2,fun G K' hG hk=>⟨r,fun hg=>⟨B5 _ hG ▸ (h1 hg).1,?_⟩,hk⟩⟩;have he:∀x∈(Op.call ⟨.invoke f m,args,ts⟩).operands.toList,bG G x=bG F x:=fun x hx=>by unfold bG;rw[hG x hx]
    rw[he f (by simp[Op.operands,Call.operands]),List.map_congr_left (g:=bG F) (fun x hx=>he x (by simp[Op.operands,Call.operands]at hx ⊢;exact .inr hx))];exact(h1 hg).2
   rename_i c a b;refine⟨_,h.2,fun G K' hG hk=>?_⟩;have he:∀x∈(Op.pick c a b).operands.toList,bG G x=bG F x:=fun x hx=>by unfold bG;rw[hG x hx]
   show(g=true->(iT (cn G c)).1=true/\(oa (bG G c) (cn G a) (cn G b)).1)/\K' (.gd g (oa (bG G c) (cn G a) (cn G b)).2);rw[hG c (by simp[Op.operands]),hG a (by simp[Op.operands]),hG b (by simp[Op.operands]),he c (by simp[Op.operands])];exact⟨h.1,hk⟩
  have hp:xX o=false:=by simpa using hp
  rw[zF o hc hp]at h;split at h
  ·rename_i hq;refine⟨_,h.2,fun G K' hG hk=>?_⟩;have he:∀x∈o.operands.toList,bG G x=bG F x:=fun x hx=>by unfold bG;rw[hG x hx]
   rw[zF o hc hp,if_pos hq,rY _ he,B5 o hG];exact⟨h.1,hk⟩
  ·exact h.elim
 |true=>
  cases o<;>try cases hc
  rename_i c;obtain⟨callee,args,ts⟩:=c;cases callee<;>try cases hc
  rename_i f;obtain⟨r,h1,h2⟩:=h;refine⟨r,h2,fun G K' hG hk=>⟨r,fun hg=>⟨B5 _ hG ▸ (h1 hg).1,?_⟩,hk⟩⟩;have he:∀x∈(Op.call ⟨.value f,args,ts⟩).operands.toList,bG G x=bG F x:=fun x hx=>by unfold bG;rw[hG x hx]
  rw[he f (by simp[Op.operands,Call.operands]),List.map_congr_left (g:=bG F) (fun x hx=>he x (by simp[Op.operands,Call.operands]at hx ⊢;exact .inr hx))];exact(h1 hg).2
def AK{j:Nat}{want b:Bool}{r:AV}(hg:o.guard=some (j,want))(hb:ll ops F j want=some b)(hq:(iU o.op || iM o.op)=true)(h:eO P F H b (fun r'=>r'=r) o.op):QV P ops o F H r:=fun G hG=>by
 have hv:lq P ops (fun F' H'=>F'=cM G o.dst r/\H'=H) [o] G H:=by simp only[lq,hg,hG.2 j want hg,hb,hq,if_true];obtain⟨r',h1,h2⟩:=Cn h;exact h2 G _ hG.1 ⟨by rw[h1],trivial⟩
 have hs:=wH [o] G H hv;intro w tm Q next h1 h2 hn;have:=hs w tm (fun e a w=>match e with|.normal=>next a w|e=>Q e a w) h1 h2 hn;simp only[wpList]at this;unfold sH;split
 ·rename_i hw;rw[if_pos hw]at this;rcases this with h|⟨ha,hl⟩
  ·refine .inl ?_;unfold Oper.wp at*;generalize (execOp (Act.mk tm []).eval o).run P w=res at*;cases res with
   |ok n w'=>
    cases n<;>simp only[Oper.upon]at h ⊢
    case enter f args=>exact Calls.mono h fun e w'' he=>by cases e<;>exact he
    all_goals exact h
   |halt x w'=>cases x<;>simp only[Oper.upon]at h ⊢;exact h
  ·exact .inr ⟨ha,hl⟩
 ·rename_i hw;rw[if_neg hw]at this;exact this
def qD(P:UY)(ops:Array Oper)(H:Hp)(K:UM->Prop):List Oper->UM->Prop
 |[],F=>K F
 |o::rest,F=>match o.guard with
  |none=>match o.op with
   |.call { callee:=.value f,args,.. }=>∃r,(fh P (cn F f) (args.toList.map (cn F)) H fun r' H'=>r'=r/\H'=H)/\qD P ops H K rest (cM F o.dst r)
   |.buildSlice t n parts=>pw P t n (parts.toList.map fun p=>(p.1,cn F p.2)) fun r=>qD P ops H K rest (cM F o.dst r)
   |op=>(vq P (cn F) H op).1/\qD P ops H K rest (cM F o.dst (vq P (cn F) H op).2)
  |some (j,want)=>match ll ops F j want with
   |some b=>(iU o.op || iM o.op)=true/\eO P F H b (fun r=>qD P ops H K rest (cM F o.dst r)) o.op
   |none=>False
def yt(P:UY)(ops:Array Oper)(H:Hp)(K:UM->Prop):List Oper->UM->UM->Prop
 |[],F,rs=>rs=[]/\K F
 |o::rest,F,rs=>∃r VZ,rs=r::VZ/\QV P ops o F H r/\yt P ops H K rest (cM F o.dst r) VZ
theorem HL{K:UM->Prop}:∀(l:List Oper) (F:UM),qD P ops H K l F->∃rs,yt P ops H K l F rs
 |[],F,h=>⟨[],rfl,h⟩
 |o::rest,F,h=>by
  have mk:∀r,QV P ops o F H r->qD P ops H K rest (cM F o.dst r)->∃rs,yt P ops H K (o::rest) F rs:=fun r h1 h2=>by obtain⟨rs,h3⟩:=HL rest _ h2;exact⟨r::rs,r,rs,rfl,h1,h3⟩
  obtain⟨dst,op,ty,pos,after,guard⟩:=o;cases guard with
  |none=>
   unfold qD at h;simp only at h;split at h
   ·obtain⟨r,h1,h2⟩:=h;exact mk r (Gs h1) h2
   ·rename_i t n parts;obtain⟨r,h1,h2⟩:=CP h;exact mk r (B4 (h2 _ rfl)) h1
   ·exact mk _ (u5 rfl h.1) h.2
  |some g=>
   obtain⟨j,want⟩:=g;unfold qD at h;simp only at h;split at h
   ·rename_i b hb;obtain⟨hq,hv⟩:=h;obtain⟨r,h1,h2⟩:=Cn hv;exact mk _ (AK rfl hb hq (r:=.gd b r) (h2 F _ (fun _ _=>rfl) rfl)) h1
   ·exact h.elim
-- the order
def FL(os:List Oper)(rs:UM)(L:UX)(F:UM):Nat->UM
 |0=>F
 |m+1=>if L m then cM (FL os rs L F m) ((os[m]?).bind (·.dst)) (rs.getD m .any)else FL os rs L F m
def lL(os:List Oper)(rs:UM)(L:UX)(F:UM)(s:Nat):Nat->AV
 |0=>F.getD s .any
 |m+1=>if L m=true/\(os[m]?).bind (·.dst)=some s then rs.getD m .any else lL os rs L F s m
theorem lw(os:List Oper)(rs:UM)(L:UX)(F:UM):∀m,(FL os rs L F m).length=F.length
 |0=>rfl
 |m+1=>by
  unfold FL;split
  ·rw[<-lw os rs L F m];cases(os[m]?).bind (·.dst)<;>simp[cM]
  ·exact lw os rs L F m
theorem tJ(os:List Oper)(rs:UM)(L:UX)(F:UM){s:Nat}(hs:s<F.length):∀m,(FL os rs L F m).getD s .any=lL os rs L F s m
 |0=>rfl
 |m+1=>by
  have ih:=tJ os rs L F hs m;have hl:=lw os rs L F m;unfold FL lL;cases hd:(os[m]?).bind (·.dst)with
  |none=>
   have U8:¬(L m=true/\(none:Option Tmp)=some s):=fun h=>by have:=h.2;cases this
   rw[if_neg U8];cases hL:L m
   ·exact ih
   ·exact ih
  |some d=>
   cases hL:L m
   ·simpa using ih
   ·simp only[if_true,cM,true_and,Option.some.injEq];by_cases e:d=s
    ·subst e;simp[hl,hs]
    ·rw[if_neg e];have:(List.set (FL os rs L F m) d (rs.getD m .any)).getD s .any=(FL os rs L F m).getD s .any:=by simp[List.getElem?_set,e]
     rw[this,ih]
variable{os:List Oper}
def Eu{rs:UM}{L L':UX}{m m':Nat}(hG:G.length=F.length)(h:∀s,s<F.length->G.getD s .any=lL os rs L F s m):G=FL os rs L F m:=by
 refine List.ext_getElem? fun s=>?_
 rcases Nat.lt_or_ge s F.length with hs|hs
 ·have h1:=h s hs;rw[<-tJ os rs L F hs m]at h1;have h2:G[s]?=some (G.getD s .any):=by simp[hG,hs]
  have h3:(FL os rs L F m)[s]?=some ((FL os rs L F m).getD s .any):=by simp[lw,hs]
  rw[h2,h3,h1]
 ·rw[List.getElem?_eq_none jB,List.getElem?_eq_none (by rw[lw];omega)]
def looks(os:List Oper)(o:Oper):UQ:=
 (o.op.operands.toList.filterMap fun|.tmp t=>some t|_=>none)++
 (match o.guard with
   |some (g,_)=>((os[g]?).bind (·.dst)).toList
   |none=>[])
def qy:UQ->UQ
 |[]=>[]
 |x::l=>if(qy l).contains x then qy l else x::qy l
theorem Dp{x:Nat}:∀{l:UQ},x∈qy l<->x∈l
 |[]=>Iff.rfl
 |y::l=>by
  have ih:x∈qy l<->x∈l:=Dp;unfold qy;split
  ·rename_i h;rw[ih,List.mem_cons];refine⟨.inr,fun h'=>h'.elim (fun e=>?_) id⟩;subst e;exact ih.1 (List.contains_iff_mem.1 h)
  ·rw[List.mem_cons,List.mem_cons,ih]
def nC(Wm:List UQ)(o:Oper):List UQ:=Wm++[qy ((o.after.toList.filter (Region.binds .any)).flatMap fun e=>e.on::Wm.getD e.on [])]
def kQ(os:List Oper):List UQ:=os.foldl nC []
def uj(os:List Oper)(a b:Oper):Bool:=
 (match a.dst with
   |some d=>(looks os b).contains d || b.dst == some d
   |none=>false) ||
 (match b.dst with
   |some d=>(looks os a).contains d
   |none=>false)
def um(os:List Oper):Bool:=
 let ps:=kQ os
 (List.range os.length).all fun j=>match os[j]? with
  |some b=>(b.after.toList.all fun e=>!Region.binds .any e || decide (e.on<j)) &&
   (List.range j).all fun i=>match os[i]? with
    |some a=>!uj os a b || (ps.getD j []).contains i
    |none=>true
  |none=>true
theorem CN:∀(os:List Oper) (Wm:List UQ) (j:Nat),j<Wm.length->(os.foldl nC Wm)[j]?=Wm[j]?
 |[],Wm,j,_=>rfl
 |o::os,Wm,j,h=>by simp only[List.foldl_cons];rw[CN os _ j (by simp[nC];omega)];unfold nC;rw[List.getElem?_append_left h]
theorem J1:∀(os:List Oper) (Wm:List UQ) (j:Nat) (o:Oper),os[j]?=some o->(os.foldl nC Wm).getD (Wm.length+j) []=qy ((o.after.toList.filter (Region.binds .any)).flatMap fun e=>e.on::(if e.on<Wm.length+j then(os.foldl nC Wm).getD e.on []else[]))
 |[],Wm,j,o,h=>by simp at h
 |o'::os,Wm,0,o,h=>by
  simp only[List.getElem?_cons_zero,Option.some.injEq]at h;subst h;simp only[List.foldl_cons,Nat.add_zero];have h1:(os.foldl nC (nC Wm o')).getD Wm.length []=qy ((o'.after.toList.filter (Region.binds .any)).flatMap fun e=>e.on::Wm.getD e.on []):=by rw[List.getD_eq_getElem?_getD,CN os _ _ (by simp[nC])];unfold nC;rw[List.getElem?_append_right jl];simp
  rw[h1];congr 2
  funext e
  congr 1
  split
  ·rename_i I';rw[List.getD_eq_getElem?_getD,List.getD_eq_getElem?_getD,CN os _ _ (by simp[nC];omega)];unfold nC;rw[List.getElem?_append_left I']
  ·rename_i hge;rw[List.getD_eq_getElem?_getD,List.getElem?_eq_none jB];rfl
 |o'::os,Wm,j+1,o,h=>by
  simp only[List.foldl_cons];have:=J1 os (nC Wm o') j o (by simpa using h);have e:(nC Wm o').length+j=Wm.length+(j+1):=by simp[nC];omega
  rw[e]at this;exact this
def D7{j:Nat}(h:os[j]?=some o):(kQ os).getD j []=qy ((o.after.toList.filter (Region.binds .any)).flatMap fun e=>e.on::(if e.on<j then(kQ os).getD e.on []else[])):=by have:=J1 os [] j o h;simp only[List.length_nil,Nat.zero_add]at this;exact this
def oe(os:List Oper)(L:UX):Prop:=∀j o,os[j]?=some o->L j=true->∀e∈o.after.toList,Region.binds .any e=true->L e.on=true
def vA{L:UX}(hc:oe os L)(I':∀j o,os[j]?=some o->∀e∈o.after.toList,Region.binds .any e=true->e.on<j):∀n j,j<n->∀o,os[j]?=some o->(∀e∈o.after.toList,Region.binds .any e=true->L e.on=true)->∀i∈(kQ os).getD j [],L i=true:=by
 intro n;induction n with
 |zero=>intro j hj;omega
 |succ n ih=>
  intro j hj o ho hL i hi;rw[D7 ho,Dp]at hi;obtain⟨e,he,hi⟩:=List.mem_flatMap.1 hi;obtain⟨XK,ZM⟩:=List.mem_filter.1 he;have ZN:=hL e XK ZM;rcases List.mem_cons.1 hi with rfl|hi
  ·exact ZN
  ·rw[if_pos (I' j o ho e XK ZM)]at hi;have hlt':=I' j o ho e XK ZM;have hjlen:=(List.getElem?_eq_some_iff.1 ho).1;have Xe:os[e.on]?=some (os[e.on]' jB):=List.getElem?_eq_getElem jB;exact ih e.on jB _ Xe (fun e' h1 h2=>hc _ _ Xe ZN e' h1 h2) i hi
theorem Ct(o:Oper)(os:List Oper)(r:AV)(rs:UM)(F:UM):∀m,FL (o::os) (r::rs) (fun _=>true) F (m+1)=FL os rs (fun _=>true) (cM F o.dst r) m
 |0=>by simp[FL]
 |m+1=>by have ih:=Ct o os r rs F m;rw[FL,if_pos rfl,ih,FL,if_pos rfl];simp
theorem GJ{K:UM->Prop}:∀(l:List Oper) (F:UM) (rs:UM),yt P ops H K l F rs->(∀i o,l[i]?=some o->QV P ops o (FL l rs (fun _=>true) F i) H (rs.getD i .any))/\K (FL l rs (fun _=>true) F l.length)
 |[],F,rs,h=>⟨fun i o hi=>by simp at hi,h.2⟩
 |o::l,F,rs,h=>by
  obtain⟨r,VZ,rfl,h1,h2⟩:=h;obtain⟨g1,g2⟩:=GJ l _ VZ h2;refine⟨fun i o' hi=>?_,by rw[List.length_cons,Ct];exact g2⟩;cases i with
  |zero=> simp only[List.getElem?_cons_zero,Option.some.injEq]at hi;subst hi;exact h1
  |succ i=> rw[Ct];exact g1 i o' (by simpa using hi)
def wv(h:um os=true):(∀j o,os[j]?=some o->∀e∈o.after.toList,Region.binds .any e=true->e.on<j)/\
  ∀i j a b,i<j->os[i]?=some a->os[j]?=some b->uj os a b=true->i∈(kQ os).getD j []:=by
 simp only[um,List.all_eq_true,List.mem_range]at h;constructor
 ·intro j o ho e he hb;have:=h j (List.getElem?_eq_some_iff.1 ho).1;rw[ho]at this;simp only[Bool.and_eq_true,List.all_eq_true]at this;have:=this.1 e he;simpa[hb]using this
 ·intro i j a b hij ha hb hc;have:=h j (List.getElem?_eq_some_iff.1 hb).1;rw[hb]at this;simp only[Bool.and_eq_true,List.all_eq_true,List.mem_range]at this;have:=this.2 i hij;rw[ha]at this;simp only[hc,Bool.not_true,Bool.false_or]at this;simpa using this
theorem HF{os:List Oper}{rs F:UM}{L:UX}{i s:Nat}(hw:∀k o,os[k]?=some o->o.dst=some s->L k=decide (k<i)):∀m,lL os rs L F s m=lL os rs (fun _=>true) F s (min m i)
 |0=>by simp[lL]
 |m+1=>by
  have ih:=HF (rs:=rs) (F:=F) hw m;rw[lL];by_cases hd:(os[m]?).bind (·.dst)=some s
  ·obtain⟨o,ho,hs⟩:=Option.bind_eq_some_iff.1 hd;have hL:=hw m o ho hs;by_cases hm:m<i
   ·rw[if_pos ⟨by rw[hL];simpa using hm,hd⟩,show min (m+1) i=m+1 from jB,lL,if_pos ⟨rfl,hd⟩]
   ·rw[if_neg (by rw[hL];simp[hm]),ih,show min (m+1) i=min m i from jB]
  ·rw[if_neg (by simp[hd]),ih];by_cases hm:m<i
   ·rw[show min (m+1) i=m+1 from jB,show min m i=m from jB,lL,if_neg (by simp[hd])]
   ·rw[show min (m+1) i=min m i from jB]
theorem Dr{os:List Oper}{rs F:UM}{L L':UX}{i s:Nat}{o:Oper}(ho:os[i]?=some o)(Xf:∀k,L' k=(L k || k == i))(hw:∀k o',os[k]?=some o'->o'.dst=some s->L k=decide (k<i))(hs:o.dst=some s):∀m,i<m->lL os rs L' F s m=rs.getD i .any
 |0,h=>by omega
 |m+1,h=>by
  rw[lL];by_cases hm:m=i
  ·subst hm;rw[if_pos ⟨by rw[Xf];simp,by rw[ho];exact hs⟩]
  ·rw[if_neg]
   ·exact Dr ho Xf hw hs m jB
   ·rintro⟨h1,h2⟩;obtain⟨o',Xe,Yl⟩:=Option.bind_eq_some_iff.1 h2;rw[Xf,hw m o' Xe Yl]at h1;simp at h1;omega
theorem B3{os:List Oper}{rs F:UM}{L L':UX}{i s:Nat}{o:Oper}(ho:os[i]?=some o)(Xf:∀k,L' k=(L k || k == i))(hs:o.dst≠some s):∀m,lL os rs L' F s m=lL os rs L F s m
 |0=>rfl
 |m+1=>by
  have ih:=B3 (rs:=rs) (F:=F) ho Xf hs m;rw[lL,lL,ih,Xf];by_cases hm:m=i
  ·subst hm;rw[ho];simp[hs]
  ·simp[hm]
def MQ{t:Nat}(h:Operand.tmp t∈o.op.operands.toList):t∈looks os o:=
 List.mem_append_left _ (List.mem_filterMap.2 ⟨_,h,rfl⟩)
def D8(hl:F.length=G.length)(h:∀s∈looks os o,s<F.length->G.getD s .any=F.getD s .any):yg os.toArray o F G:=by
 have VL:∀s∈looks os o,G[s]?=F[s]?:=fun s hs=>by
  rcases Nat.lt_or_ge s F.length with h1|h1
  ·have:=h s hs h1;have e1:G[s]?=some (G.getD s .any):=by simp[<-hl,h1]
   have e2:F[s]?=some (F.getD s .any):=by simp[h1]
   rw[e1,e2,this]
  ·rw[List.getElem?_eq_none jB,List.getElem?_eq_none h1]
 constructor
 ·intro x hx;cases x with
  |tmp t=>simp only[cn,List.getD_eq_getElem?_getD,VL t (MQ hx)]
  |const v=>rfl
  |global g=>rfl
  |func f=>rfl
 ·intro j b hg;unfold ll;cases hd:(os.toArray[j]?).bind (·.dst)with
  |none=>rfl
  |some d=> simp only;rw[VL d (List.mem_append_right _ (by rw[hg];simp at hd ⊢;simpa using hd))]
variable{Q:Exit->UI}
def Nq{l:List Oper}{rs:UM}(hok:um l=true)(Z':∀i o,l[i]?=some o->QV P l.toArray o (FL l rs (fun _=>true) F i) H (rs.getD i .any))(hK:Q .normal (FL l rs (fun _=>true) F l.length) H)(w0:NW) :
  ∀(fuel:Nat) (listed:Array Bool),listed.size=l.length->oe l (fun i=>listed.getD i false)->(List.range l.length).countP (fun i=>!listed.getD i false)=fuel->
   ∀(w:NW) tm,aJ w H->bs w (FL l rs (fun i=>listed.getD i false) F l.length) tm->Ext w0 H w H->wpAny P .any l.toArray (gZ Q w0 H) fuel listed ⟨tm,[]⟩ w.toWorld:=by
 obtain⟨I',U4⟩:=wv hok
 -- when all are done
 have fin:∀(listed:Array Bool),(∀i,i<l.length->listed.getD i false=true)->∀(w:NW) tm,aJ w H->bs w (FL l rs (fun i=>listed.getD i false) F l.length) tm->Ext w0 H w H->gZ Q w0 H .normal ⟨tm,[]⟩ w.toWorld:=by
  intro listed Vj w tm h1 h2 h3;have e:FL l rs (fun i=>listed.getD i false) F l.length=FL l rs (fun _=>true) F l.length:=by
   have gen:∀m,m<=l.length->FL l rs (fun i=>listed.getD i false) F m=FL l rs (fun _=>true) F m:=by
    intro m;induction m with
    |zero=>intro _;rfl
    |succ m ih=>intro hm;rw[FL,FL,ih jB,Vj m jB]
   exact gen _ jl
  rw[e]at h2;exact⟨tm,_,H,w,rfl,rfl,hK,h1,h2,h3.pU⟩
 intro fuel;induction fuel with
 |zero=>
  intro listed U' Xt YR w tm h1 h2 h3;have Vj:∀i,i<l.length->listed.getD i false=true:=fun i hi=>by have:=(List.countP_eq_zero.1 YR) i (List.mem_range.2 hi);simpa using this
  refine⟨?_,fin listed Vj w tm h1 h2 h3⟩;rw[List.eq_nil_iff_forall_not_mem];intro j hj;obtain⟨hj0,o,ho,_⟩:=mem_ready.1 hj;have Zo:j<l.length:=by have:=(Array.getElem?_eq_some_iff.1 ho).1;simpa using this
  have:=Vj j Zo;simp[U',Zo]at this hj0;rw[this]at hj0;cases hj0
 |succ fuel ih=>
  intro listed U' Xt YR w tm h1 h2 h3;refine⟨fun haa=>?_,fun i hi=>?_⟩
  ·-- some operation is ready
   exfalso;have hex:∃i,i<l.length/\listed.getD i false=false:=by have Wg:0<(List.range l.length).countP (fun i=>!listed.getD i false):=jB;obtain⟨i,hi,hp⟩:=List.countP_pos_iff.1 Wg;exact⟨i,List.mem_range.1 hi,by simpa using hp⟩
   obtain⟨i,⟨hi,hf⟩,XV⟩:=exists_least hex;have ho:l[i]?=some l[i]:=List.getElem?_eq_getElem hi;have:i∈Region.ready .any l.toArray listed:=mem_ready.2 ⟨by simp[U',hi]at hf ⊢;exact hf,l[i],by simp[hi],fun e he hb=>by
    have h4:=I' i _ ho e (by simpa using he) hb;cases hv:listed.getD e.on false with
    |true=>rfl
    |false=>have:=XV e.on ⟨jB,hv⟩;omega⟩
   rw[haa]at this;cases this
  ·obtain⟨Xg,o,ho,Wc⟩:=mem_ready.1 hi;have Xe:l[i]?=some o:=by simpa using ho
   have WA:=(List.getElem?_eq_some_iff.1 Xe).1;have Yq:listed.getD i false=false:=by simp[U',WA]at Xg ⊢;exact Xg
   have Wq:∀e∈o.after.toList,Region.binds .any e=true->listed.getD e.on false=true:=fun e he hb=>Wc e (by simpa using he) hb
   have VA:=vA Xt I' (i+1) i jB o Xe Wq
   -- who writes where o touches
   have hwr:∀k o' s,l[k]?=some o'->o'.dst=some s->(s∈looks l o\/o.dst=some s)->listed.getD k false=decide (k<i):=by
    intro k o' s hk hs VG;rcases Nat.lt_trichotomy k i with h|h|h
    ·rw[decide_eq_true h];refine VA k (U4 k i o' o h hk Xe ?_);unfold uj;rw[hs];rcases VG with h5|h5
     ·simp[h5]
     ·simp[h5]
    ·subst h;simpa using Yq
    ·rw[decide_eq_false jB];cases hv:listed.getD k false with
     |false=>rfl
     |true=>
      have WE:i∈(kQ l).getD k []:=U4 i k o o' h Xe hk (by
       unfold uj;rw[hs];rcases VG with h5|h5
       ·simp[h5]
       ·simp[h5])
      have:=vA Xt I' (k+1) k jB o' hk (fun e he hb=>Xt k o' hk hv e he hb) i WE;rw[Yq]at this;cases this
   have WB:yg l.toArray o (FL l rs (fun _=>true) F i) (FL l rs (fun i=>listed.getD i false) F l.length):=by
    refine D8 (by rw[lw,lw]) fun s hs O'=>?_
    rw[lw]at O';rw[tJ _ _ _ _ O',tJ _ _ _ _ O',HF (fun k o' hk hd=>hwr k o' s hk hd (.inl hs)),show min l.length i=i from jB]
   have W9:=Z' i o Xe _ WB;have Xf:∀k,(listed.setIfInBounds i true).getD k false=(listed.getD k false || k == i):=fun k=>by
    by_cases hk:k=i
    ·subst hk;simp[U',WA]
    ·simp[Array.getElem?_setIfInBounds_ne (Ne.symm hk),hk]
   have X9:cM (FL l rs (fun i=>listed.getD i false) F l.length) o.dst (rs.getD i .any)=FL l rs (fun k=>(listed.setIfInBounds i true).getD k false) F l.length:=by
    refine Eu (m':=0) (L':=fun _=>true) (by cases o.dst<;>simp[cM,lw]) fun s hs=>?_
    by_cases hd:o.dst=some s
    ·rw[Dr (L:=fun i=>listed.getD i false) Xe Xf (fun k o' hk hd'=>hwr k o' s hk hd' (.inr hd)) hd _ WA,hd];simp[cM,lw,hs]
    ·rw[B3 (L:=fun i=>listed.getD i false) Xe Xf hd,<-tJ _ _ _ _ hs];cases hd':o.dst with
     |none=>rfl
     |some d=>
      have:d≠s:=fun e=>hd (by rw[hd',e])
      simp[cM,List.getElem?_set,this]
   have:=W9 w tm (gZ Q w0 H) (wpAny P .any l.toArray (gZ Q w0 H) fuel (listed.setIfInBounds i true)) h1 h2 (by
    rintro VH w' F' H' ⟨rfl,rfl⟩ g1 g2 g3;refine ih (listed.setIfInBounds i true) (by simpa using U') ?_ ?_ w' VH g1 (by rw[<-X9];exact g2) (h3.trans g3)
    ·intro j o' hj WZ e he hb;simp only[Xf]at WZ ⊢;rcases Bool.or_eq_true_iff.1 WZ with h6|h6
     ·have h7:listed.getD e.on false=true:=Xt j o' hj h6 e he hb;rw[h7];rfl
     ·obtain rfl:j=i:=by simpa using h6
      rw[Xe]at hj;cases hj;rw[Wq e he hb];rfl
    ·have:∀(n:Nat),i<n->(List.range n).countP (fun k=>!(listed.setIfInBounds i true).getD k false)+1=(List.range n).countP (fun k=>!listed.getD k false):=by
      intro n;induction n with
      |zero=>intro h;omega
      |succ n ihn=>
       intro h;rw[List.range_succ,List.countP_append,List.countP_append];by_cases hn:n=i
       ·subst hn;have:(List.range n).countP (fun k=>!(listed.setIfInBounds n true).getD k false)=(List.range n).countP (fun k=>!listed.getD k false):=by
         refine List.countP_congr fun k hk=>?_
         rw[Xf];have:k≠n:=by have:=List.mem_range.1 hk;omega
         simp[this]
        rw[this];simp only[List.countP_singleton,Xf,Yq];simp
       ·rw[<-ihn jB];simp only[List.countP_singleton,Xf];have:(n == i)=false:=by simpa using hn
        rw[this,Bool.or_false];omega
     have:=this l.length WA;omega)
   unfold wpOp;rw[ho];exact this
def SU{id:Nat}{l:List Oper}(hm:P.follows .mixedOrders=true)(hok:um l=true)(h:qD P l.toArray H (fun F'=>Q .normal F' H) l F):dH P (.region id l.toArray true) Q F H:=fun w tm h1 h2=>by
 obtain⟨rs,B'⟩:=HL l F h;obtain⟨Z',hK⟩:=GJ l F rs B';have hz:∀i,(Array.replicate l.toArray.size false).getD i false=false:=fun i=>by by_cases hi:i<l.length<;>simp[Array.getElem?_replicate,hi]
 refine wp_region_any hm ?_;have e0:FL l rs (fun i=>(Array.replicate l.toArray.size false).getD i false) F l.length=F:=by
  have gen:∀m,FL l rs (fun i=>(Array.replicate l.toArray.size false).getD i false) F m=F:=by
   intro m;induction m with
   |zero=>rfl
   |succ m ih=>rw[FL,hz,if_neg jE,ih]
  exact gen _
 exact Nq hok Z' hK w l.toArray.size (Array.replicate l.toArray.size false) jE (fun j o _ hj=>by have:=(hz j).symm.trans hj;cases this) (by rw[List.countP_eq_length.2 (fun i _=>by rw[hz];rfl)];simp) (w.to w.drew) tm h1.drew (by rw[e0];exact h2.ext (Ext.drew w H)) (Ext.drew w H)
end
end Go.Gd