/- Lemmas. No conditions. -/
import Derived.Test.YtijdhbokcdpklaaGreatDoorGdE
import Derived.Deep.RegionWith
import Derived.Laws.Append
set_option linter.all false
namespace Go.Gd
open Go
section
variable {P:UP}{w:NW}{H:Hp}
variable{a:Option AV}{v:Option Value}
def l7{i:Option Int}(ha:rT a=some i)(hr:∀x y,a=some x->v=some y->ax w x y)(hs:a.isSome=v.isSome):(i=none/\v=none)\/∃k n,i=some n/\v=some (.int k n):=by
 cases a with
 |none=>
  simp[rT]at ha;cases v with
  |none=>exact .inl ⟨ha.symm,rfl⟩
  |some _=>simp at hs
 |some x=>
  cases v with
  |none=>simp at hs
  |some y=>
   unfold rT at ha;split at ha<;>try cases ha
   ·rename_i h;cases h
   ·rename_i k n h;cases h;have:=db (hr _ _ rfl rfl);subst this;exact .inr ⟨k,n,rfl,rfl⟩
variable{vlo vhi:Option Value}{lo:Option Int}
def th{isSlice:Bool}{len cap:Nat}{hi:Option Int}(Ul:(lo=none/\vlo=none)\/∃k n,lo=some n/\vlo=some (.int k n))(XH:(hi=none/\vhi=none)\/∃k n,hi=some n/\vhi=some (.int k n))
  (h0:0<=lo.getD 0) (h1:lo.getD 0<=hi.getD len) (h2:hi.getD len<=cap):(Instr.sliceBounds isSlice len cap vlo vhi none).run P w=.ok ((lo.getD 0).toNat,(hi.getD len).toNat,cap) w:=by
 rcases Ul with⟨rfl,rfl⟩|⟨k,n,rfl,rfl⟩<;>rcases XH with⟨rfl,rfl⟩|⟨k',m,rfl,rfl⟩<;>simp only[Option.getD_some,Option.getD_none]at*
 ·simp[Instr.sliceBounds]
 ·simp[Instr.sliceBounds,run_sliceBound w _ _ _ _ (show 0<=m from jB) h2]
 ·simp[Instr.sliceBounds,run_sliceBound w _ _ _ _ h0 h1]
 ·simp[Instr.sliceBounds,run_sliceBound w _ _ _ _ (show 0<=m from jB) h2,run_sliceBound w _ _ _ _ h0 (show n<=((m.toNat:Nat):Int) from jB)]
def EC{len cap:Nat}{k k2:IntKind}{m q:Int}(Ul:(lo=none/\vlo=none)\/∃k n,lo=some n/\vlo=some (.int k n))
  (h0:0<=lo.getD 0) (h1:lo.getD 0<=q) (h2:q<=m) (h3:m<=cap):(Instr.sliceBounds true len cap vlo (some (.int k2 q)) (some (.int k m))).run P w.toWorld=.ok ((lo.getD 0).toNat,q.toNat,m.toNat) w.toWorld:=by
 rcases Ul with⟨rfl,rfl⟩|⟨k1,n,rfl,rfl⟩<;>simp only[Option.getD_some,Option.getD_none]at*
 ·simp[Instr.sliceBounds,run_sliceBound w.toWorld _ _ _ _ (show 0<=m from jB) h3,run_sliceBound w.toWorld _ _ _ _ (show 0<=q from jB) (show q<=((m.toNat:Nat):Int) from jB)]
 ·simp[Instr.sliceBounds,run_sliceBound w.toWorld _ _ _ _ (show 0<=m from jB) h3,run_sliceBound w.toWorld _ _ _ _ (show 0<=q from jB) (show q<=((m.toNat:Nat):Int) from jB),run_sliceBound w.toWorld _ _ _ _ h0 (show n<=((q.toNat:Nat):Int) from jB)]
variable{vmx:Option Value}
def oe{t e:UJ}{sz:Nat}(hu:P.underlying t=some (.slice e))(hs:dc P e=some sz){A:Option Addr}{n c lo hi mx:Nat}(hb:(Instr.sliceBounds true n c vlo vhi vmx).run P w.toWorld=.ok (lo,hi,mx) w.toWorld) :
  ∃A',(Instr.sliceAt t (.slice A n c) vlo vhi vmx).run P w.toWorld=.ok (.slice A' (hi-lo) (mx-lo)) w.toWorld/\((A=none/\A'=none)\/∃ad,A=some ad/\A'=some (if mx=lo then ad else ad.add (lo*sz))):=by
 cases A with
 |none=>exact⟨none,by simp[Instr.sliceAt,run_underlying hu,Instr.slice,hb,lL hs],.inl ⟨rfl,rfl⟩⟩
 |some ad=>exact⟨some (if mx=lo then ad else ad.add (lo*sz)),by simp only[Instr.sliceAt,run_underlying hu,Instr.slice,hb,lL hs,Sem.run_bind,Result.andThen_ok,Sem.run_pure,Option.map_some];split<;>rfl,.inr ⟨ad,rfl,rfl⟩⟩
def zM{i:Int}(ha:rT a=some (some i))(hr:∀x y,a=some x->v=some y->ax w x y)(hs:a.isSome=v.isSome):∃k,v=some (.int k i):=by
 rcases l7 ha hr hs with⟨h,_⟩|⟨k,n,h,rfl⟩
 ·cases h
 ·cases h;exact⟨k,rfl⟩
def p7(ha:rT a=some none)(hr:∀x y,a=some x->v=some y->ax w x y)(hs:a.isSome=v.isSome):v=none:=by
 rcases l7 ha hr hs with⟨_,h⟩|⟨k,n,h,rfl⟩
 ·exact h
 ·cases h
def Nv(t:UJ){a:AV}{lo hi mx:Option AV}{va:Value}(ha:ax w a va)(Ul:∀x y,lo=some x->vlo=some y->ax w x y)(slo:lo.isSome=vlo.isSome)
  (XH:∀x y,hi=some x->vhi=some y->ax w x y) (shi:hi.isSome=vhi.isSome) (Xv:∀x y,mx=some x->vmx=some y->ax w x y) (smx:mx.isSome=vmx.isSome):j8 P w (Instr.sliceAt t va vlo vhi vmx) (tu P t a lo hi mx):=by
 intro hq;unfold tu at*;split at hq<;>try exact hq.elim
 ·rename_i s l h e1 e2 e3;obtain rfl:=p7 e3 Xv smx;have:=db ha;subst this;have ht:=yT hq.1;obtain⟨h0,h1,h2⟩:=hq.2;have hb:=th (P:=P) (w:=w) (isSlice:=false) (l7 e1 Ul slo) (l7 e2 XH shi) h0 h1 h2;exact⟨_,by simp[Instr.sliceAt,run_underlying ht,Instr.slice,hb],.raw _⟩
 ·rename_i x sz css d l h e1 e2 e3;obtain rfl:=p7 e3 Xv smx;obtain⟨e,hu,hs⟩:=oI hq.1;obtain⟨h0,h1,h2⟩:=hq.2;have key:∀n c:Nat,n=css.length->n<=c->(Instr.sliceBounds true n c vlo vhi none).run P w.toWorld=.ok ((l.getD 0).toNat,(h.getD css.length).toNat,c) w.toWorld:=fun n c hn hc=>by
   subst hn;exact th (P:=P) (w:=w) (isSlice:=true) (l7 e1 Ul slo) (l7 e2 XH shi) h0 h1 jB
  generalize hL:l.getD 0=L at*;generalize hh:h.getD (css.length:Int)=Hh at*;obtain⟨Ln,rfl⟩:=Int.eq_ofNat_of_zero_le h0;obtain⟨Hn,rfl⟩:=Int.eq_ofNat_of_zero_le (show(0:Int)<=Hh from jB);simp only[Int.toNat_natCast]at key ⊢;have I':((css.drop Ln).take (Hn-Ln)).length=Hn-Ln:=by simp;omega
  cases ha with
  |gG _ _ A c hx=>
   obtain⟨A',B',_⟩:=oe hu hs (A:=A) (key 0 c rfl (Nat.zero_le _));obtain rfl:Hn=0:=by simp at h2;omega
   refine⟨_,B',?_⟩;simp only[Nat.zero_sub,List.take_zero];exact .gG _ _ _ _ (fun h=>by cases h)
  |sl _ _ _ ad c vs hn hc hx Uu Vv hH D' hr=>
   obtain⟨A',B',hA⟩:=oe hu hs (A:=some ad) (key _ c rfl hc);refine⟨_,B',?_⟩;by_cases hz:Hn-Ln=0
   ·rw[hz,List.take_zero];exact .gG _ _ _ _ (fun h=>by cases h)
   ·rcases hA with⟨h,_⟩|⟨ad',h,rfl⟩
    ·cases h
    cases h;rw[jN];have hg:∀i,i<Hn-Ln->((css.drop Ln).take (Hn-Ln)).getD i []=css.getD (Ln+i) []:=fun i hi=>by simp[List.getElem?_take,hi]
    have:=ax.sl (w:=w) (d:=d) false sz ((css.drop Ln).take (Hn-Ln)) (ad.add (Ln*sz)) (c-Ln) (fun j=>vs (Ln*sz+j)) jB jB (fun h=>by cases h) (fun cs Vy=>Uu _ (List.mem_of_mem_drop (List.mem_of_mem_take Vy))) (by rw[pK];exact Vv) (by rw[pK];exact hH)
     (fun i j hi hj=>by
      rw[xF,show Ln*sz+(i*sz+j)=(Ln+i)*sz+j by rw[Nat.add_mul];omega];exact D' _ j jB hj) (fun i j u hi hu=>by
      rw[hg i jB]at hu;rw[show Ln*sz+(i*sz+j)=(Ln+i)*sz+j by rw[Nat.add_mul];omega];exact hr _ j u jB hu)
    rw[I']at this;exact this
 ·rename_i d m sz n h e1 e2 e3;obtain rfl:=p7 e3 Xv smx;obtain rfl:=p7 e1 Ul slo;obtain⟨e,hu,hs⟩:=oI hq.1;obtain⟨h1,h2⟩:=hq.2;have key:∀c:Nat,n<=c->(Instr.sliceBounds true n c none vhi none).run P w.toWorld=.ok (0,(h.getD n).toNat,c) w.toWorld:=fun c hc=>by
   have:=th (P:=P) (w:=w) (isSlice:=true) (len:=n) (cap:=c) (lo:=none) (vlo:=none) (.inl ⟨rfl,rfl⟩) (l7 e2 XH shi) jE (by simpa using h1) jB;simpa using this
  cases ha with
  |iJ _ _ _ A hn=>
   obtain⟨A',B',_⟩:=oe hu hs (A:=A) (key 0 (Nat.zero_le _));have h0:(h.getD 0).toNat=0:=by simp at h2;omega
   refine⟨_,B',?_⟩;simp only[Nat.sub_zero,Int.ofNat_zero];rw[h0];exact .iJ d m sz A' hn
  |rs _ _ _ _ b t c hn hc Uq V4=>
   obtain⟨A',B',hA⟩:=oe hu hs (A:=some ⟨b,0,none⟩) (key c Uq);refine⟨_,B',?_⟩;rcases hA with⟨h',_⟩|⟨ad',h',rfl⟩
   ·cases h'
   cases h';have:(if c=0 then(⟨b,0,none⟩:Addr)else(⟨b,0,none⟩:Addr).add (0*sz))=⟨b,0,none⟩:=by rw[Nat.zero_mul,CA];simp
   rw[this];simp only[Nat.sub_zero];exact .rs d m sz _ b t c hn hc jB V4
 ·rename_i d m sz n l h e1 e2 e3;obtain rfl:=p7 e3 Xv smx;obtain⟨e,hu,hs⟩:=oI hq.1;obtain⟨h0,h1,h2⟩:=hq.2;have key:∀c:Nat,n<=c->(Instr.sliceBounds true n c vlo vhi none).run P w.toWorld=.ok (l.toNat,(h.getD n).toNat,c) w.toWorld:=fun c hc=>
   th (P:=P) (w:=w) (isSlice:=true) (len:=n) (cap:=c) (lo:=some l) (l7 e1 Ul slo) (l7 e2 XH shi) h0 h1 jB
  cases ha with
  |iJ _ _ _ A hn=>
   obtain⟨A',B',_⟩:=oe hu hs (A:=A) (key 0 (Nat.zero_le _));refine⟨_,B',?_⟩;have:(h.getD (0:Nat)).toNat-l.toNat=0:=by simp at h1 h2 ⊢;omega
   rw[this];exact .jn d m sz _ _ _
  |rs _ _ _ _ b t c hn hc Uq V4=>
   obtain⟨A',B',hA⟩:=oe hu hs (A:=some ⟨b,0,none⟩) (key c Uq);refine⟨_,B',?_⟩;by_cases hz:(h.getD n).toNat-l.toNat=0
   ·rw[hz];exact .jn d m sz _ _ _
   ·rcases hA with⟨h',_⟩|⟨ad',h',rfl⟩
    ·cases h'
    cases h';rw[jN,jq,Nat.zero_add];exact .rv d m sz _ _ b t _ hn jB
 ·rename_i d m sz n h e1 e2 e3;obtain rfl:=p7 e3 Xv smx;obtain rfl:=p7 e1 Ul slo;obtain⟨e,hu,hs⟩:=oI hq.1;obtain⟨h1,h2⟩:=hq.2;cases ha with
  |rc _ _ _ _ b t hn hc Uq V4=>
   have key:(Instr.sliceBounds true n m none vhi none).run P w.toWorld=.ok (0,(h.getD n).toNat,m) w.toWorld:=by have:=th (P:=P) (w:=w) (isSlice:=true) (len:=n) (cap:=m) (lo:=none) (vlo:=none) (.inl ⟨rfl,rfl⟩) (l7 e2 XH shi) jE (by simpa using h1) jB;simpa using this
   obtain⟨A',B',hA⟩:=oe hu hs (A:=some ⟨b,0,none⟩) key;refine⟨_,B',?_⟩;rcases hA with⟨h',_⟩|⟨ad',h',rfl⟩
   ·cases h'
   cases h';have:(if m=0 then(⟨b,0,none⟩:Addr)else(⟨b,0,none⟩:Addr).add (0*sz))=⟨b,0,none⟩:=by rw[Nat.zero_mul,CA];simp
   rw[this];simp only[Nat.sub_zero];exact .rc d m sz _ b t hn hc jB V4
 ·rename_i d m sz n l h e1 e2 e3;obtain rfl:=p7 e3 Xv smx;obtain⟨e,hu,hs⟩:=oI hq.1;obtain⟨h0,h1,h2⟩:=hq.2;cases ha with
  |rc _ _ _ _ b t hn hc Uq V4=>
   have key:(Instr.sliceBounds true n m vlo vhi none).run P w.toWorld=.ok (l.toNat,(h.getD n).toNat,m) w.toWorld:=
    th (P:=P) (w:=w) (isSlice:=true) (len:=n) (cap:=m) (lo:=some l) (l7 e1 Ul slo) (l7 e2 XH shi) h0 h1 jB
   obtain⟨A',B',hA⟩:=oe hu hs (A:=some ⟨b,0,none⟩) key;refine⟨_,B',?_⟩;by_cases hz:(h.getD n).toNat-l.toNat=0
   ·rw[hz];exact .jn d m sz _ _ _
   ·rcases hA with⟨h',_⟩|⟨ad',h',rfl⟩
    ·cases h'
    cases h';rw[jN,jq,Nat.zero_add];exact .rv d m sz _ _ b t _ hn jB
 ·rename_i d m sz n l h x e1 e2 e3;obtain⟨kx,rfl⟩:=zM e3 Xv smx;obtain⟨kh,rfl⟩:=zM e2 XH shi;obtain⟨e,hu,hs⟩:=oI hq.1;obtain⟨h0,h1,h2,h3⟩:=hq.2;cases ha with
  |rc _ _ _ _ b t hn hc Uq V4=>
   have key:(Instr.sliceBounds true n m vlo (some (.int kh h)) (some (.int kx x))).run P w.toWorld=.ok ((l.getD 0).toNat,h.toNat,x.toNat) w.toWorld:=
    EC (P:=P) (w:=w) (len:=n) (cap:=m) (l7 e1 Ul slo) h0 h1 h2 jB
   obtain⟨A',B',hA⟩:=oe hu hs (A:=some ⟨b,0,none⟩) key;refine⟨_,B',?_⟩;by_cases hz:h.toNat-(l.getD 0).toNat=0
   ·rw[hz];exact .jn d m sz _ _ _
   ·rcases hA with⟨h',_⟩|⟨ad',h',rfl⟩
    ·cases h'
    cases h';rw[jN,jq,Nat.zero_add];exact .rv d m sz _ _ b t _ hn jB
 ·rename_i d m sz o n l h e1 e2 e3;obtain rfl:=p7 e3 Xv smx;obtain⟨e,hu,hs⟩:=oI hq.1;obtain⟨h0,h1,h2⟩:=hq.2;have key:∀c:Nat,n<=c->(Instr.sliceBounds true n c vlo vhi none).run P w.toWorld=.ok ((l.getD 0).toNat,(h.getD n).toNat,c) w.toWorld:=fun c hc=>
   th (P:=P) (w:=w) (isSlice:=true) (len:=n) (cap:=c) (l7 e1 Ul slo) (l7 e2 XH shi) h0 h1 jB
  cases ha with
  |jn _ _ _ _ c A=>
   obtain⟨A',B',_⟩:=oe hu hs (A:=A) (key c (Nat.zero_le _));refine⟨_,B',?_⟩;have:(h.getD (0:Nat)).toNat-(l.getD 0).toNat=0:=by simp at h1 h2 ⊢;omega
   rw[this];exact .jn d m sz _ _ _
  |rv _ _ _ _ _ b t c hn Uq=>
   obtain⟨A',B',hA⟩:=oe hu hs (A:=some ⟨b,o*sz,none⟩) (key c Uq);refine⟨_,B',?_⟩;by_cases hz:(h.getD n).toNat-(l.getD 0).toNat=0
   ·rw[hz];exact .jn d m sz _ _ _
   ·rcases hA with⟨h',_⟩|⟨ad',h',rfl⟩
    ·cases h'
    cases h';rw[jN,jq,<-Nat.add_mul];exact .rv d m sz _ _ b t _ hn jB
 ·rename_i d m sz n l h x e1 e2 e3;obtain⟨kx,rfl⟩:=zM e3 Xv smx;obtain⟨kh,rfl⟩:=zM e2 XH shi;obtain⟨e,hu,hs⟩:=oI hq.1;obtain⟨h0,h1,h2,h3⟩:=hq.2;have key:∀c:Nat,n<=c->(Instr.sliceBounds true n c vlo (some (.int kh h)) (some (.int kx x))).run P w.toWorld=.ok ((l.getD 0).toNat,h.toNat,x.toNat) w.toWorld:=fun c hc=>
   EC (P:=P) (w:=w) (len:=n) (cap:=c) (l7 e1 Ul slo) h0 h1 h2 jB
  cases ha with
  |iJ _ _ _ A hn=>
   obtain⟨A',B',_⟩:=oe hu hs (A:=A) (key 0 (Nat.zero_le _));refine⟨_,B',?_⟩;have:h.toNat-(l.getD 0).toNat=0:=by simp at h1 h2 h3 ⊢;omega
   rw[this];exact .jn d m sz _ _ _
  |rs _ _ _ _ b t c hn hc Uq V4=>
   obtain⟨A',B',hA⟩:=oe hu hs (A:=some ⟨b,0,none⟩) (key c Uq);refine⟨_,B',?_⟩;by_cases hz:h.toNat-(l.getD 0).toNat=0
   ·rw[hz];exact .jn d m sz _ _ _
   ·rcases hA with⟨h',_⟩|⟨ad',h',rfl⟩
    ·cases h'
    cases h';rw[jN,jq,Nat.zero_add];exact .rv d m sz _ _ b t _ hn jB
 ·rename_i l h e1 e2 e3;obtain rfl:=p7 e3 Xv smx;have:=db ha;subst this;obtain⟨_,Uu,h0,h1⟩:=hq;obtain⟨sz,Uu⟩:=Option.isSome_iff_exists.1 Uu;obtain⟨e,hu,hs⟩:=oI Uu;have hb:=th (P:=P) (w:=w) (isSlice:=true) (len:=0) (cap:=0) (l7 e1 Ul slo) (l7 e2 XH shi) jB jF jF;simp only[h0,Int.toNat_zero,h1,Int.ofNat_zero]at hb;exact⟨_,by simp[Instr.sliceAt,run_underlying hu,Instr.slice,hb,lL hs],.raw _⟩
def Ts(s d:UJ){a:AV}{v:Value}(h:ax w a v):j8 P w (convert s d v) (zw P s d a):=by
 intro hq;unfold zw at*;split at hq<;>try exact hq.elim
 ·rename_i k' n k e;have:=db h;subst this;have hd:P.underlying d=some (.int k):=by unfold AH at e;split at e<;>simp_all
  obtain⟨ds,hs⟩:=Option.isSome_iff_exists.1 hq;refine⟨.int k (k.wrap n),?_,.raw _⟩;cases ds<;>simp[convert,run_underlying hs,run_underlying hd,Conv.intToInt]
 ·rename_i s' e;have:=db h;subst this;have hd:=yT hq.2;obtain⟨ds,hs⟩:=Option.isSome_iff_exists.1 hq.1;refine⟨.string s',?_,.raw _⟩;cases ds<;>simp[convert,run_underlying hs,run_underlying hd]
def HV(mx:Bool)(ts:Array UJ)(ty:UJ){l:UE}{vs:UM}(h:cf w l vs):j8 P w (if mx then Builtin.max_ ts ty vs.toArray else Builtin.min_ ts ty vs.toArray) (xI mx l):=by
 intro hq;unfold xI at*;split at hq<;>try exact hq.elim
 rename_i k a k' b;obtain⟨hl,hr⟩:=h;match vs,hl with
 |[x,y],_=> obtain rfl:k=k':=hq;obtain rfl:=db (hr 0 _ _ rfl rfl);obtain rfl:=db (hr 1 _ _ rfl rfl);cases mx<;>exact⟨_,by simp[Builtin.max_,Builtin.min_,Builtin.max2,Builtin.min2];rfl,by simpa using ax.raw _⟩
theorem BK{pl:Nat->Option (Nat×Nat)}:∀{parts:List (Nat×AV)} {vparts:List (Nat×Value)} {cells:UE} {cur:UL} {out:UE},
  qJ pl cells parts=some out->parts.map (·.1)=vparts.map (·.1)->(∀(i:Nat) a v,parts[i]?=some a->vparts[i]?=some v->cf w a.2.cells v.2.cells.toList)->cf w cells cur.toList->
  ∃vs,Instr.fill pl cur vparts=some vs/\cf w out vs.toList
 |[],[],cells,cur,out,h,_,_,hc=>by simp only[qJ,Option.some.injEq]at h;subst h;exact⟨cur,rfl,hc⟩
 |[],_::_,_,_,_,_,he,_,_=>by simp at he
 |_::_,[],_,_,_,_,he,_,_=>by simp at he
 |(i,a)::parts,(i',v)::vparts,cells,cur,out,h,he,hr,hc=>by
  simp only[List.map_cons,List.cons.injEq]at he;obtain⟨rfl,he⟩:=he;simp only[qJ]at h;split at h
  ·rename_i off k hp;split at h
   ·rename_i hk;have hv:=hr 0 _ _ rfl rfl;simp only at hv;have I':v.cells.size=k:=by have:=hv.1;simp at this;omega
    have Xr:cells.length=cur.size:=by simpa using hc.1
    have Um:∀(l:UM) (o:Nat) (c:UL),(l.toArray.zipIdx.foldl (fun cs (x,j)=>cs.setIfInBounds (o+j) x) c)=(c.toList.take o++l++c.toList.drop (o+l.length)).toArray\/c.size<o+l.length:=by
     intro l o c;by_cases hb:c.size<o+l.length
     ·exact .inr hb
     ·refine .inl ?_;have gen:∀(l:UM) (s:Nat) (c:UL),o+s+l.length<=c.size->((l.zipIdx s).foldl (fun(cs:UL) (p:Value×Nat)=>cs.setIfInBounds (o+p.2) p.1) c)=(c.toList.take (o+s)++l++c.toList.drop (o+s+l.length)).toArray:=by
       intro l;induction l with
       |nil=>intro s c _;simp
       |cons x l ih=>
        intro s c hb;simp only[List.zipIdx_cons,List.foldl_cons];rw[ih (s+1) _ (by simp at hb ⊢;omega)];apply Array.ext';simp only[Array.toList_setIfInBounds];apply List.ext_getElem?;intro m;simp only[List.length_cons]at hb;rcases Nat.lt_or_ge m (o+s)with h1|h1
        ·rw[List.append_assoc,List.getElem?_append_left jF,List.append_assoc,List.getElem?_append_left jF];simp only[List.getElem?_take,List.getElem?_set];rw[jP,jN,if_pos h1]
        ·rcases Nat.lt_or_ge m (o+s+1)with h2|h2
         ·obtain rfl:m=o+s:=jB;rw[List.append_assoc,List.getElem?_append_left jF,List.append_assoc,List.getElem?_append_right jF];simp only[List.getElem?_take,List.getElem?_set,List.length_take,Array.length_toList];rw[jP];simp only[Nat.add_assoc,if_true];rw[jP,show o+s-min (o+s) c.size=0 from jB];rfl
         ·rw[List.append_assoc,List.append_assoc,List.cons_append,List.getElem?_append_right (l₁:=List.take (o+(s+1)) _) jF,List.getElem?_append_right (l₁:=List.take (o+s) _) jF];simp only[List.length_take,List.length_set,Array.length_toList];rw[show m-min (o+s) c.size=(m-min (o+(s+1)) c.size)+1 from jB,List.getElem?_cons_succ];rcases Nat.lt_or_ge (m-min (o+(s+1)) c.size) l.length with h3|h3
          ·rw[List.getElem?_append_left h3,List.getElem?_append_left h3]
          ·rw[List.getElem?_append_right h3,List.getElem?_append_right h3];simp only[List.getElem?_drop,List.getElem?_set,List.length_cons];rw[jN];congr 1
           omega
      have:=gen l 0 c jB;simp only[Nat.add_zero]at this;rw[<-this,<-Array.foldl_toList];simp
    have Ve:¬(cur.size<off+v.cells.toList.length):=by simp;omega
    have hs:=(Um v.cells.toList off cur).resolve_right Ve;rw[Array.toArray_toList]at hs;obtain⟨vs,h1,h2⟩:=BK (cur:=(cur.toList.take off++v.cells.toList++cur.toList.drop (off+v.cells.toList.length)).toArray) h he (fun i a v ha hv=>hr (i+1) a v (by simpa using ha) (by simpa using hv)) (by
     refine⟨by simp[kJ];omega,fun m x y hx hy=>?_⟩;simp only[kJ]at hx;rcases Nat.lt_or_ge m off with g1|g1
     ·rw[List.append_assoc,List.getElem?_append_left jF,List.getElem?_take,if_pos g1]at hx hy;exact hc.2 m x y hx hy
     ·rcases Nat.lt_or_ge m (off+a.cells.length)with g2|g2
      ·rw[List.append_assoc,List.getElem?_append_right jF,List.getElem?_append_left jF]at hx hy;simp only[List.length_take,Array.length_toList]at hx hy;rw[show m-min off cells.length=m-off from jB]at hx;rw[show m-min off cur.size=m-off from jB]at hy;exact hv.2 _ x y hx hy
      ·rw[List.getElem?_append_right jF]at hx hy;simp only[List.length_append,List.length_take,Array.length_toList,List.getElem?_drop]at hx hy;rw[show off+a.cells.length+(m-(min off cells.length+a.cells.length))=m from jB]at hx;rw[show off+v.cells.size+(m-(min off cur.size+v.cells.size))=m from jB]at hy;exact hc.2 m x y hx hy)
    refine⟨vs,?_,h2⟩;simp only[Instr.fill,hp];rw[if_neg jF,hs];exact h1
   ·cases h
  ·cases h
def KY{t:UJ}{pl:List (Nat×Nat)}(h:jf P t=some pl):∃fs:Array Field,P.underlying t=some (.struct fs)/\(fs.mapM (m:=Sem) fun f=>do pure (f.offset,<-sizeOf f.type)).run P w.toWorld=.ok pl.toArray w.toWorld:=by
 unfold jf at h;split at h
 ·rename_i fs hu;refine⟨fs,hu,?_⟩;rw[Array.mapM_eq_mapM_toList];have gen:∀(l:List Field) (pl:List (Nat×Nat)),l.mapM (fun f=>(dc P f.type).map fun k=>(f.offset,k))=some pl->(l.mapM (m:=Sem) fun f=>do pure (f.offset,<-sizeOf f.type)).run P w.toWorld=.ok pl w.toWorld:=by
   intro l;induction l with
   |nil=>intro pl h;simp at h;subst h;simp
   |cons f l ih=> intro pl h;rw[List.mapM_cons]at h;simp only[Option.bind_eq_bind,Option.bind_eq_some_iff,Option.map_eq_some_iff,Option.pure_def,Option.some.injEq]at h;obtain⟨p,⟨k,hk,rfl⟩,rest,UZ,rfl⟩:=h;rw[List.mapM_cons];simp only[Sem.run_bind,lL hk,Result.andThen_ok,Sem.run_pure,ih rest UZ]
  simp only[Sem.run_map,gen fs.toList pl h,Result.andThen_ok]
 ·cases h
def Lu(t:UJ){parts:List (Nat×AV)}{vparts:Array (Nat×Value)}(h1:parts.map (·.1)=vparts.toList.map (·.1))(h2:∀(i:Nat) a v,parts[i]?=some a->vparts.toList[i]?=some v->ax w a.2 v.2):j8 P w (Instr.build t vparts) (vh P t parts):=by
 intro hq;unfold vh at*;split at hq<;>try exact hq.elim
 rename_i zs pl e1 e2;split at hq<;>try exact hq.elim
 rename_i out hf;obtain⟨z,hz,rfl⟩:=yo (w:=w) e1;obtain⟨fs,hu,hp⟩:=KY (w:=w) e2;simp only[cM,List.all_eq_true]at hq;have WK:∀(i:Nat) a,parts[i]?=some a->cM a.2.cells=true:=fun i a ha=>by simp only[cM,List.all_eq_true];intro x hx;exact hq x (List.mem_flatten.2 ⟨_,List.mem_map.2 ⟨a,List.mem_of_getElem? ha,rfl⟩,hx⟩)
 obtain⟨vs,g1,g2⟩:=BK (w:=w) (cur:=z.cells) hf h1 (fun i a v ha hv=>(h2 i a v ha hv).gP (WK i a ha))
  ⟨jE,fun i a v ha hv=>by simp only[List.getElem?_map,Option.map_eq_some_iff]at ha;obtain⟨x,hx,rfl⟩:=ha;rw[hx]at hv;cases hv;exact .raw _⟩
 refine⟨.agg vs,?_,.agg _ _ (by have:=g2.1;simpa using this) fun i a v ha hv=>g2.2 i a v ha (by simpa using hv)⟩;have e:(fun i:Nat=>pl.toArray[i]?)=(fun i:Nat=>pl[i]?):=by funext i;simp
 simp only[Instr.build,Sem.run_bind,hz,Result.andThen_ok,run_underlying hu,hp,e,g1,Sem.run_pure]
end
section
variable {P:UP}{w:NW}{H:Hp}{ρ:Operand->Value}{ev:UK}
def wc(hr:∀x,ax w (ev x) (ρ x))(l:List Operand):cf w (l.map ev) (l.map ρ):=
 ⟨jE,fun i a v ha hv=>by simp only[List.getElem?_map,Option.map_eq_some_iff]at ha hv;obtain⟨x,hx,rfl⟩:=ha;obtain⟨y,hy,rfl⟩:=hv;rw[hx]at hy;cases hy;exact hr x⟩
def Bk(hr:∀x,ax w (ev x) (ρ x))(o:Option Operand):∀x y,o.map ev=some x->o.map ρ=some y->ax w x y:=by
 intro x y hx hy;cases o with
 |none=>cases hx
 |some z=>cases hx;cases hy;exact hr z
def mq{s:Sem Value}{q:PA}(hq:q.1)(h:j8 P w s q):∃v,(do pure (Next.value (<-s)):Sem Next).run P w.toWorld=.ok (.value v) w.toWorld/\ax w q.2 v:=by obtain⟨v,h1,h2⟩:=h hq;exact⟨v,by simp[h1],h2⟩
def DB{c a b:Operand}{x y z:AV}{dst:Option Tmp}{ty:UJ}{pos:String}{after:Array Edge}{guard:Option (Nat×Bool)}(hc:ax w x (ρ c))(ha:ax w y (ρ a))(hb:ax w z (ρ b))(hq:(nU x y z).1) :
  ∃v,(execOp ρ ⟨dst,.pick c a b,ty,pos,after,guard⟩).run P w.toWorld=.ok (.value v) w.toWorld/\ax w (nU x y z).2 v:=by
 obtain⟨v,h1,h2⟩:=JT (P:=P) hc ha hb hq;refine⟨v,?_,h2⟩;simp only[execOp,Sem.run_bind,Sem.run_pure]at h1 ⊢;cases hb:(asBool (ρ c)).run P w with
 |ok x w'=>rw[hb]at h1;simp only[Result.andThen_ok,Result.ok.injEq]at h1 ⊢;exact⟨by rw[h1.1],h1.2⟩
 |halt e w'=>rw[hb]at h1;simp at h1
def yF(o:Oper)(hw:aJ w H)(hr:∀x,ax w (ev x) (ρ x))(hq:(vq P ev H o.op).1):∃v,(execOp ρ o).run P w.toWorld=.ok (.value v) w.toWorld/\ax w (vq P ev H o.op).2 v:=by
 obtain⟨dst,op,ty,pos,after,guard⟩:=o;cases op
 case move x=>exact⟨_,rfl,hr x⟩
 case assign x=>exact⟨_,rfl,hr x⟩
 case pick c a b=>
  obtain⟨v,h1,h2⟩:=JT (P:=P) (hr c) (hr a) (hr b) hq;refine⟨v,?_,h2⟩;simp only[execOp,Sem.run_bind,Sem.run_pure]at h1 ⊢;cases hb:(asBool (ρ c)).run P w with
  |ok x w'=>rw[hb]at h1;simp only[Result.andThen_ok,Result.ok.injEq]at h1 ⊢;exact⟨by rw[h1.1],h1.2⟩
  |halt e w'=>rw[hb]at h1;simp at h1
 case nilCheck x=>exact MO x rfl (hr x) _ rfl hq
 case binOp op t x y t'=>exact mq hq (G5 op t x y (hr x) (hr y))
 case unOp op t x=>exact mq hq (O5 op (hr x))
 case load t a=>exact mq hq (NA t (hr a) hw)
 case fieldAddr t a f=>exact mq hq (OI t f (hr a))
 case field t a f=>exact mq hq (Ug t f (hr a))
 case indexAddr t a i=>exact mq hq (RD t (hr a) (hr i))
 case index t a i=>exact mq hq (TS t (hr a) (hr i))
 case extract a i=>exact mq hq (Tn (hr a) i)
 case slice t a lo hi mx=>exact mq hq (Nv t (hr a) (Bk hr lo) (by cases lo<;>rfl) (Bk hr hi) (by cases hi<;>rfl) (Bk hr mx) (by cases mx<;>rfl))
 case makeFunc fn first captured=>
  have:=Uh (P:=P) fn (wc hr first.toList) (wc hr captured.toList);have e1:(first.toList.map ρ).toArray=first.map ρ:=by rw[<-Array.toList_map,Array.toArray_toList]
  have e2:(captured.toList.map ρ).toArray=captured.map ρ:=by rw[<-Array.toList_map,Array.toArray_toList]
  rw[e1,e2]at this;exact mq hq this
 case makeInterface t x=>exact mq hq (Qh t (hr x))
 case convert s d x=>exact mq hq (Ts s d (hr x))
 case build t parts=> refine mq hq (Lu t jE fun i a v ha hv=>?_);simp only[List.getElem?_map,Option.map_eq_some_iff,Array.toList_map,Array.getElem?_toList]at ha hv;obtain⟨x,hx,rfl⟩:=ha;obtain⟨y,hy,rfl⟩:=hv;rw[hx]at hy;cases hy;exact hr x.2
 case call c=>
  obtain⟨callee,args,argTypes⟩:=c;cases callee
  case builtin b=>
   simp only[vq]at hq ⊢;generalize hts:argTypes.toList=ts at*;obtain rfl:argTypes=ts.toArray:=by rw[<-hts]
   have Ws:=wc hr args.toList;have VT:args.map ρ=(args.toList.map ρ).toArray:=by rw[<-Array.toList_map,Array.toArray_toList]
   have B':∀s:Sem Value,(∀cs,builtin b ts.toArray ty cs (args.toList.map ρ).toArray=(do pure (Next.value (<-s))))->(execOp ρ ⟨dst,.call ⟨.builtin b,args,ts.toArray⟩,ty,pos,after,guard⟩)=(do pure (Next.value (<-s))):=by intro s hs;simp only[execOp,resolve,pure_bind,invoke,VT];exact hs _
   generalize hus:args.toList.map ρ=us at*;generalize hals:args.toList.map ev=als at*;unfold mD at*;split at hq<;>try exact hq.elim
   ·rename_i t ts x als;cases us with
    |nil=>have:=Ws.1;simp at this
    |cons u us=> rw[B' _ (fun _=>rfl)];exact mq hq (QF ty t ts us hw (Ws.2 0 _ _ rfl rfl))
   ·rename_i t ts x als;cases us with
    |nil=>have:=Ws.1;simp at this
    |cons u us=> rw[B' _ (fun _=>rfl)];exact mq hq (Sn ty t ts us (Ws.2 0 _ _ rfl rfl))
   ·rw[B' _ (fun _=>rfl)];have:=HV (P:=P) true ts.toArray ty Ws;exact mq hq this
   ·rw[B' _ (fun _=>rfl)];have:=HV (P:=P) false ts.toArray ty Ws;exact mq hq this
  all_goals exact hq.elim
 all_goals exact hq.elim
end
universe u
def aS(P:Program)(f:FuncId):Bool:=match P.funcs[f]? with
 | some fn => fn.body.isSome && !(fn.name == "runtime.NumGoroutine")
 |none=>false
def aC(P:UP)(f:FuncId)(args:UE)(r:AV):Prop:=ab P f args [] fun r' l'=>r'=r/\l'=[]
def dm(P:UP)(f:FuncId)(args:UE)(H:Hp)(K:UB):Prop:=
 ∀(w:NW) (vs:UL),aJ w H->bs w args vs->Calls P f vs w.toWorld fun e W=>∃v r H' w',W=NW.toWorld w'/\e=.returned v/\K r H'/\aJ w' H'/\ax w' r v/\Ext w H w' H'
theorem dm.mono{P:UP}{f:FuncId}{args:UE}{H:Hp}{K K':UB}(h:dm P f args H K)(hk:∀r H,K r H->K' r H):dm P f args H K':=
 fun w vs h1 h2=>(h w vs h1 h2).mono fun _ _ ⟨v,r,H',w',e0,e,k,g⟩=>⟨v,r,H',w',e0,e,hk _ _ k,g⟩
def Ax:AV->Option (FuncId×UE×UE)
 |.raw (.func (.func f) first captured)=>some (f,first.toList.map .raw,captured.toList.map .raw)
 |.dW f cs=>some (f,[],cs)
 |.bd f fs=>some (f,fs,[])
 |_=>none
-- what follows is hidden from simp: an argument that a later one's type hangs on is held fixed
inductive iw{α:Sort u}(a:α):Type
 |mk
def vC(H:Hp)(A:Nat->Prop)(_:iw A):Prop:=∃i,H.get i=none/\A i
def u6(P:UP)(H:Hp)(t:UJ)(a x:AV)(K:UB):Prop:=match a,dc P t with
 |.pt i m k j,some n=>match H.get i with
  |some r=>(cM x.cells=true/\x.cells.length=n/\Bj r m k j n)/\K .any (H.put i (yz r k j x.cells))
  |none=>False
 |_,_=>False
def ob(P:UP)(H:Hp)(t:UJ)(K:UB):Prop:=match dR P t with
 |some zs=>vC H (fun i=>K (.pt i 0 0 0) (H.put i (.var t (zs.map .raw)))) .mk
 |none=>False
def qI(H:Hp)(t:UJ)(x:AV)(K:UB):Prop:=cM x.cells=true/\vC H (fun i=>K (.pt i 0 0 0) (H.put i (.var t x.cells))) .mk
def xt(sz:Nat):Nat->List (Nat×AV)->Prop
 |_,[]=>True
 |k,(i,a)::rest=>(i=k/\cM a.cells=true/\a.cells.length=sz)/\xt sz (k+1) rest
theorem Jr{sz:Nat}:∀{k:Nat} {l:List (Nat×AV)},xt sz k l->l.map (·.1)=List.range' k l.length/\∀p∈l,cM p.2.cells=true/\p.2.cells.length=sz
 |_,[],_=>⟨rfl,fun p hp=>by simp at hp⟩
 |k,(i,a)::rest,h=>by
  obtain⟨⟨rfl,h1,h2⟩,h3⟩:=h;obtain⟨g1,g2⟩:=Jr h3;refine⟨by simp[g1,List.range'_succ],fun p hp=>?_⟩;rcases List.mem_cons.1 hp with rfl|hp
  ·exact⟨h1,h2⟩
  ·exact g2 p hp
def mg(parts:List (Nat×AV)):UC:=parts.map (·.2.cells)
def sn(e:UJ)(sz:Nat)(css:UC)(H:Hp)(K:UB):Prop:=
 (aY eu css.flatten=true/\K (.sl true sz css []) H)\/(0<sz/\∃i,H.get i=none/\K (.rs i css.length sz css.length) (H.put i (.aG e sz css)))
def oE(P:UP)(H:Hp)(t:UJ)(n:Nat)(parts:List (Nat×AV))(K:UB):Prop:=match ir P t with
 |some e=>match dc P e with
  |some sz=>(parts.length=n/\xt sz 0 parts/\n*sz<=16777216/\(n*sz=0\/(dR P e).isSome=true))/\
   sn e sz (mg parts) H K
  |none=>False
 |none=>False
def qC(P:UP)(ne:Bool)(t:UJ)(x y:AV)(H:Hp)(K:UB):Prop:=match x,y with
 |.sl _ _ css _,.raw (.slice none 0 0)=>gW P t=true/\∀b:Bool,(b=true->css=[])->K (.raw (.bool (ne ^^ b))) H
 |.rs _ _ _ n,.raw (.slice none 0 0)=>gW P t=true/\∀b:Bool,(b=true->n=0)->K (.raw (.bool (ne ^^ b))) H
 |x,y=>(fI P (if ne then .neq else .eql) t x y).1/\K (fI P (if ne then .neq else .eql) t x y).2 H
def tP(H:Hp):AV->Option (Prop×UC)
 |.sl _ _ css _=>some (True,css)
 |.rs i m sz n=>match H.get i with
  |some (.aG _ sz' css)=>some (sz'=sz/\m=css.length/\n<=m,css.take n)
  |_=>none
 |.rv i m sz o n=>match H.get i with
  |some (.aG _ sz' css)=>some (sz'=sz/\m=css.length/\o+n<=m,(css.drop o).take n)
  |_=>none
 |.raw (.slice none 0 0)=>some (True,[])
 |_=>none
def j4(P:UP)(t:UJ):Nat:=((P.info? t).map (·.bytes)).getD 0
def room(by_ n:Nat):Prop:=n*by_<=140737488355328/\n<=9223372036854775807
def dx(css:UC)(n:Nat)(ys:UC):UC:=css.take n++ys++css.drop (n+ys.length)
def uj(i:Nat)(e:UJ)(m sz n:Nat)(css ys:UC)(H:Hp)(K:UB):Prop:=if n=m then K (.rs i (m+ys.length) sz (n+ys.length)) (H.put i (.aG e sz (css++ys)))else K (.rs i (max m (n+ys.length)) sz (n+ys.length)) (H.put i (.aG e sz (dx css n ys)))
def SI(css ys:UC):dx css css.length ys=css++ys:=by simp[dx]
variable{css:UC}{n:Nat}
def tV(ys:UC)(h:n<=css.length):(dx css n ys).length=max css.length (n+ys.length):=by simp[dx];omega
variable{sz:Nat}{H:Hp}{K:UB}
def RO{i:Nat}{e:UJ}{ys:UC}(h:uj i e css.length sz n css ys H K):K (.rs i (max css.length (n+ys.length)) sz (n+ys.length)) (H.put i (.aG e sz (dx css n ys))):=by
 unfold uj at h;split at h
 ·rename_i e;subst e;rw[SI,Nat.max_eq_right jB];exact h
 ·exact h
def Cf(by_:Nat)(e:UJ)(sz:Nat)(ys:UC)(a:AV)(H:Hp)(K:UB):Prop:=match a with
 |.rs i m sz' n=>match H.get i with
  |some (.aG e' sz'' css)=>(e'=e/\sz'=sz/\sz''=sz/\m=css.length/\n<=m/\room by_ (n+ys.length))/\uj i e m sz n css ys H K
  |_=>False
 |.raw (.slice none 0 0)=>room by_ ys.length/\vC H (fun i=>K (.rs i ys.length sz ys.length) (H.put i (.aG e sz ys))) .mk
 |.sl true sz' css _=>(sz'=sz/\room by_ (css.length+ys.length)/\(css.length=0\/0<ys.length))/\vC H (fun i=>K (.rs i (css.length+ys.length) sz (css.length+ys.length)) (H.put i (.aG e sz (css++ys)))) .mk
 |_=>False
def yy(P:UP)(t:UJ)(a x:AV)(H:Hp)(K:UB):Prop:=match ir P t with
 |some e=>match dc P e,dR P e,tP H x with
  |some sz,some zs,some (c,ys)=>(zs.length=sz/\0<sz/\c/\Good sz ys)/\Cf (j4 P e) e sz ys a H K
  |_,_,_=>False
 |none=>False
def qn(P:UP)(t t':UJ)(a x:AV)(H:Hp)(K:UB):Prop:=
 ∀(w:NW) va vx ty,aJ w H->ax w a va->ax w x vx->∃(w':NW) (H':Hp) (r:AV) (v:Value),(Builtin.append_ #[t,t'] ty #[va,vx]).run P w.toWorld=.ok v w'.toWorld/\K r H'/\aJ w' H'/\ax w' r v/\Ext w H w' H'
def pG(P:UP)(b:Builtin)(ts:List UJ)(args:UE)(H:Hp)(K:UB):Prop:=
 ∀(w:NW) vs ty cs,aJ w H->cf w args vs->∃(w':NW) (H':Hp) (r:AV) (v:Value),(builtin b ts.toArray ty cs vs.toArray).run P w.toWorld=.ok (.value v) w'.toWorld/\K r H'/\aJ w' H'/\ax w' r v/\Ext w H w' H'
def jM(P:UP)(o:Op)(ty:UJ)(ev:UK)(H:Hp)(K:UB):Prop:=
 ∀(w:NW) ρ dst pos after guard,aJ w H->(∀x∈o.operands.toList,ax w (ev x) (ρ x))->∃(w':NW) (H':Hp) (r:AV),K r H'/\aJ w' H'/\Ext w H w' H'/\
  ((∃v,(execOp ρ ⟨dst,o,ty,pos,after,guard⟩).run P w.toWorld=.ok (.value v) w'.toWorld/\ax w' r v)\/((execOp ρ ⟨dst,o,ty,pos,after,guard⟩).run P w.toWorld=.ok .skip w'.toWorld/\r=.any))
def ua(P:UP)(f:FuncId)(args:UE)(H:Hp)(K:UB):Prop:=
 ∀(w:NW) vs,aJ w H->bs w args vs->∃(v:Value) (w':NW) (r:AV) (H':Hp),(callFunc f vs).run P w.toWorld=.ok (.value v) w'.toWorld/\K r H'/\aJ w' H'/\ax w' r v/\Ext w H w' H'
def fg(P:UP)(f:AV)(args:UE)(H:Hp)(K:UB):Prop:=match Ax f with
 |some (f,first,captured)=>(aS P f=true/\dm P f (first++args++captured) H K)\/ua P f (first++args++captured) H K
 |none=>False
def qo(P:UP)(a:AV)(m:String)(args:UE)(H:Hp)(K:UB):Prop:=match a with
 |.iK t v=>match oK P t m with
  |some f=>fg P (.raw (.func (.func f) #[] #[])) (v::args) H K
  |none=>False
 |_=>False
def du:Op->Bool
 |.box .. |.alloc _|.store .. |.buildSlice .. |.makeMap .. |.makeSlice .. |.mapUpdate .. |.insert .. |.lookup .. |.range .. |.next .. |.entry .. |.typeAssert ..=>false
 |.binOp .eql .. |.binOp .neq ..=>false
 |.call { callee:=.builtin b,.. }=>match b with
  |.len|.cap|.max|.min=>true
  |_=>false
 |.call _=>false
 |_=>true
def vc(P:UP)(ev:UK)(H:Hp)(ty:UJ)(K:UB):Op->Prop
 |.box t x=>qI H t (ev x) K
 |.alloc t=>ob P H t K
 |.store t a x=>u6 P H t (ev a) (ev x) K
 |.buildSlice t n parts=>oE P H t n (parts.toList.map fun p=>(p.1,ev p.2)) K
 |.binOp .eql t x y _=>qC P false t (ev x) (ev y) H K
 |.binOp .neq t x y _=>qC P true t (ev x) (ev y) H K
 |.call { callee:=.value f,args,.. }=>fg P (ev f) (args.toList.map ev) H K
 |.call { callee:=.invoke r m,args,.. }=>qo P (ev r) m (args.toList.map ev) H K
 |.call { callee:=.builtin .append,args,argTypes }=>match argTypes.toList,args.toList with
  |[t,t'],[a,x]=>qn P t t' (ev a) (ev x) H K
  |_,_=>False
 |.call { callee:=.builtin b,args,argTypes }=>if du (.call ⟨.builtin b,args,argTypes⟩)then(vq P ev H (.call ⟨.builtin b,args,argTypes⟩)).1/\K (vq P ev H (.call ⟨.builtin b,args,argTypes⟩)).2 H else pG P b argTypes.toList (args.toList.map ev) H K
 |o=>if du o then(vq P ev H o).1/\K (vq P ev H o).2 H else jM P o ty ev H K
section
variable {P:UP}{ops:Array Oper}{F:UE}{H:Hp}
variable{K:UB}
def Mm{o:Oper}(hq:(vq P (cr F) H o.op).1)(hk:K (vq P (cr F) H o.op).2 H):Df P o F H K:=fun w tm h1 h2=>by obtain⟨v,hr,hv⟩:=yF o h1 (fun x=>h2.eval [] x) hq;exact⟨w,H,_,hk,h1,Ext.refl w H,.inl ⟨v,hr,hv⟩⟩
theorem Gc{sz:Nat}:∀(parts:List (Nat×AV)) (k:Nat) (pre zs:UE),parts.map (·.1)=List.range' k parts.length->(∀p∈parts,p.2.cells.length=sz)->pre.length=k*sz->zs.length=parts.length*sz->
  qJ (fun i=>some (i*sz,sz)) (pre++zs) parts=some (pre++(parts.map (·.2.cells)).flatten)
 |[],k,pre,zs,_,_,_,hz=>by
  have:zs=[]:=by simpa using hz
  simp[qJ,this]
 |(i,a)::parts,k,pre,zs,hp,hs,hk,hz=>by
  simp only[List.map_cons,List.length_cons,List.range'_succ,List.cons.injEq]at hp;obtain⟨rfl,hp⟩:=hp;have ha:a.cells.length=sz:=hs (i,a) jE;have U':zs.length=parts.length*sz+sz:=by rw[hz,List.length_cons,Nat.add_mul,Nat.one_mul]
  simp only[qJ];rw[if_pos ⟨ha,by simp;omega⟩];have e:kJ (pre++zs) (i*sz) a.cells=(pre++a.cells)++zs.drop sz:=by
   unfold kJ;rw[<-hk,List.take_left',List.drop_append,ha]
   ·simp
   ·rfl
  rw[e,Gc parts (i+1) (pre++a.cells) (zs.drop sz) hp (fun p hp=>hs p (by simp[hp])) (by simp[hk,ha,Nat.add_mul]) jF];simp[List.append_assoc]
variable{w:NW}
def Ml{l:UE}{vs:UM}(h:cf w l vs){k:Nat}{u:AV}(hu:l[k]?=some u):ax w u (vs.toArray.getD k undef):=by
 have hk:k<vs.length:=by rw[<-h.1];exact(List.getElem?_eq_some_iff.1 hu).1
 refine h.2 k u _ hu ?_;simp[hk]
variable{t:UJ}
def Qx{n:Nat}{parts:List (Nat×AV)}{vparts:Array (Nat×Value)}(hw:aJ w H)(h1:parts.map (·.1)=vparts.toList.map (·.1))(h2:∀(i:Nat) a v,parts[i]?=some a->vparts.toList[i]?=some v->ax w a.2 v.2)
  (hv:oE P H t n parts K):∃(w':NW) (H':Hp) (r:AV) (v:Value),(Instr.buildSlice t n vparts).run P w.toWorld=.ok v w'.toWorld/\K r H'/\aJ w' H'/\ax w' r v/\Ext w H w' H':=by
 unfold oE at hv;split at hv;rotate_left
 ·exact hv.elim
 rename_i e he;split at hv;rotate_left
 ·exact hv.elim
 rename_i sz Wb;obtain⟨⟨I',hok,hn,hz⟩,hk⟩:=hv;have hu:P.underlying t=some (.slice e):=by unfold ir at he;split at he<;>simp_all
 obtain⟨hp,hs⟩:=Jr hok;rw[I',<-List.range_eq_range']at hp;have hzr:∃z:UL,(n*sz=0/\z=#[])\/(n*sz≠0/\∃v,(zeroValue e).run P w.toWorld=.ok v w.toWorld/\v.cells=z):=by
  by_cases h0:n*sz=0
  ·exact⟨#[],.inl ⟨h0,rfl⟩⟩
  ·have U':=hz.resolve_left h0;obtain⟨zs,Yg⟩:=Option.isSome_iff_exists.1 U';obtain⟨z,Vp,_⟩:=yo (w:=w.toWorld) Yg;exact⟨z.cells,.inr ⟨h0,z,Vp,rfl⟩⟩
 obtain⟨z,hz⟩:=hzr;generalize Xr:(Array.range (n*sz)).map (z[· % z.size]!)=cur;have Vy:cur.size=n*sz:=by subst Xr;simp
 have hf:=Gc (sz:=sz) parts 0 [] (cur.toList.map .raw) (by rw[hp,I',List.range_eq_range']) (fun p hp=>(hs p hp).2) jE (by simp[Vy,I']);simp only[List.nil_append]at hf;obtain⟨vs,g1,g2⟩:=BK (w:=w) (cur:=cur) hf h1 (fun i a v ha hv=>(h2 i a v ha hv).gP (hs _ (List.mem_of_getElem? ha)).1)
  ⟨jE,fun i a v ha hv=>by simp only[List.getElem?_map,Option.map_eq_some_iff]at ha;obtain⟨x,hx,rfl⟩:=ha;rw[hx]at hv;cases hv;exact .raw _⟩
 have B':(Instr.buildSlice t n vparts).run P w.toWorld=.ok (.slice (some ⟨w.heap.size,0,none⟩) n n) (w.alloc (.cells vs e)):=by
  have Wi:¬(n*sz>2 ^ 24):=jB;rcases hz with⟨h0,rfl⟩|⟨h0,v,hv,rfl⟩
  ·simp only[Instr.buildSlice,Sem.run_bind,run_underlying hu,Result.andThen_ok,lL Wb,if_neg Wi,if_pos h0,Sem.run_pure,Xr,g1,newRow,run_newObj];rfl
  ·simp only[Instr.buildSlice,Sem.run_bind,run_underlying hu,Result.andThen_ok,lL Wb,if_neg Wi,if_neg h0,hv,Sem.run_pure,Xr,g1,newRow,run_newObj];rfl
 have VB:(mg parts).length=n:=by simp[mg,I']
 have Zm:∀cs∈mg parts,cs.length=sz:=fun cs Vy=>by obtain⟨p,hp,rfl⟩:=List.mem_map.1 Vy;exact(hs p hp).2
 have VN:(mg parts).flatten.length=n*sz:=by rw[gu Zm,VB]
 have WX:vs.size=n*sz:=by have:=g2.1;simp only[Array.length_toList]at this;rw[<-this];exact VN
 rcases hk with⟨Ur,hk⟩|⟨h0,i,hi,hk⟩
 ·have ex:=Ext.fm hw (.cells vs e);refine⟨_,H,_,_,B',hk,hw.fm _,?_,ex⟩;by_cases h0:n=0
  ·have:mg parts=[]:=List.length_eq_zero_iff.1 jB;rw[this,h0];exact .gG true sz _ 0 (fun _=>rfl)
  ·have:=ax.sl (w:=w.to (w.alloc (.cells vs e))) (d:=[]) true sz (mg parts) ⟨w.heap.size,0,none⟩ n (fun j=>vs.getD j undef) jB jB (fun _=>⟨VB.symm,vs,e,heap_alloc_new w.toWorld _⟩) Zm jE (fun h=>by have:=hw.fin _ h;simp at this) (fun i j hi hj=>by
    rw[jq,tp w.heap.size _ vs e (0,0) (heap_alloc_new w.toWorld _)];have:=z8 hi hj;rw[VB]at this;simp[show i*sz+j<vs.size from jB]) (fun i j u hi hu=>by
    have hj:j<sz:=by have:=(List.getElem?_eq_some_iff.1 hu).1;rwa [vy Zm hi]at this
    have hx:=Ml g2 (k:=i*sz+j) (u:=u) (by rw[<-hu];exact qF Zm hi hj);rw[Array.toArray_toList]at hx;refine(hx.lb (lK Ur (i:=i*sz+j) (by rw[<-hu];exact qF Zm hi hj))).aX ex.toKeep.bare (nA u))
   rw[VB]at this;exact this
 ·obtain⟨q1,q2⟩:=v6 (row:=.aG e sz (mg parts)) hw (hw.none hi _) (fun r' hr=>by rw[hi]at hr;cases hr) ⟨h0,Zm⟩ vs ⟨rfl,by show(mg parts).flatten.length<=_;omega⟩ (fun k a v ha hv=>g2.2 k a v ha (by simpa using hv));refine⟨_,_,_,_,B',hk,q1,?_,q2⟩;have:=ax.rs (w:=((w.to (w.alloc ((Row.aG e sz (mg parts)).obj vs))).gi w.heap.size).name i (Row.aG e sz (mg parts)).fR (.at w.heap.size vs.size (Row.aG e sz (mg parts)).bB)) i (mg parts).length sz (mg parts).length w.heap.size vs.size n (NW.cz _ _ _ _) WX.symm jB h0;rw[VB]at this ⊢;exact this
def DS(ne:Bool)(t:UJ){a b:AV}{va vb:Value}(x y:Operand)(ha:ax w a va)(hb:ax w b vb)(hv:qC P ne t a b H K) :
  ∃r v,(do eqGuard (if ne then .neq else .eql) t x y va vb;binOp (if ne then .neq else .eql) t va vb:Sem Value).run P w.toWorld=.ok v w.toWorld/\K r H/\ax w r v:=by
 have key:∀{n:Nat},gW P t=true->(∀b:Bool,(b=true->n=0)->K (.raw (.bool (ne ^^ b))) H)->(∃A c,va=.slice A n c/\(A=none->n=0))->vb=.slice none 0 0->
   ∃r v,(do eqGuard (if ne then .neq else .eql) t x y va vb;binOp (if ne then .neq else .eql) t va vb:Sem Value).run P w.toWorld=.ok v w.toWorld/\K r H/\ax w r v:=fun{n} h1 h2 h3 h4=>by
  obtain⟨e,hu⟩:=oX h1;obtain⟨A,c,rfl,hA⟩:=h3;subst h4;have he:(Op.equal t (.slice A n c) (.slice none 0 0)).run P w.toWorld=.ok A.isNone w.toWorld:=by refine qN (fun d=>?_);cases A<;>simp[Op.equalIn,run_underlying hu]
  obtain⟨v,h1,h3⟩:=qR (P:=P) (w:=w) (ne:=ne) (t:=t) (x:=x) (y:=y) (fun op=>eqGuard_at_slice _ _ _ _ _ _ _ _) rfl rfl he;exact⟨_,v,h1,h2 A.isNone (fun h=>hA (by simpa using h)),h3⟩
 unfold qC at hv;split at hv
 ·rename_i z sz css _;refine key (n:=css.length) hv.1 (fun b hb=>hv.2 b fun h=>List.length_eq_zero_iff.1 (hb h)) ?_ (db hb);cases ha with
  |gG _ _ A c _=>exact⟨A,c,rfl,fun _=>rfl⟩
  |sl _ _ _ ad c _ _ _ _ _ _ _ _ _=>exact⟨some ad,c,rfl,fun h=>by cases h⟩
 ·rename_i i m sz n;refine key (n:=n) hv.1 hv.2 ?_ (db hb);cases ha with
  |iJ _ _ _ A _=>exact⟨A,0,rfl,fun _=>rfl⟩
  |rs _ _ _ _ b t c _ _ _ _=>exact⟨some ⟨b,0,none⟩,c,rfl,fun h=>by cases h⟩
 ·obtain⟨v,h1,h2⟩:=G5 (P:=P) (if ne then .neq else .eql) t x y ha hb hv.1;exact⟨_,v,h1,hv.2,h2⟩
-- appends
def cf.append{a b:UE}{x y:UM}(h:cf w a x)(k:cf w b y):cf w (a++b) (x++y):=by
 refine⟨by simp[h.1,k.1],fun i u v hu hv=>?_⟩;rcases Nat.lt_or_ge i a.length with h1|h1
 ·rw[List.getElem?_append_left h1]at hu;rw[List.getElem?_append_left (by rw[<-h.1];exact h1)]at hv;exact h.2 i u v hu hv
 ·rw[List.getElem?_append_right h1]at hu;rw[List.getElem?_append_right (by rw[<-h.1];exact h1),<-h.1]at hv;exact k.2 _ u v hu hv
def C5(w:NW)(sz:Nat)(v:Value)(ys:UC):Prop:=∃A c news,v=.slice A ys.length c/\cf w ys.flatten news/\(0<ys.length->∃ad,A=some ad/\∀(j:Nat) v,news[j]?=some v->w.cell? (ad.add j)=some v)
variable{sz:Nat}
def vv(A:Option Addr)(c:Nat):C5 w sz (.slice A 0 c) []:=⟨A,c,[],rfl,⟨rfl,fun i a v h=>by simp at h⟩,fun h=>by simp at h⟩
variable{ys:UC}
def zu{c:Nat}{ad:Addr}(hl:∀y∈ys,y.length=sz)(h:∀i j,i<ys.length->j<sz->∃v,w.cell? (ad.add (i*sz+j))=some v/\∀u,(ys.getD i [])[j]?=some u->ax w u v):C5 w sz (.slice (some ad) ys.length c) ys:=by
 have VN:=gu hl;refine⟨some ad,c,(List.range (ys.length*sz)).map fun k=>(w.cell? (ad.add k)).getD undef,rfl,⟨by simp[VN],fun k a v ha hv=>?_⟩,fun _=>⟨ad,rfl,fun k v hv=>?_⟩⟩
 ·have hk:k<ys.length*sz:=by have:=(List.getElem?_eq_some_iff.1 ha).1;omega
  obtain⟨i,j,hi,hj,rfl⟩:=u0 hk;rw[qF hl hi hj]at ha;obtain⟨v',h1,h2⟩:=h i j hi hj;simp only[List.getElem?_map,List.getElem?_range hk,Option.map_some,Option.some.injEq,h1,Option.getD_some]at hv;subst hv;exact h2 a ha
 ·have hk:k<ys.length*sz:=by have:=(List.getElem?_eq_some_iff.1 hv).1;simpa using this
  obtain⟨i,j,hi,hj,rfl⟩:=u0 hk;obtain⟨v',h1,h2⟩:=h i j hi hj;simp only[List.getElem?_map,List.getElem?_range hk,Option.map_some,Option.some.injEq,h1,Option.getD_some]at hv;subst hv;exact h1
variable{css:UC}
def tz(hw:aJ w H){i:Nat}{e:UJ}{b t s:Nat}(hi:H.get i=some (.aG e sz css))(hn:w.nm i css.length=some (.at b t s)){k j:Nat}(hk:k<css.length)(hj:j<sz) :
  s=sz/\(∀cs∈css,cs.length=sz)/\css.length*sz<=t/\∃v,w.cell? ⟨b,k*sz+j,none⟩=some v/\∀u,(css.getD k [])[j]?=some u->ax w u v:=by
 obtain⟨hok,z,hz,UU⟩:=hw.rows i _ hi;have:z=.at b t s:=by have hz:w.nm i css.length=some z:=hz;rw[hn]at hz;cases hz;rfl
 subst this;obtain⟨hs_,cur,hh,⟨hs,hl⟩,hr⟩:=UU;have hs_:sz=s:=hs_.symm;subst hs_;have VN:(Row.aG e sz css).cells.length=css.length*sz:=gu hok.2;have h3:=z8 hk hj;have h4:k*sz+j<cur.size:=jB;refine⟨rfl,hok.2,jB,cur[k*sz+j],?_,fun u hu=>?_⟩
 ·rw[tp b _ cur _ (0,0) hh];simp[h4]
 ·refine hr (k*sz+j) u _ ?_ (by simp[h4]);show css.flatten[k*sz+j]?=some u;rw[qF hok.2 hk hj];exact hu
def Aa(hw:aJ w H){x:AV}{vx:Value}(hx:ax w x vx){c:Prop}(h:tP H x=some (c,ys))(hc:c)(hg:Good sz ys):C5 w sz vx ys:=by
 unfold tP at h;split at h
 ·rename_i xx sz' css _;cases h;cases hx with
  |gG=>exact vv _ _
  |sl _ _ _ ad c vs hn VM hx Uu hb hH D' hr=>
   have hz:sz'=sz:=by rw[<-Uu (ys[0]) (List.getElem_mem hn),(hg _ (List.getElem_mem hn)).1]
   subst hz;exact zu Uu fun i j hi hj=>⟨_,D' i j hi hj,fun u hu=>(hr i j u hi hu).mj⟩
 ·rename_i i m sz' n;split at h
  ·rename_i e sz2 css hi;cases h;obtain⟨rfl,rfl,hn⟩:=hc;cases hx with
   |iJ _ _ _ A US=>rw[List.take_zero];exact vv _ _
   |rs _ _ _ _ b t c US VM Uq V4=>
    have I':(css.take n).length=n:=by simp;omega
    by_cases h0:n=0
    ·subst h0;rw[List.take_zero];exact vv _ _
    have hz:sz2=sz:=by obtain⟨_,UX,_⟩:=tz hw hi US (k:=0) (j:=0) jB V4;have h1:(css.take n)[0]' jB∈css.take n:=List.getElem_mem _;rw[<-UX _ (List.mem_of_mem_take h1),(hg _ h1).1]
    subst hz;have:=zu (w:=w) (sz:=sz2) (c:=c) (ys:=css.take n) (ad:=⟨b,0,none⟩) (fun y hy=>(hg y hy).1) fun i' j Vi hj=>by obtain⟨_,_,_,v,h1,h2⟩:=tz hw hi US (k:=i') (j:=j) jB hj;refine⟨v,by rw[jq,Nat.zero_add];exact h1,fun u hu=>h2 u ?_⟩;rw[<-hu];simp[List.getElem?_take,show i'<n from jB]
    rw[I']at this;exact this
  ·cases h
 ·rename_i i m sz' o n;split at h
  ·rename_i e sz2 css hi;cases h;obtain⟨rfl,rfl,hn⟩:=hc;have I':((css.drop o).take n).length=n:=by simp;omega
   cases hx with
   |jn _ _ _ _ A=>rw[List.take_zero];exact vv _ _
   |rv _ _ _ _ _ b t c US Uq=>
    by_cases h0:n=0
    ·subst h0;rw[List.take_zero];exact vv _ _
    have h1:((css.drop o).take n)[0]' jB∈(css.drop o).take n:=List.getElem_mem _;obtain⟨hok,_⟩:=hw.rows i _ hi;have hz:sz2=sz:=by rw[<-hok.2 _ (List.mem_of_mem_drop (List.mem_of_mem_take h1)),(hg _ h1).1]
    subst hz;have:=zu (w:=w) (sz:=sz2) (c:=c) (ys:=(css.drop o).take n) (ad:=⟨b,o*sz2,none⟩) (fun y hy=>(hg y hy).1) fun i' j Vi hj=>by obtain⟨_,_,_,v,h1,h2⟩:=tz hw hi US (k:=o+i') (j:=j) jB hj;refine⟨v,by rw[jq,<-Nat.add_assoc,<-Nat.add_mul];exact h1,fun u hu=>h2 u ?_⟩;rw[<-hu];simp[List.getElem?_take,show i'<n from jB]
    rw[I']at this;exact this
  ·cases h
 ·cases h;have:=db hx;subst this;exact vv _ _
 ·cases h
def sK{e:UJ}(he:ir P t=some e):P.underlying t=some (.slice e):=by unfold ir at he;split at he<;>simp_all
def uc{e:UJ}{zs:UM}(Uu:dc P e=some sz)(hz:dR P e=some zs)(hl:zs.length=sz):∃i z,P.info? e=some i/\i.size=sz/\i.zero=some z/\z.cells.size=sz/\j4 P e=i.bytes:=by
 unfold dc at Uu;cases hi:P.info? e with
 |none=>rw[hi]at Uu;cases Uu
 |some i=> rw[hi]at Uu;unfold dR at hz;rw[hi]at hz;simp only[Option.bind_some,Option.map_eq_some_iff]at hz;obtain⟨z,Vp,ZK⟩:=hz;refine⟨i,z,rfl,by simpa using Uu,Vp,?_,by simp[j4,hi]⟩;rw[<-hl,<-ZK];simp
def tA(hw:aJ w H){i:Nat}{e:UJ}{cap:Nat}{cI:UM}{rest:UL}(h0:0<sz)(I':∀cs∈css,cs.length=sz)(U2:cf w css.flatten cI)(Xw:css.length<=cap)(UZ:rest.size=(cap-css.length)*sz)
  (Yq:w.nm i css.length=none) (Xp:∀r,H.get i=some r->r.fR<=css.length) :
  ∃w':NW,w'.toWorld=w.drew.alloc (.cells (cI.toArray++rest) e)/\aJ w' (H.put i (.aG e sz css))/\Ext w H w' (H.put i (.aG e sz css))/\ax w' (.rs i css.length sz css.length) (.slice (some ⟨w.heap.size,0,none⟩) css.length cap):=by
 have VN:=gu I';have YZ:cI.length=css.length*sz:=by rw[<-U2.1,VN]
 have Uu:(cI.toArray++rest).size=cap*sz:=by simp only[Array.size_append,List.size_toArray,YZ,UZ];rw[<-Nat.add_mul];congr 1;omega
 have Uq:=Nat.mul_le_mul_right sz Xw;obtain⟨g1,g2⟩:=v6 (row:=.aG e sz css) hw.drew Yq Xp ⟨h0,I'⟩ (cI.toArray++rest) ⟨rfl,by show css.flatten.length<=_;omega⟩ (fun k a v ha hv=>by
  have hi:k<cI.length:=by rw[<-U2.1];exact(List.getElem?_eq_some_iff.1 ha).1
  rw[Array.getElem?_append_left (by simpa using hi)]at hv;exact(U2.2 k a v ha (by simpa using hv)).ext (Ext.drew w H))
 refine⟨_,rfl,g1,(Ext.drew w H).trans g2,?_⟩;exact ax.rs i css.length sz css.length w.heap.size (cI.toArray++rest).size cap (NW.cz _ _ _ _) Uu.symm Xw h0
def Mi{a x:AV}(h:yy P t a x H K):qn P t t a x H K:=by
 intro w va vx ty hw WC ZL;unfold yy at h;split at h;rotate_left
 ·exact h.elim
 rename_i e he;split at h;rotate_left
 ·exact h.elim
 rename_i sz zs c ys Wb X1 WY;obtain⟨⟨WT,h0,hc,hg⟩,h⟩:=h;have hu:=sK he;obtain⟨i,z,hi,U5,WL,Yg,Yt⟩:=uc Wb X1 WT;obtain⟨A,cx,news,rfl,U7,VJ⟩:=Aa hw ZL WY hc hg;have VN:ys.flatten.length=ys.length*sz:=gu fun y hy=>(hg y hy).1
 have Wr:news.length=ys.length*sz:=by rw[<-U7.1,VN]
 have XI:∀m,(Builtin.zeroCells z.cells m).size=m*sz:=fun m=>by simp[Builtin.zeroCells,Yg]
 have WD:∀need old,need<=grownCap w.toWorld need old e:=fun need old=>by unfold grownCap Question.cut;simp
 have Wf:cM ys.flatten=true:=by simp only[cM,List.all_eq_true];intro u X2;obtain⟨y,hy,YR⟩:=List.mem_flatten.1 X2;have:=(hg y hy).2;simp only[cM,List.all_eq_true]at this;exact this u YR
 have hf0:∀A:Option Addr,ys.length=0->(Builtin.firstCells i.size 0 (.slice A 0 cx)).run P w.toWorld=.ok #[] w.toWorld:=fun A _=>by cases A<;>simp[Builtin.firstCells,loadCells,loadCellsFrom]
 rw[Yt]at h;unfold Cf at h;split at h
 ·-- a row of one's own
  rename_i d m sz' n;split at h;rotate_left
  ·exact h.elim
  rename_i e' sz2 css hd;obtain⟨⟨rfl,rfl,rfl,rfl,haj,VK,h63⟩,hk⟩:=h;have hk:=RO hk;have hok:=(hw.rows d _ hd).1;have U0:∀cs∈dx css n ys,cs.length=sz2:=fun cs h=>by
   unfold dx at h;rcases List.mem_append.1 h with h|h
   ·rcases List.mem_append.1 h with h|h
    ·exact hok.2 _ (List.mem_of_mem_take h)
    ·exact(hg cs h).1
   ·exact hok.2 _ (List.mem_of_mem_drop h)
  have Wx:=gu hok.2;have Uz:=tV ys haj;cases WC with
  |iJ _ _ _ A US=>
   -- nowhere yet
   obtain⟨_,z',U',UU⟩:=hw.rows d _ hd;have:z'=.nil:=by have U':w.nm d css.length=some z':=U';rw[US]at U';cases U';rfl
   subst this;obtain⟨e2,sz3,UU⟩:=UU;cases UU;simp only[dx,List.take_nil,List.drop_nil,List.append_nil,List.nil_append,List.length_nil,Nat.zero_add,Nat.zero_max]at hk Uz;by_cases hy:ys.length=0
   ·have:ys=[]:=List.length_eq_zero_iff.1 hy;subst this;refine⟨w,_,_,.slice A 0 0,?_,hk,?_,.iJ _ _ _ _ US,?_⟩
    ·cases A<;>simp[Builtin.append_,run_underlying hu,sizeOf,typeInfo,hi,Builtin.lenOf,hf0,storeCells]
    ·refine{ hw with rows:=fun j r hj=>?_,di:=fun j q z hz=>?_ }
     ·rw[Hp.bk]at hj;split at hj
      ·rename_i e;subst e;exact hw.rows j r (by rw[hd];exact hj)
      ·exact hw.rows j r hj
     ·rw[Hp.bk];split
      ·rename_i e;subst e;obtain⟨r,g1,g2⟩:=hw.di j q z hz;rw[hd]at g1;cases g1;exact⟨_,rfl,g2⟩
      ·exact hw.di j q z hz
    ·exact{ Ext.refl w H with base:=rfl }
   ·obtain⟨ad,rfl,D'⟩:=VJ jB;obtain⟨w',e1,g1,g2,g3⟩:=tA (i:=d) (e:=e') (cap:=grownCap w.toWorld ys.length 0 e') (css:=ys) (rest:=Builtin.zeroCells z.cells (grownCap w.toWorld ys.length 0 e'-ys.length)) hw h0 (fun y hy=>(hg y hy).1) U7 (WD _ _) (XI _) (hw.later hd (by show([]:UC).length<_;simp;omega)) (fun r hr=>by rw[hd]at hr;cases hr;exact Nat.zero_le _);refine⟨w',_,_,_,?_,hk,by simpa using g1,by simpa using g3,by simpa using g2⟩;rw[e1];cases A with
    |none=> have:=run_append_nil w.toWorld t ty e' i z hu hi WL ad ys.length cx news (by rw[U5];exact Wr) D' jB (by simp at h63;omega) (by simp at VK;omega);exact this
    |some b=>
     have:=run_append_grow (P:=P) w.toWorld t ty e' i z hu hi WL b 0 0 [] jE (fun j v h=>by simp at h) ad ys.length cx news (by rw[U5];exact Wr) D' jB (by simp at h63;simp;omega) (by rw[Nat.zero_add,nextslicecap_zero jB];simp at VK;omega)
     simpa using this
  |rs _ _ _ _ b t' cap US V6 Uq V4=>
   obtain⟨_,z',U',UU⟩:=hw.rows d _ hd;have:z'=.at b t' sz2:=by have U':w.nm d css.length=some z':=U';rw[US]at U';cases U';rfl
   subst this;obtain⟨_,cur,hh,⟨Vy,Uo⟩,WZ⟩:=UU;have hh:w.heap[b]?=some (.cells cur e' (0,0)):=hh;have Uo:css.flatten.length<=t':=Uo;have Xw:css.length<=cap:=by rw[Wx,<-V6]at Uo;exact Nat.le_of_mul_le_mul_right Uo h0
   have Wn:(css.take n).flatten.length=n*sz2:=by rw[gu fun c hc=>hok.2 c (List.mem_of_mem_take hc),List.length_take,Nat.min_eq_left haj]
   have hak:(css.take n).flatten=css.flatten.take (n*sz2):=by
    have:css.flatten=(css.take n).flatten++(css.drop n).flatten:=by rw[<-List.flatten_append,List.take_append_drop]
    rw[this,<-Wn,List.take_left'];rfl
   by_cases Ve:n+ys.length<=cap
   ·-- in place
    have V3:n*sz2+ys.flatten.length<=t':=by rw[VN,<-Nat.add_mul,<-V6];exact Nat.mul_le_mul_right _ Ve
    obtain⟨w',B',g1,g2,g3⟩:=sH (P:=P) (off:=n*sz2) (r':=.aG e' sz2 (dx css n ys)) hw hd US U7 Wf V3 rfl rfl rfl rfl (by show css.length<=(dx css n ys).length;rw[Uz];omega) ⟨h0,U0⟩ (by show(dx css n ys).flatten.length<=t';rw[gu U0,Uz,<-V6];exact Nat.mul_le_mul_right _ (Nat.max_le.2 ⟨Xw,Ve⟩)) (fun p u hp=>by
     have hp:(dx css n ys).flatten[p]?=some u:=hp;unfold dx at hp;rw[List.flatten_append,List.flatten_append]at hp;show if _ then _ else css.flatten[p]?=some u
     rcases Nat.lt_or_ge p (n*sz2)with h|h
     ·rw[jN];rw[List.getElem?_append_left (by simp only[List.length_append];omega),List.getElem?_append_left jB,hak,List.getElem?_take,if_pos h]at hp;exact hp
     ·rcases Nat.lt_or_ge p (n*sz2+ys.flatten.length)with h'|h'
      ·rw[if_pos ⟨h,h'⟩];rw[List.getElem?_append_left (by simp only[List.length_append];omega),List.getElem?_append_right jB,Wn]at hp;exact hp
      ·rw[jN];rw[List.getElem?_append_right (by simp only[List.length_append];omega)]at hp;have e2:css.flatten=(css.take (n+ys.length)).flatten++(css.drop (n+ys.length)).flatten:=by rw[<-List.flatten_append,List.take_append_drop]
       have O':=(List.getElem?_eq_some_iff.1 hp).1;have hnk:n+ys.length<=css.length:=by
        rcases Nat.lt_or_ge css.length (n+ys.length)with h6|h6
        ·rw[List.drop_eq_nil_of_le jB]at O';simp at O'
        ·exact h6
       have e3:(css.take (n+ys.length)).flatten.length=n*sz2+ys.flatten.length:=by rw[gu fun c hc=>hok.2 c (List.mem_of_mem_take hc),List.length_take,Nat.min_eq_left hnk,VN,Nat.add_mul]
       rw[e2,List.getElem?_append_right jB,e3];simp only[List.length_append,Wn]at hp;exact hp)
    refine⟨w',_,_,.slice (some ⟨b,0,none⟩) (n+ys.length) cap,?_,hk,g1,?_,g2⟩
    ·have hf:(Builtin.firstCells i.size ys.length (.slice A ys.length cx)).run P w.toWorld=.ok news.toArray w.toWorld:=by
      by_cases h0:ys.length=0
      ·have:news=[]:=by have:=Wr;rw[h0,Nat.zero_mul]at this;simpa using this
       subst this;rw[h0];cases A<;>simp[Builtin.firstCells,loadCells,loadCellsFrom]
      ·obtain⟨ad,rfl,D'⟩:=VJ jB;exact run_firstCells_some (P:=P) w.toWorld i.size ys.length ad ys.length cx news (by rw[U5];exact Wr) D'
     have X3:(⟨b,0,none⟩:Addr).add (n*sz2)=⟨b,n*sz2,none⟩:=by rw[jq];simp
     rw[U5]at hf;simp[Builtin.append_,run_underlying hu,sizeOf,typeInfo,hi,Builtin.lenOf,Ve,hf,U5,X3,B']
    ·have g3:w'.nm d (max css.length (n+ys.length))=some (.at b t' sz2):=by rw[<-Uz];exact g3
     exact .rs d _ sz2 _ b t' cap g3 V6 Ve V4
   ·-- a new row
    have VU:0<ys.length:=jB;obtain⟨ad,rfl,D'⟩:=VJ VU;have XJ:dx css n ys=css.take n++ys:=by unfold dx;rw[List.drop_eq_nil_of_le jB,List.append_nil]
    have Xv:max css.length (n+ys.length)=n+ys.length:=Nat.max_eq_right jB;rw[XJ]at hk U0 Uz;rw[Xv]at hk Uz;have hold:cf w (css.take n).flatten (cur.toList.take (n*sz2)):=by
     refine⟨by simp only[List.length_take,Array.length_toList];have:=Nat.mul_le_mul_right sz2 Uq;omega,fun k a v Zn hv=>?_⟩;rw[List.getElem?_take]at hv;split at hv
     ·rename_i hkn;rw[hak,List.getElem?_take,if_pos hkn]at Zn;exact WZ k a v Zn (by simpa using hv)
     ·cases hv
    have UX:=hold.append U7;rw[<-List.flatten_append]at UX;obtain⟨w',e1,g1,g2,g3⟩:=tA (i:=d) (e:=e') (cap:=grownCap w.toWorld (n+ys.length) cap e') (css:=css.take n++ys) (rest:=Builtin.zeroCells z.cells (grownCap w.toWorld (n+ys.length) cap e'-(n+ys.length))) hw h0 U0 UX (by rw[Uz];exact WD _ _) (by rw[Uz];exact XI _) (hw.later hd (by show css.length<_;rw[Uz];omega)) (fun r hr=>by rw[hd]at hr;cases hr;show css.length<=_;rw[Uz];omega);rw[Uz]at g3;refine⟨w',_,_,_,?_,hk,g1,g3,g2⟩;rw[e1];have:=run_append_grow (P:=P) w.toWorld t ty e' i z hu hi WL ⟨b,0,none⟩ n cap (cur.toList.take (n*sz2)) (by rw[<-hold.1,Wn,U5]) (fun k v hv=>by
     rw[List.getElem?_take]at hv;split at hv
     ·rw[jq,tp b _ cur e' (0,0) hh,Nat.zero_add];simpa using hv
     ·cases hv) ad ys.length cx news (by rw[U5];exact Wr) D' jB jB (growslice_fits jB jB)
    rw[this];congr 3
    apply Array.ext';simp
 ·-- nothing
  obtain⟨⟨VK,h63⟩,d,hd,hk⟩:=h;have:=db WC;subst this;by_cases hy:ys.length=0
  ·have:ys=[]:=List.length_eq_zero_iff.1 hy;subst this;obtain⟨g1,g2⟩:=xy hw hd e h0;refine⟨_,_,_,.slice none 0 0,?_,hk,g1,.iJ _ _ _ _ (NW.cz _ _ _ _),g2⟩;have:(Builtin.append_ #[t,t] ty #[.slice none 0 0,.slice A 0 cx]).run P w.toWorld=.ok (.slice none 0 0) w.toWorld:=by
    simp[Builtin.append_,run_underlying hu,sizeOf,typeInfo,hi,Builtin.lenOf,hf0,storeCells]
   exact this
  ·obtain⟨ad,rfl,D'⟩:=VJ jB;obtain⟨w',e1,g1,g2,g3⟩:=tA (i:=d) (e:=e) (cap:=grownCap w.toWorld ys.length 0 e) (css:=ys) (rest:=Builtin.zeroCells z.cells (grownCap w.toWorld ys.length 0 e-ys.length)) hw h0 (fun y hy=>(hg y hy).1) U7 (WD _ _) (XI _) (hw.none hd _) (fun r hr=>by rw[hd]at hr;cases hr);refine⟨w',_,_,_,?_,hk,g1,g3,g2⟩;rw[e1];exact run_append_nil w.toWorld t ty e i z hu hi WL ad ys.length cx news (by rw[U5];exact Wr) D' jB jB jB
 ·-- a literal
  rename_i sz' css _;obtain⟨⟨rfl,⟨VK,h63⟩,hor⟩,d,hd,hk⟩:=h;have Uz:(css++ys).length=css.length+ys.length:=List.length_append;cases WC with
  |gG _ _ A' c' hx=>
   have V7:=hx rfl;subst V7;by_cases hy:ys.length=0
   ·have:ys=[]:=List.length_eq_zero_iff.1 hy;subst this;obtain⟨g1,g2⟩:=xy hw hd e h0;refine⟨_,_,_,.slice A' 0 0,?_,hk,g1,.iJ _ _ _ _ (NW.cz _ _ _ _),g2⟩;have:(Builtin.append_ #[t,t] ty #[.slice A' 0 0,.slice A 0 cx]).run P w.toWorld=.ok (.slice A' 0 0) w.toWorld:=by
     cases A'<;>simp[Builtin.append_,run_underlying hu,sizeOf,typeInfo,hi,Builtin.lenOf,hf0,storeCells]
    exact this
   ·obtain⟨ad,rfl,D'⟩:=VJ jB;obtain⟨w',e1,g1,g2,g3⟩:=tA (i:=d) (e:=e) (cap:=grownCap w.toWorld ys.length 0 e) (css:=ys) (rest:=Builtin.zeroCells z.cells (grownCap w.toWorld ys.length 0 e-ys.length)) hw h0 (fun y hy=>(hg y hy).1) U7 (WD _ _) (XI _) (hw.none hd _) (fun r hr=>by rw[hd]at hr;cases hr);refine⟨w',_,_,_,?_,hk,by simpa using g1,by simpa using g3,by simpa using g2⟩;rw[e1];cases A' with
    |none=>exact run_append_nil w.toWorld t ty e i z hu hi WL ad ys.length cx news (by rw[U5];exact Wr) D' jB (by simp at h63;omega) (by simp at VK;omega)
    |some b=>
     have:=run_append_grow (P:=P) w.toWorld t ty e i z hu hi WL b 0 0 [] jE (fun j v h=>by simp at h) ad ys.length cx news (by rw[U5];exact Wr) D' jB (by simp at h63;simp;omega) (by rw[Nat.zero_add,nextslicecap_zero jB];simp at VK;omega)
     simpa using this
  |sl _ _ _ b c' vs hn VM hx Uu hb hH ZM hr=>
   have U0:∀cs∈css++ys,cs.length=sz':=fun cs h=>by
    rcases List.mem_append.1 h with h|h
    ·exact Uu _ h
    ·exact(hg cs h).1
   obtain⟨Yh,cur,el,Xs⟩:=hx rfl;subst Yh;have Wx:=gu Uu;have hold:cf w css.flatten ((List.range (css.length*sz')).map vs):=by
    refine⟨by simp[Wx],fun k a v Zn hv=>?_⟩;have hk:k<css.length*sz':=by have:=(List.getElem?_eq_some_iff.1 Zn).1;omega
    obtain⟨i',j,Vi,hj,rfl⟩:=u0 hk;rw[qF Uu Vi hj]at Zn;simp only[List.getElem?_map,List.getElem?_range hk,Option.map_some,Option.some.injEq]at hv;subst hv;exact(hr i' j a Vi Zn).mj
   by_cases hy:ys.length=0
   ·
    omega
   ·obtain⟨ad,rfl,D'⟩:=VJ jB;have UX:=hold.append U7;rw[<-List.flatten_append]at UX;obtain⟨w',e1,g1,g2,g3⟩:=tA (i:=d) (e:=e) (cap:=grownCap w.toWorld (css.length+ys.length) css.length e) (css:=css++ys) (rest:=Builtin.zeroCells z.cells (grownCap w.toWorld (css.length+ys.length) css.length e-(css.length+ys.length))) hw h0 U0 UX (by rw[Uz];exact WD _ _) (by rw[Uz];exact XI _) (hw.none hd _) (fun r hr=>by rw[hd]at hr;cases hr);rw[Uz]at g3;refine⟨w',_,_,_,?_,hk,g1,g3,g2⟩;rw[e1];have:=run_append_grow (P:=P) w.toWorld t ty e i z hu hi WL b css.length css.length ((List.range (css.length*sz')).map vs) (by rw[<-hold.1,Wx,U5]) (fun k v hv=>by
     have hk:k<css.length*sz':=by have:=(List.getElem?_eq_some_iff.1 hv).1;simpa using this
     obtain⟨i',j,Vi,hj,rfl⟩:=u0 hk;simp only[List.getElem?_map,List.getElem?_range hk,Option.map_some,Option.some.injEq]at hv;subst hv;exact ZM i' j Vi hj) ad ys.length cx news (by rw[U5];exact Wr) D' jB jB (growslice_fits jB jB)
    rw[this];congr 3
    apply Array.ext';simp
 ·exact h.elim
end
section
variable {P:UP}{H:Hp}
variable{w:NW}
def yf(l:UM):cf w (l.map .raw) l:=⟨jE,fun i a v ha hv=>by simp only[List.getElem?_map,Option.map_eq_some_iff]at ha;obtain⟨x,hx,rfl⟩:=ha;rw[hx]at hv;cases hv;exact .raw _⟩
variable{f:FuncId}
def Sl{a:AV}{v:Value}{first captured:UE}(h:ax w a v)(hf:Ax a=some (f,first,captured)):∃x y:UL,v=.func (.func f) x y/\cf w first x.toList/\cf w captured y.toList:=by
 unfold Ax at hf;split at hf
 ·rename_i f x y;simp only[Option.some.injEq,Prod.mk.injEq]at hf;obtain⟨rfl,rfl,rfl⟩:=hf;exact⟨x,y,db h,yf _,yf _⟩
 ·simp only[Option.some.injEq,Prod.mk.injEq]at hf;obtain⟨rfl,rfl,rfl⟩:=hf;cases h with
  |dW _ _ vs hl hr=>exact⟨#[],vs,rfl,⟨rfl,fun i a v h=>by simp at h⟩,⟨by simpa using hl,fun i a v h1 h2=>hr i a v h1 (by simpa using h2)⟩⟩
 ·simp only[Option.some.injEq,Prod.mk.injEq]at hf;obtain⟨rfl,rfl,rfl⟩:=hf;cases h with
  |bd _ _ vs hl hr=>exact⟨vs,#[],rfl,⟨by simpa using hl,fun i a v h1 h2=>hr i a v h1 (by simpa using h2)⟩,⟨rfl,fun i a v h=>by simp at h⟩⟩
 ·cases hf
def Fq{l:UE}{vs:UM}(h:cf w l vs):bs w l vs.toArray:=⟨by simpa using h.1,fun i a v ha hv=>h.2 i a v ha (by simpa using hv)⟩
def Ry  (h : aS P f = true) : ∃ fn, P.funcs[f]? = some fn ∧ fn.body.isSome = true ∧ (fn.name == "runtime.NumGoroutine") = false := by
 unfold aS at h;split at h
 ·rename_i fn hf;simp only[Bool.and_eq_true,Bool.not_eq_true']at h;exact⟨fn,hf,h.1,h.2⟩
 ·cases h
variable{R:UB}
def EO{xs:UL}{l:UE}{o:Oper}(h:(aS P f=true/\dm P f l H R)\/ua P f l H R){a:Act}{next:Act->World->Prop}{Q:Exit->Act->World->Prop}(hcf:(execOp a.eval o).run P w.toWorld=(callFunc f xs).run P w.toWorld)(hw:aJ w H)(U2:bs w l xs)
  (hn:∀(v:Value) (r:AV) (w':NW) (H':Hp),R r H'->aJ w' H'->ax w' r v->Ext w H w' H'->next (a.put o.dst v) w'.toWorld):Oper.wp P o a w.toWorld next Q:=by
 rcases h with⟨Vc,hc⟩|Va
 ·obtain⟨fn,VO,hb,Xd⟩:=Ry Vc;have B':(execOp a.eval o).run P w.toWorld=.ok (.enter f xs) w.toWorld:=by
   have Vv:fn.body.isNone=false:=by cases hbb:fn.body<;>simp_all
   rw[hcf];simp only[callFunc,Sem.run_bind,run_program,Result.andThen_ok,VO,Xd,Vv,Bool.false_eq_true,if_false,Sem.run_pure]
  simp only[Oper.wp,B',Oper.upon_enter];refine(hc w _ hw U2).mono ?_;rintro e W ⟨v,r,H',w',rfl,rfl,hR,g1,g2,g3⟩;exact hn v r w' H' hR g1 g2 g3
 ·obtain⟨v,w',r,H',B',hR,g1,g2,g3⟩:=Va w _ hw U2;rw[<-hcf]at B';simp only[Oper.wp,B',Oper.upon];exact hn v r w' H' hR g1 g2 g3
variable{as:Array Operand}{ts:Array UJ}{dst:Option Tmp}{after:Array Edge}{guard:Option (Nat×Bool)}
def xk{f:AV}{args:UE}{fo:Operand}{ty:UJ}{pos:String}{ev:UK}(Xm:ev fo=f)(Zo:as.toList.map ev=args)
  (h:fg P f args H R) {w:NW} {a:Act} {next:Act->World->Prop} {Q:Exit->Act->World->Prop} (hw:aJ w H) (hr:∀x,ax w (ev x) (a.eval x))
  (hn:∀(v:Value) (r:AV) (w':NW) (H':Hp),R r H'->aJ w' H'->ax w' r v->Ext w H w' H'->next (a.put dst v) w'.toWorld):Oper.wp P ⟨dst,.call ⟨.value fo,as,ts⟩,ty,pos,after,guard⟩ a w.toWorld next Q:=by
 unfold fg at h;split at h
 ·rename_i f first captured hf
  obtain⟨x,y,hv,hx,hy⟩:=Sl (Xm ▸ hr fo) hf;have VT:as.map a.eval=(as.toList.map a.eval).toArray:=by rw[<-Array.toList_map,Array.toArray_toList]
  refine EO h ?_ hw (Fq ((hx.append (Zo ▸ wc hr as.toList)).append hy)) hn;have e:x++(as.toList.map a.eval).toArray++y=(x.toList++as.toList.map a.eval++y.toList).toArray:=by apply Array.ext';simp
  simp only[execOp,resolve,hv,Deferred.ofValue,pure_bind,invoke,VT,e]
 ·exact h.elim
def Lx{t:UJ}{m:String}(h:oK P t m=some f)(v:Value)(W:World):(method (P.types.size+Made.depth) t v m).run P W=.ok (f,v) W:=by
 unfold oK at h;split at h;rotate_left
 ·cases h
 rename_i ti e ht hu;split at h;rotate_left
 ·cases h
 rename_i r hr;split at h;rotate_left
 ·cases h
 rename_i hp;split at h;rotate_left
 ·cases h
 rename_i g hf;cases h;have Xs:r.path.toList=[]:=by have:=Array.isEmpty_iff.1 hp;rw[this]
 obtain⟨n,hn⟩:∃n,P.types.size+Made.depth=n+1:=⟨P.types.size+Made.depth-1,by have hd:=(by decide:Made.depth≠0);omega⟩;rw[hn];unfold method;simp only[Sem.run_bind,run_typeInfo W ht,Result.andThen_ok,hr,Xs,follow,Sem.run_pure,hf,receiverAt,run_underlying hu,Place.get]
def Bn{x:AV}{m:String}{args:UE}{fo:Operand}{ty:UJ}{pos:String}{ev:UK}(Xm:ev fo=x)(Zo:as.toList.map ev=args)
  (h:qo P x m args H R) {w:NW} {a:Act} {next:Act->World->Prop} {Q:Exit->Act->World->Prop} (hw:aJ w H) (hr:∀x,ax w (ev x) (a.eval x))
  (hn:∀(v:Value) (r:AV) (w':NW) (H':Hp),R r H'->aJ w' H'->ax w' r v->Ext w H w' H'->next (a.put dst v) w'.toWorld):Oper.wp P ⟨dst,.call ⟨.invoke fo m,as,ts⟩,ty,pos,after,guard⟩ a w.toWorld next Q:=by
 unfold qo at h;split at h;rotate_left
 ·exact h.elim
 rename_i t b;split at h;rotate_left
 ·exact h.elim
 rename_i f hf;have hx:=hr fo;rw[Xm]at hx;generalize hv:a.eval fo=v at hx;cases hx with
 |iK _ _ u hu=>
  have VT:as.map a.eval=(as.toList.map a.eval).toArray:=by rw[<-Array.toList_map,Array.toArray_toList]
  have h':(aS P f=true/\dm P f (b::args) H R)\/ua P f (b::args) H R:=by
   have:fg P (.raw (.func (.func f) #[] #[])) (b::args) H R=((aS P f=true/\dm P f (b::args) H R)\/ua P f (b::args) H R):=by show((aS P f=true/\dm P f ([]++(b::args)++[]) H R)\/ua P f ([]++(b::args)++[]) H R)=_;rw[List.nil_append,List.append_nil]
   rw[<-this];exact h
  have hl:cf w (b::args) (u::as.toList.map a.eval):=cf.append (a:=[b]) (x:=[u]) ⟨rfl,fun i p q hp hq=>by
   match i with
   |0=>cases hp;cases hq;exact hu
   |i+1=>simp at hp⟩ (Zo ▸ wc hr as.toList)
  refine EO h' (xs:=(u::as.toList.map a.eval).toArray) ?_ hw (Fq hl) hn;have e0:(#[Value.iface t u]++as.map a.eval)[0]?=some (.iface t u):=by rw[Array.getElem?_append_left (by show 0<1;decide)];rfl
  have e1:(#[Value.iface t u]++as.map a.eval).extract 1 (#[Value.iface t u]++as.map a.eval).size=as.map a.eval:=jE;have e2:#[u]++as.map a.eval=(u::as.toList.map a.eval).toArray:=by apply Array.ext';simp
  simp only[execOp,resolve,pure_bind,invoke,hv,e0,e1,callMethod,Sem.run_bind,run_program,Result.andThen_ok,Lx hf,e2]
end
variable{P:UP}{args':UE}
@[congr] theorem j1e{f f':AV}{args:UE}(h1:f=f')(h2:args=args'):fg P f args H K=fg P f' args' H K:=by rw[h1,h2]
variable{a':AV}
@[congr] theorem jxr{a:AV}{m:String}{args:UE}(h1:a=a')(h2:args=args'):qo P a m args H K=qo P a' m args' H K:=by rw[h1,h2]
variable{t:UJ}
@[congr] theorem jyx:ob P H t K=ob P H t K:=rfl
@[congr] theorem j2r{x x':AV}(h:x=x'):qI H t x K=qI H t x' K:=by rw[h]
@[congr] theorem ju3{t':UJ}{a x x':AV}(h1:a=a')(h2:x=x'):qn P t t' a x H K=qn P t t' a' x' H K:=by rw[h1,h2]
@[congr] theorem jr9{b:Builtin}{ts ts':List UJ}{as as':UE}(h1:ts=ts')(h2:as=as'):pG P b ts as H K=pG P b ts' as' H K:=by rw[h1,h2]
def lZ(ops:Array Oper)(F:UE)(j:Nat)(want:Bool):Option Bool:=match (ops[j]?).bind (·.dst)with
 |some d=>match F[d]? with
  |some (.raw (.bool b))=>some (b == want)
  |some (.gd g (.raw (.bool b)))=>some (g && (b == want))
  |_=>none
 |none=>none
def bO(F:UE)(x:Operand):AV:=(jK (cr F x)).2
def gp(F:UE)(o:Op):Bool:=o.operands.toList.all fun x=>(jK (cr F x)).1
def iM:Op->Bool
 |.call { callee:=.invoke ..,.. }=>true
 |.binOp .eql ..=>true
 |.binOp .neq ..=>true
 |o=>du o
def fa(P:UP)(F:UE)(H:Hp)(g:Bool)(K:AV->Prop):Op->Prop
 |.call { callee:=.value f,args,argTypes }=>∃r,(g=true->gp F (.call ⟨.value f,args,argTypes⟩)=true/\fg P (bO F f) (args.toList.map (bO F)) H fun r' H'=>r'=r/\H'=H)/\K (.gd g r)
 |.call { callee:=.invoke f m,args,argTypes }=>∃r,(g=true->gp F (.call ⟨.invoke f m,args,argTypes⟩)=true/\qo P (bO F f) m (args.toList.map (bO F)) H fun r' H'=>r'=r/\H'=H)/\K (.gd g r)
 |.pick c a b=>(g=true->(jK (cr F c)).1=true/\(nU (bO F c) (cr F a) (cr F b)).1)/\K (.gd g (nU (bO F c) (cr F a) (cr F b)).2)
 |o=>if iM o then(g=true->gp F o=true/\(vq P (bO F) H o).1)/\K (.gd g (vq P (bO F) H o).2)else False
def ja:Op->Bool
 |.call { callee:=.value _,.. }=>true
 |_=>false
def ld(P:UP)(ops:Array Oper)(K:UA):List Oper->UA
 |[],F,H=>K F H
 |o::rest,F,H=>match o.guard with
  |none=>vc P (cr F) H o.type (fun r H'=>ld P ops K rest (cO F o.dst r) H') o.op
  |some (j,want)=>match lZ ops F j want with
   |some b=>if ja o.op || iM o.op then fa P F H b (fun r=>ld P ops K rest (cO F o.dst r) H) o.op
    else(b=true->vc P (cr F) H o.type (fun r H'=>ld P ops K rest (cO F o.dst r) H') o.op)/\(b=false->ld P ops K rest (cO F o.dst .any) H)
   |none=>False
section
variable {P:UP}{ops:Array Oper}{F:UE}{H:Hp}
variable{K:UA}{w:NW}{tm:UL}
def C2{o:Oper}{ev:UK}(h:vc P ev H o.type (fun r H'=>K (cO F o.dst r) H') o.op){Q:Exit->Act->World->Prop}{next:Act->World->Prop}
  (h1:aJ w H) (h2:bs w F tm) (hr:∀x,ax w (ev x) ((Act.mk tm []).eval x))
  (hn:∀Vk (w':NW) F' H',K F' H'->aJ w' H'->bs w' F' Vk->Ext w H w' H'->next ⟨Vk,[]⟩ w'.toWorld):o.wp P ⟨tm,[]⟩ w.toWorld next Q:=by
 have quiet:((vq P ev H o.op).1/\K (cO F o.dst (vq P ev H o.op).2) H)->o.wp P ⟨tm,[]⟩ w.toWorld next Q:=fun hq=>by obtain⟨v,B',hv⟩:=yF o h1 hr hq.1;simp only[Oper.wp,B',Oper.upon];rw[Act.put_eq];exact hn _ w _ H hq.2 h1 (h2.put o.dst hv []) (Ext.refl w H)
 have val:∀{w':NW} {H':Hp} {r:AV} {v:Value},(execOp (Act.mk tm []).eval o).run P w.toWorld=.ok (.value v) w'.toWorld->K (cO F o.dst r) H'->aJ w' H'->ax w' r v->Ext w H w' H'->o.wp P ⟨tm,[]⟩ w.toWorld next Q:=fun{w' H' r v} B' hk g1 g2 g3=>by simp only[Oper.wp,B',Oper.upon];rw[Act.put_eq];exact hn _ w' _ H' hk g1 ((h2.ext g3).put o.dst g2 []) g3
 have skip:∀{w':NW} {H':Hp},(execOp (Act.mk tm []).eval o).run P w.toWorld=.ok .skip w'.toWorld->K (cO F o.dst .any) H'->aJ w' H'->Ext w H w' H'->o.wp P ⟨tm,[]⟩ w.toWorld next Q:=fun{w' H'} B' hk g1 g3=>by simp only[Oper.wp,B',Oper.upon];rw[Act.put_eq];exact hn _ w' _ H' hk g1 ((h2.ext g3).put o.dst (.any _) []) g3
 have other:jM P o.op o.type ev H (fun r H'=>K (cO F o.dst r) H')->o.wp P ⟨tm,[]⟩ w.toWorld next Q:=fun ho=>by
  obtain⟨w',H',r,hk,g1,g2,g3⟩:=ho w (Act.mk tm []).eval o.dst o.pos o.after o.guard h1 (fun x _=>hr x);rcases g3 with⟨v,B',hv⟩|⟨B',rfl⟩
  ·exact val B' hk g1 hv g2
  ·exact skip B' hk g1 g2
 obtain⟨dst,op,ty,pos,after,guard⟩:=o;have vrun:∀{s:Sem Value} {v:Value} {W:World},s.run P w.toWorld=.ok v W->(do pure (Next.value (<-s)):Sem Next).run P w.toWorld=.ok (.value v) W:=fun hs=>by simp[hs]
 cases op
 case box t x=> obtain⟨ho,i,hi,hk⟩:=h;obtain⟨u,w',B',g0,g1,g2⟩:=Nc (P:=P) (t:=t) h1 hi (hr x) ho;exact val (vrun B') hk g1 g0 g2
 case alloc t=>
  simp only[vc,ob]at h;split at h
  ·rename_i zs hz;obtain⟨i,hi,hk⟩:=h;obtain⟨u,w',B',g0,g1,g2⟩:=NS (P:=P) (t:=t) h1 hi hz;exact val (vrun B') hk g1 g0 g2
  ·exact h.elim
 case store t a x=>
  simp only[vc,u6]at h;split at h
  ·rename_i i m k j n ha hk;split at h
   ·rename_i r hb;obtain⟨⟨s1,s2,s3⟩,UY⟩:=h;have hva:=hr a;rw[ha]at hva;obtain⟨w',B',g1,g2⟩:=Ta (P:=P) h1 hva hb (hr x) s1 hk s2 s3;refine skip ?_ UY g1 g2;simp only[execOp,Sem.run_bind,B',Result.andThen_ok,Sem.run_pure]
   ·exact h.elim
  ·exact h.elim
 case buildSlice t n parts=>
  have h':oE P H t n (parts.toList.map fun p=>(p.1,ev p.2)) (fun r H'=>K (cO F dst r) H'):=h;obtain⟨w',H',r,v,B',hk,g1,g2,g3⟩:=Qx (P:=P) (parts:=parts.toList.map fun p=>(p.1,ev p.2)) (vparts:=parts.map fun p=>(p.1,(Act.mk tm []).eval p.2)) h1 jE (fun i a v ha hv=>by simp only[List.getElem?_map,Option.map_eq_some_iff,Array.toList_map,Array.getElem?_toList]at ha hv;obtain⟨x,hx,rfl⟩:=ha;obtain⟨y,hy,rfl⟩:=hv;rw[hx]at hy;cases hy;exact hr x.2) h'
  exact val (vrun B') hk g1 g2 g3
 case binOp op t x y t'=>
  cases op
  case eql=> obtain⟨r,v,B',hk,hv⟩:=DS (P:=P) (K:=fun r H'=>K (cO F dst r) H') false t x y (hr x) (hr y) h;exact val (vrun B') hk h1 hv (Ext.refl w H)
  case neq=> obtain⟨r,v,B',hk,hv⟩:=DS (P:=P) (K:=fun r H'=>K (cO F dst r) H') true t x y (hr x) (hr y) h;exact val (vrun B') hk h1 hv (Ext.refl w H)
  all_goals exact quiet h
 case call c=>
  obtain⟨callee,args,argTypes⟩:=c;cases callee
  case value f=>
   refine xk rfl rfl h h1 hr fun v r w' H' hk g1 g2 g3=>?_
   rw[Act.put_eq];exact hn _ w' _ H' hk g1 ((h2.ext g3).put dst g2 []) g3
  case invoke r m=>
   refine Bn rfl rfl h h1 hr fun v r w' H' hk g1 g2 g3=>?_
   rw[Act.put_eq];exact hn _ w' _ H' hk g1 ((h2.ext g3).put dst g2 []) g3
  case builtin b=>
   have VT:args.map (Act.mk tm []).eval=(args.toList.map (Act.mk tm []).eval).toArray:=by rw[<-Array.toList_map,Array.toArray_toList]
   have bvc:pG P b argTypes.toList (args.toList.map ev) H (fun r H'=>K (cO F dst r) H')->Oper.wp P ⟨dst,.call ⟨.builtin b,args,argTypes⟩,ty,pos,after,guard⟩ ⟨tm,[]⟩ w next Q:=fun hb=>by obtain⟨w',H',r,v,B',hk,g1,g2,g3⟩:=hb w _ ty (args.map fun|.const _=>true|_=>false) h1 (wc hr args.toList);refine val (w':=w') (v:=v) ?_ hk g1 g2 g3;simp only[execOp,resolve,pure_bind,invoke,VT];exact B'
   cases b
   case append=>
    simp only[vc]at h;split at h
    ·rename_i t t' a x ht ha;obtain⟨w',H',r,v,B',hk,g1,g2,g3⟩:=h w _ _ ty h1 (hr a) (hr x);refine val (w':=w') (v:=v) ?_ hk g1 g2 g3;have e1:argTypes=#[t,t']:=by rw[<-Array.toArray_toList (xs:=argTypes),ht]
     have e2:args=#[a,x]:=by rw[<-Array.toArray_toList (xs:=args),ha]
     subst e1 e2;simp only[execOp,resolve,pure_bind,invoke,builtin,Sem.run_bind];have:(#[a,x].map (Act.mk tm []).eval)=#[(Act.mk tm []).eval a,(Act.mk tm []).eval x]:=jE;rw[this,B'];rfl
    ·exact h.elim
   case len=>exact quiet h
   case cap=>exact quiet h
   case max=>exact quiet h
   case min=>exact quiet h
   all_goals exact bvc h
 case move=>exact quiet h
 case assign=>exact quiet h
 case pick=>exact quiet h
 case nilCheck=>exact quiet h
 case unOp=>exact quiet h
 case load=>exact quiet h
 case fieldAddr=>exact quiet h
 case field=>exact quiet h
 case indexAddr=>exact quiet h
 case index=>exact quiet h
 case extract=>exact quiet h
 case slice=>exact quiet h
 case makeFunc=>exact quiet h
 case makeInterface=>exact quiet h
 case convert=>exact quiet h
 case build=>exact quiet h
 all_goals first|exact other h|exact(quiet h)
def qv{o:Oper}(hg:o.guard=none)(h:vc P (cr F) H o.type (fun r H'=>K (cO F o.dst r) H') o.op):mR P ops o F H K:=fun w tm Q next h1 h2 hn=>by unfold tH;rw[if_pos (by simp[Region.wanted,hg])];exact .inl (C2 h h1 h2 (fun x=>h2.eval [] x) hn)
def O7{j:Nat}{want b:Bool}(h:lZ ops F j want=some b)(h2:bs w F tm):(yielded ops tm j == some want)=b:=by
 unfold lZ at h;split at h
 ·rename_i d hd;split at h<;>try cases h
  ·rename_i b' hF;have O':d<tm.size:=by rw[<-h2.1];exact(List.getElem?_eq_some_iff.1 hF).1
   have:=db (h2.2 d _ _ hF (Array.getElem?_eq_getElem O'));unfold yielded;rw[hd,Option.bind_some,Array.getElem?_eq_getElem O',this];cases b'<;>cases want<;>rfl
  ·rename_i g b' hF;have O':d<tm.size:=by rw[<-h2.1];exact(List.getElem?_eq_some_iff.1 hF).1
   have hr:=h2.2 d _ _ hF (Array.getElem?_eq_getElem O');unfold yielded;rw[hd,Option.bind_some,Array.getElem?_eq_getElem O'];cases hr with
   |gd _ _ _ hh hu=>cases g with
    |true=> have:=db (hh rfl);rw[this];cases b'<;>cases want<;>rfl
    |false=>rw[hu rfl];rfl
 ·cases h
def Cj(h2:bs w F tm)(x:Operand)(ok:(jK (cr F x)).1=true):ax w (bO F x) ((Act.mk tm []).eval x):=wK (h2.eval [] x) ok
def kF(F:UE)(x:Operand):AV:=if(jK (cr F x)).1=true then bO F x else .any
def BC{f g:UK}{o:Option Operand}(h:∀x∈o.toList,f x=g x):o.map f=o.map g:=by
 cases o with
 |none=>rfl
 |some x=>simp[h x jE]
def tQ{ev ev':UK}(o:Op)(h:∀x∈o.operands.toList,ev x=ev' x):vq P ev H o=vq P ev' H o:=by
 cases o
 case call c=>
  obtain⟨callee,args,ts⟩:=c;cases callee
  case builtin b=> simp only[vq];rw[List.map_congr_left (fun x hx=>h x (by simpa[Op.operands,Call.operands]using hx))]
  all_goals rfl
 case slice t a lo hi mx=> simp only[Op.operands]at h;simp only[vq];rw[h a jE,BC (o:=lo) (fun x hx=>h x (by simp at hx ⊢;simp[hx])),BC (o:=hi) (fun x hx=>h x (by simp at hx ⊢;simp[hx])),BC (o:=mx) (fun x hx=>h x (by simp at hx ⊢;simp[hx]))]
 case makeFunc fn a b=> simp only[Op.operands]at h;simp only[vq];rw[List.map_congr_left (l:=a.toList) (fun x hx=>h x (by simp at hx ⊢;simp[hx])),List.map_congr_left (l:=b.toList) (fun x hx=>h x (by simp at hx ⊢;simp[hx]))]
 case build t ps=> simp only[Op.operands]at h;simp only[vq];rw[List.map_congr_left (g:=fun p=>(p.1,ev' p.2)) (fun x hx=>by rw[h x.2 (by simp at hx ⊢;exact⟨_,hx⟩)])]
 all_goals first
  |rfl
  |(simp only[Op.operands]at h;simp only[vq];(repeat rw[h _ jE]))
def sL(h2:bs w F tm)(x:Operand):ax w (kF F x) ((Act.mk tm []).eval x):=by
 unfold kF;split
 ·rename_i h;exact Cj h2 x h
 ·exact .any _
def qx{o:Op}(h:gp F o=true):∀x∈o.operands.toList,kF F x=bO F x:=fun x hx=>by unfold kF;rw[if_pos];simp only[gp,List.all_eq_true]at h;exact h x hx
def pn{o:Oper}{j:Nat}{want b:Bool}(hg:o.guard=some (j,want))(hb:lZ ops F j want=some b)
  (ht:b=true->∀w tm (Q:Exit->Act->World->Prop) (next:Act->World->Prop),aJ w H->bs w F tm->(∀Vk w' F' H',K F' H'->aJ w' H'->bs w' F' Vk->Ext w H w' H'->next ⟨Vk,[]⟩ w')->o.wp P ⟨tm,[]⟩ w.toWorld next Q)
  (hf:b=false->∃r,(∀w:NW,ax w r undef)/\K (cO F o.dst r) H):mR P ops o F H K:=fun w tm Q next h1 h2 hn=>by
 have hy:=O7 hb h2;unfold tH;have hw:Region.wanted o (yielded ops (Act.mk tm []).tmps)=b:=by unfold Region.wanted;rw[hg];exact hy
 cases b with
 |true=> rw[if_pos hw];exact .inl (ht rfl w tm Q next h1 h2 hn)
 |false=> rw[if_neg (by rw[hw];exact Bool.false_ne_true)];obtain⟨r,hr,hk⟩:=hf rfl;rw[Act.put_eq];exact hn _ w _ H hk h1 (h2.put o.dst (hr w) []) (Ext.refl w H)
def qi{r:AV}{g:Bool}(hg:g=false)(w:NW):ax w (.gd g r) undef:=.gd _ _ _ (fun h=>by rw[hg]at h;cases h) (fun _=>rfl)
def sC{r:AV}{v:Value}{g:Bool}(hg:g=true)(h:ax w r v):ax w (.gd g r) v:=.gd _ _ _ (fun _=>h) (fun h=>by rw[hg]at h;cases h)
theorem yb{K:UA}:∀(l:List Oper) (F:UE) (H:Hp),ld P ops K l F H->vg P ops K l F H
 |[],F,H,h=>D4 h
 |o::rest,F,H,h=>by
  refine IL ?_;simp only[ld]at h;split at h
  ·rename_i hg;exact(qv (K:=fun F' H'=>ld P ops K rest F' H') hg h).mono fun F' H' hk=>yb rest F' H' hk
  ·rename_i j want hg;split at h
   ·rename_i b hb;split at h
    ·refine mR.mono (K:=fun F' H'=>ld P ops K rest F' H') ?_ fun F' H' hk=>yb rest F' H' hk
     obtain⟨dst,op,ty,pos,after,guard⟩:=o;unfold fa at h;split at h
     ·rename_i f args argTypes Xu;cases Xu;obtain⟨r,hc,hk⟩:=h;refine pn hg hb (fun Vg w tm Q next h1 h2 hn=>?_) (fun Vg=>⟨_,qi Vg,hk⟩);obtain⟨ok,Vc⟩:=hc Vg;have Xe:=qx ok;have e1:kF F f=bO F f:=Xe f (by simp[Op.operands,Call.operands]);have e2:args.toList.map (kF F)=args.toList.map (bO F):=List.map_congr_left fun x hx=>Xe x (by simp[Op.operands,Call.operands]at hx ⊢;exact .inr hx)
      refine xk (ev:=kF F) e1 e2 Vc h1 (sL h2) fun v r' w' H' hR g1 g2 g3=>?_
      obtain⟨rfl,rfl⟩:=hR;rw[Act.put_eq];exact hn _ w' _ H' hk g1 ((h2.ext g3).put dst (sC Vg g2) []) g3
     ·rename_i f m args argTypes Xu;cases Xu;obtain⟨r,hc,hk⟩:=h;refine pn hg hb (fun Vg w tm Q next h1 h2 hn=>?_) (fun Vg=>⟨_,qi Vg,hk⟩);obtain⟨ok,Vc⟩:=hc Vg;have Xe:=qx ok;have e1:kF F f=bO F f:=Xe f (by simp[Op.operands,Call.operands]);have e2:args.toList.map (kF F)=args.toList.map (bO F):=List.map_congr_left fun x hx=>Xe x (by simp[Op.operands,Call.operands]at hx ⊢;exact .inr hx)
      refine Bn (ev:=kF F) e1 e2 Vc h1 (sL h2) fun v r' w' H' hR g1 g2 g3=>?_
      obtain⟨rfl,rfl⟩:=hR;rw[Act.put_eq];exact hn _ w' _ H' hk g1 ((h2.ext g3).put dst (sC Vg g2) []) g3
     ·rename_i c x y Xu;simp only at Xu;subst Xu;obtain⟨hs,hk⟩:=h;refine pn hg hb (fun Vg w tm Q next h1 h2 hn=>?_) (fun Vg=>⟨_,qi Vg,hk⟩);obtain⟨ok,hq⟩:=hs Vg;obtain⟨v,B',hv⟩:=DB (P:=P) (ρ:=(Act.mk tm []).eval) (dst:=dst) (ty:=ty) (pos:=pos) (after:=after) (guard:=guard) (Cj h2 c ok) (h2.eval [] x) (h2.eval [] y) hq;simp only[Oper.wp,B',Oper.upon];rw[Act.put_eq];exact hn _ w _ H hk h1 (h2.put dst (sC Vg hv) []) (Ext.refl w H)
     ·split at h
      ·obtain⟨hs,hk⟩:=h;refine pn hg hb (fun Vg w tm Q next h1 h2 hn=>?_) (fun Vg=>⟨_,qi Vg,hk⟩);obtain⟨ok,hq⟩:=hs Vg;rw[<-tQ _ (qx ok)]at hq;obtain⟨v,B',hv⟩:=yF (ρ:=(Act.mk tm []).eval) ⟨dst,op,ty,pos,after,guard⟩ h1 (sL h2) hq;simp only[Oper.wp,B',Oper.upon];rw[Act.put_eq];rw[tQ _ (qx ok)]at hv;exact hn _ w _ H hk h1 (h2.put dst (sC Vg hv) []) (Ext.refl w H)
      ·exact h.elim
    ·refine mR.mono (K:=fun F' H'=>ld P ops K rest F' H') ?_ fun F' H' hk=>yb rest F' H' hk
     refine pn hg hb (fun Vg w tm Q next h1 h2 hn=>?_) (fun Vg=>⟨_,fun w=>.any _,h.2 Vg⟩);exact C2 (h.1 Vg) h1 h2 (fun x=>h2.eval [] x) hn
   ·exact h.elim
def OL{id:Nat}{l:List Oper}{Q:Exit->UA}(h:ld P l.toArray (Q .normal) l F H):dI P (.region id l.toArray false) Q F H:=
 HP (by simpa using yb l F H h)
-- the results of a body
def jU(P:UP)(H:Hp)(F:UE):List ResultVar->Option UE
 |[]=>some []
 |.tmp t::rest=>(jU P H F rest).map (F.getD t .any::·)
 |.cell a t::rest=>match px H (F.getD a .any),dH P t,dc P t with
  |some (_,cs),some ag,some k=>(jU P H F rest).map (uh ag k cs::·)
  |_,_,_=>none
def kG(P:UP)(H:Hp)(F:UE):List ResultVar->Prop
 |[]=>True
 |.tmp _::rest=>kG P H F rest
 |.cell a t::rest=>match px H (F.getD a .any),dc P t with
  |some (c,cs),some k=>(c/\k<=cs.length/\1<=cs.length)/\kG P H F rest
  |_,_=>False
def kz:UE->AV
 |[r]=>r
 |rs=>.aQ rs
def vY(tm:UL):ResultVar->Sem Value
 |.tmp t=>pure (tm.getD t undef)
 |.cell a t=>do loadVar t (<-asAddr (tm.getD a undef))
def Qa(fn:Func)(tm:UL):results fn tm=(do let vs <-fn.results.mapM (vY tm);pure (if h:vs.size=1 then vs[0]else .tuple vs)):=rfl
theorem CF{w:NW}{tm:UL}(hw:aJ w H)(h2:bs w F tm):∀(rs:List ResultVar) (out:UE),kG P H F rs->jU P H F rs=some out->
  ∃vs:UM,cf w out vs/\(rs.mapM (vY tm)).run P w.toWorld=.ok vs w.toWorld
 |[],out,_,h=>by simp[jU]at h;subst h;exact⟨[],⟨rfl,fun i a v ha=>by simp at ha⟩,jE⟩
 |.tmp t::rest,out,hok,h=>by
  simp only[jU,Option.map_eq_some_iff]at h;obtain⟨l,hl,rfl⟩:=h;obtain⟨vs,U2,B'⟩:=CF hw h2 rest l hok hl;refine⟨tm.getD t undef::vs,⟨by simp[U2.1],fun i a v ha hv=>?_⟩,?_⟩
  ·cases i with
   |zero=> simp only[List.getElem?_cons_zero,Option.some.injEq]at ha hv;subst ha hv;exact h2.eval [] (.tmp t)
   |succ i=>exact U2.2 i a v (by simpa using ha) (by simpa using hv)
  ·rw[List.mapM_cons];simp only[vY,Sem.run_bind,Sem.run_pure,Result.andThen_ok];rw[B'];rfl
 |.cell ad t::rest,out,hok,h=>by
  simp only[jU]at h;simp only[kG]at hok;split at h
  ·rename_i c cs ag k e1 e2 e3;rw[e1,e3]at hok;obtain⟨⟨hc,U8,Uy⟩,hok⟩:=hok;simp only[Option.map_eq_some_iff]at h;obtain⟨l,hl,rfl⟩:=h;obtain⟨vs,U2,B'⟩:=CF hw h2 rest l hok hl;obtain⟨addr,us,hv,D',hr⟩:=Fp (h2.eval [] (.tmp ad)) hw e1 hc;obtain⟨v,ham,hvr⟩:=Gy (P:=P) e2 e3 U8 Uy D' hr;have U3:tm.getD ad undef=.pointer (some addr):=hv;refine⟨v::vs,⟨by simp[U2.1],fun i a u ha hu=>?_⟩,?_⟩
   ·cases i with
    |zero=> simp only[List.getElem?_cons_zero,Option.some.injEq]at ha hu;subst ha hu;exact hvr
    |succ i=>exact U2.2 i a u (by simpa using ha) (by simpa using hu)
   ·rw[List.mapM_cons];have ha:(asAddr (tm.getD ad undef)).run P w.toWorld=.ok addr w.toWorld:=by rw[U3];rfl
    have hf:(vY tm (.cell ad t)).run P w.toWorld=.ok v w.toWorld:=by simp only[vY,Sem.run_bind,ha,ham,Result.andThen_ok]
    simp only[Sem.run_bind,hf,B',Sem.run_pure,Result.andThen_ok]
  ·cases h
def MB{fn:Func}{out:UE}(hw:aJ w H)(h2:bs w F tm)(hok:kG P H F fn.results.toList)(h:jU P H F fn.results.toList=some out):∃v,(results fn tm).run P w.toWorld=.ok v w.toWorld/\ax w (kz out) v:=by
 obtain⟨vs,U2,B'⟩:=CF (P:=P) hw h2 _ out hok h;have hm:(fn.results.mapM (vY tm)).run P w.toWorld=.ok vs.toArray w.toWorld:=by rw[Array.mapM_eq_mapM_toList];simp only[Sem.run_map,B',Result.andThen_ok]
 have hr:(results fn tm).run P w.toWorld=.ok (if h:vs.toArray.size=1 then vs.toArray[0]else .tuple vs.toArray) w.toWorld:=by rw[Qa];simp only[Sem.run_bind,hm,Result.andThen_ok,Sem.run_pure]
 refine⟨_,hr,?_⟩;match vs,out,U2 with
 |[],[],U2=>exact .aQ _ _ rfl fun i a v ha=>by simp at ha
 |[v],[a],U2=>exact U2.2 0 _ _ rfl rfl
 |v::v'::vs,a::a'::out,U2=>exact .aQ _ _ (by have:=U2.1;simpa using this) fun i x y hx hy=>U2.2 i x y hx (by simpa using hy)
 |[],_::_,U2=>have:=U2.1;simp at this
 |_::_,[],U2=>have:=U2.1;simp at this
 |[_],_::_::_,U2=>have:=U2.1;simp at this
 |_::_::_,[_],U2=>have:=U2.1;simp at this
def lD(P:UP)(fn:Func)(R:AV->List UR->Prop):Exit->UA
 |.normal,F,H|.ret,F,H=>∃out r H',jU P H F fn.results.toList=some out/\kG P H F fn.results.toList/\iD (kz out) H r H'/\R r H'.l
 |_,_,_=>False
def IN{f:FuncId}{fn:Func}{c:Code}{args:UE}{l:UD}{R:AV->List UR->Prop}(hf:P.funcs[f]?=some fn)(hb:fn.body=some c)(h:dI P c (lD P fn R) (args++List.replicate (fn.ntmps-args.length) .any) (entry l)) :
  ab P f args l R:=fun w vs h1 h2=>by
 have I':args.length=vs.size:=h2.1;refine calls_of_wp hf hb (wp_mono (h w _ h1 ?_) ?_)
 ·refine⟨by simp[I'],fun i a v ha hv=>?_⟩;rcases Nat.lt_or_ge i args.length with hi|hi
  ·rw[List.getElem?_append_left hi]at ha;rw[Array.getElem?_append_left jB]at hv;exact h2.2 i a v ha hv
  ·rw[List.getElem?_append_right hi]at ha;rw[List.getElem?_replicate]at ha;split at ha<;>cases ha;exact .any _
 ·rintro e a W ⟨tm,F',H',w',rfl,rfl,hq,g1,g2,g3⟩;have fin:(∃out r Vx,jU P H' F' fn.results.toList=some out/\kG P H' F' fn.results.toList/\iD (kz out) H' r Vx/\R r Vx.l)->
    ∃v,(results fn tm).run P w'.toWorld=.ok v w'.toWorld/\∃v' r Vx w'',w'.toWorld=NW.toWorld w''/\Ending.returned v=.returned v'/\R r (Hp.l Vx)/\aJ w'' Vx/\ax w'' r v'/\fU w (entry l) w'' Vx:=by
   rintro⟨out,r,Vx,e1,e0,e2,e3⟩;obtain⟨v,B',hv⟩:=MB g1 g2 e0 e1;obtain⟨w'',k0,k1,k2,k3⟩:=e2 w' v g1 hv;exact⟨v,B',v,r,Vx,w'',k0.symm,rfl,e3,k1,k2,g3.trans k3⟩
  cases e with
  |normal=>exact⟨rfl,fin hq⟩
  |ret=>exact⟨rfl,fin hq⟩
  |exit id=>exact hq.elim
  |goto l=>exact hq.elim
  |panic ch=>exact hq.elim
  |outgrown=>exact hq.elim
end
-- encoders of Lean data
class bH{α:Type}(enc:α->List AV)(sz:outParam Nat):Prop where
 len:∀x,(enc x).length=sz
 cM:∀x,cM (enc x)=true
 free:∀x,aY eu (enc x)=true
def QL(q:UO)(css:UC):Prop:=∀cs∈css,aY q cs=true
def xS(q:UO):Row->Prop
 |.var _ cs=>aY q cs=true
 |.aG _ _ css=>QL q css
 |.mp _ vs=>aY q vs=true
theorem vQ{q:UO}:∀(a b:UE),aY q (a++b)=(aY q a && aY q b)
 |[],b=>by simp[aY]
 |x::a,b=>by simp[aY,vQ a b,Bool.and_assoc]
theorem IB{q:UO}:∀{css:UC},QL q css->aY q css.flatten=true
 |[],_=>rfl
 |cs::css,h=>by rw[List.flatten_cons,vQ,h cs jE,IB (css:=css) fun c hc=>h c (by simp[hc])];rfl
variable{q:UO}
def HW{r:Row}(h:xS q r):aY q r.cells=true:=by
 cases r with
 |var t cs=>exact h
 |aG e sz css=>exact IB h
 |mp ks vs=>exact h
def Re(q:UO):QL q []:=fun _ h=>by simp at h
def PT{a b:UC}(h:QL q a)(k:QL q b):QL q (a++b):=fun c hc=>(List.mem_append.1 hc).elim (h c) (k c)
variable{α:Type}
def nG{enc:α->UE}[e:bH enc sz](l:List α):QL q (l.map enc):=fun c hc=>by obtain⟨x,_,rfl⟩:=List.mem_map.1 hc;exact fV (fun _ h=>by cases h) _ (e.free x)
def P6(sz:Nat):Good sz []:=fun _ h=>by simp at h
def Qn{enc:α->UE}[e:bH enc sz](l:List α):Good sz (l.map enc):=fun c hc=>by obtain⟨x,_,rfl⟩:=List.mem_map.1 hc;exact⟨e.len x,e.cM x⟩
-- calls
def rY:List UR->Hp->Prop
 |[],_=>True
 |(i,r)::l,H=>H.get i=some r/\rY l H
theorem Br:∀{l:UD} {H:Hp},rY l H->∀i r,aA l i=some r->H.get i=some r
 |[],_,_,i,r,h=>by cases h
 |(j,s)::l,H,hf,i,r,h=>by
  simp only[aA]at h;split at h
  ·rename_i e;subst e;cases h;exact hf.1
  ·exact Br hf.2 i r h
def rQ(q:UO):List UR->Prop
 |[]=>True
 |(_,r)::l=>xS q r/\rQ q l
theorem HY{q:UO}:∀{l:UD},rQ q l->∀i r,aA l i=some r->aY q r.cells=true
 |[],_,i,r,h=>by cases h
 |(j,s)::l,hf,i,r,h=>by
  simp only[aA]at h;split at h
  ·cases h;exact HW hf.1
  ·exact HY hf.2 i r h
def oo(L:UH)(H:Hp):List UR->Prop
 |[]=>True
 |(i,_)::l=>(L.contains i=true\/H.get i=none)/\oo L H l
theorem yH{L:UH}{H:Hp}:∀{l:UD},oo L H l->∀i r,aA l i=some r->L.contains i=true\/H.get i=none
 |[],_,i,r,h=>by cases h
 |(j,s)::l,hf,i,r,h=>by
  simp only[aA]at h;split at h
  ·rename_i e;subst e;exact hf.1
  ·exact yH hf.2 i r h
section
variable {P:UP}{f:FuncId}{args:UE}{H:Hp}{l:UD}{K:UB}
def OD{R:AV->List UR->Prop}(hc:ab P f args l R)(h1:rY l H)(h2:aY (fun i=>(ids l).contains i) args=true)(h3:rQ (fun i=>(ids l).contains i) l)
  (hk:∀r l',R r l'->oo (ids l) H l'/\(ids l').Nodup/\K r ⟨H.B,gF H.l l'⟩):dm P f args H K:=fun _ _ hw hv=>
 y0 hc (Br h1) h2 (HY h3) (fun r l' hR=>⟨yH (hk r l' hR).1,(hk r l' hR).2⟩) hw hv
def vz{r0:AV}{l0:UD}(hc:ab P f args l fun r l'=>r=r0/\l'=l0)(h1:rY l H)(h2:aY (fun i=>(ids l).contains i) args=true)(h3:rQ (fun i=>(ids l).contains i) l)
  (h4:oo (ids l) H l0) (h5:(ids l0).Nodup) (hk:K r0 ⟨H.B,gF H.l l0⟩):dm P f args H K:=
 OD hc h1 h2 h3 fun r l' ⟨e1,e2⟩=>by rw[e1,e2];exact⟨h4,h5,hk⟩
def y5{r:AV}(hc:aC P f args r)(h2:aY eu args=true)(hk:K r H):dm P f args H K:=
 vz hc trivial (by simpa[ids]using h2) trivial trivial (by simp[ids]) hk
def nZ{args:UE}(hc:aS P f=true)(h:dm P f args H K):fg P (.raw (.func (.func f) #[] #[])) args H K:=.inl ⟨hc,by simpa using h⟩
def Pt{cs:UE}{args:UE}(hc:aS P f=true)(h:dm P f (args++cs) H K):fg P (.dW f cs) args H K:=.inl ⟨hc,by simpa using h⟩
def T5{args:UE}(h:ua P f args H K):fg P (.raw (.func (.func f) #[] #[])) args H K:=.inr (by simpa using h)
end
-- things of which D holds are let go of, and may be read from then on
def fy(D:UO):List UR->UD
 |[]=>[]
 |(j,s)::l=>bif D j then fy D l else(j,s)::fy D l
theorem Dp(D:UO):∀(l:UD) (i:Nat),aA (fy D l) i=if D i=true then none else aA l i
 |[],i=>by simp[fy,aA]
 |(k,s)::l,i=>by
  have ih:=Dp D l i;unfold fy;cases hk:D k
  ·simp only[cond_false,aA];split
   ·rename_i h;subst h;rw[hk];simp
   ·exact ih
  ·simp only[cond_true,aA];rw[ih];split
   ·rfl
   ·rename_i h;rw[if_neg];rintro rfl;exact h hk
def NW.cS(w:NW)(D:UO):NW:={ w with O:=fun b=>w.O b/\∀i m t s,D i=true->w.nm i m≠some (.at b t s),nm:=fun j n=>if D j=true then none else w.nm j n }
def gZ(D:UO):UO:=fun i=>!(D i)
def iL(D:UO):List UR->Prop
 |[]=>True
 |(j,r)::l=>(D j=true\/xS (gZ D) r)/\iL D l
theorem Ao{D:UO}:∀{l:UD},iL D l->∀{i:Nat} {r:Row},aA l i=some r->D i=false->aY (gZ D) r.cells=true
 |[],_,i,r,h,_=>by cases h
 |(j,s)::l,hf,i,r,h,hd=>by
  simp only[aA]at h;split at h
  ·rename_i e;subst e;cases h;rcases hf.1 with h|h
   ·rw[hd]at h;cases h
   ·exact HW h
  ·exact Ao hf.2 h hd
def pr(w:NW)(D:UO):Keep (gZ D) w (w.cS D):=⟨Nat.le_refl _,fun b _ h=>⟨rfl,fun h'=>h h'.1⟩,fun j n z hq h=>by show(if D j=true then none else w.nm j n)=_;rw[if_neg (by unfold gZ at hq;intro e;rw[e]at hq;cases hq)];exact h⟩
variable{D:UO}
def J9{w:NW}(r:aJ w H)(hB:H.B.all (gZ D)=true)(hl:iL D H.l):aJ (w.cS D) ⟨H.B,fy D H.l⟩/\fU w H (w.cS D) ⟨H.B,fy D H.l⟩:=by
 have Vn:∀j n,(w.cS D).nm j n=if D j=true then none else w.nm j n:=fun _ _=>rfl
 have gE:∀j,(Hp.mk H.B (fy D H.l)).get j=if D j=true then none else H.get j:=fun j=>Dp D H.l j
 refine⟨{ rows:=fun j s hj=>?_,di:=fun j n z hz=>?_,inj:=fun j n j' n' b t s t' s' h1 h2=>?_,own:=fun j n b t s h=>?_,fin:=fun b hb=>r.fin b hb.1,cd:=r.cd.aX (pr w D) },{ pr w D with names:=fun j n z hq h=>?_,os:=rfl,tape:=rfl,output:=rfl,rest:=fun b hb hO Ur=>⟨rfl,⟨hO,fun i m t s _=>Ur _ _ _ _⟩,fun j n t s h=>?_⟩,base:=rfl }⟩
 ·rw[gE]at hj;split at hj
  ·cases hj
  ·rename_i e;obtain⟨h1,z,h2,h3⟩:=r.rows j s hj;refine⟨h1,z,by rw[Vn,if_neg e];exact h2,?_⟩;cases z with
   |nil=>exact h3
   |«at» b t st=> obtain⟨g1,cur,g2,g3,g5⟩:=h3;exact⟨g1,cur,g2,g3,fun k a v ha hv=>(g5 k a v ha hv).aX (pr w D) (lK (Ao hl hj (by simpa using e)) ha)⟩
 ·rw[Vn]at hz;split at hz
  ·cases hz
  ·rename_i e;obtain⟨r',h1,h2⟩:=r.di j n z hz;exact⟨r',by rw[gE,if_neg e];exact h1,h2⟩
 ·rw[Vn]at h1 h2;split at h1
  ·cases h1
  ·split at h2
   ·cases h2
   ·exact r.inj _ _ _ _ _ _ _ _ _ h1 h2
 ·rw[Vn]at h;split at h
  ·cases h
  ·rename_i e;exact⟨r.own _ _ _ _ _ h,fun i m t' s' hd h'=>e (by rw[r.inj _ _ _ _ _ _ _ _ _ h h'];exact hd)⟩
 ·have hq:H.B.contains j=true:=hq;have:=List.all_eq_true.1 hB j (List.contains_iff_mem.1 hq);rw[Vn,if_neg (by intro e;unfold gZ at this;rw[e]at this;cases this)];exact h
 ·rw[Vn]at h;split at h
  ·cases h
  ·exact Ur _ _ _ _ h
inductive cY(D:Nat->Bool)(H:Hp):AV->AV->Prop
 |same (a:AV) (h:a.all (gZ D)=true):cY D H a a
 |drop (a:AV):cY D H a .any
 |nil (sz:Nat) (d:List AV):cY D H (.raw (.slice none 0 0)) (.sl false sz [] d)
 |lit (x:Bool) (sz:Nat) (css:List (List AV)) (d d':List AV):cY D H (.sl x sz css d) (.sl false sz css d')
 |agg (cs ds:List AV) (hl:cs.length=ds.length) (h:∀(i:Nat) c d,cs[i]?=some c->ds[i]?=some d->cY D H c d):cY D H (.agg cs) (.agg ds)
 |aQ (cs ds:List AV) (hl:cs.length=ds.length) (h:∀(i:Nat) c d,cs[i]?=some c->ds[i]?=some d->cY D H c d):cY D H (.aQ cs) (.aQ ds)
 |yn (dd:List AV) (i sz m n:Nat) (e:TypeId) (css:List (List AV)) (dss:List (List AV)) (hD:D i=true) (hi:H.get i=some (.aG e sz css)) (hm:m=css.length) (hn:n<=m) (hd:dss.length=n) (Xt:∀ds∈dss,ds.length=sz) (Ur:QL eu dss)
   (h:∀k (j:Nat) c d,k<n->(css.getD k [])[j]?=some c->(dss.getD k [])[j]?=some d->cY D H c d):cY D H (.rs i m sz n) (.sl false sz dss dd)
 |pt (i k j:Nat) (t:TypeId) (cs ds:List AV) (hD:D i=true) (hi:H.get i=some (.var t cs)) (hl:(cs.drop j).length=ds.length) (Ur:aY eu ds=true) (h:∀(q:Nat) c d,(cs.drop j)[q]?=some c->ds[q]?=some d->cY D H c d):cY D H (.pt i 0 k j) (.ip ds)
def cY.sound{w:NW}(hw:aJ w H){a:AV}(h:cY D H a a'):∀{v:Value},ax w a v->ax (w.cS D) a' v:=by
 induction h with
 |same a h=>intro v hv;exact hv.aX (pr w D) h
 |drop a=>intro v hv;exact .any v
 |nil sz d=>intro v hv;have:=db hv;subst this;exact .gG _ _ _ _ (fun e=>by cases e)
 |lit x sz css d d'=>
  intro v hv;have U3:=hv.aX (pr w D) (by simp only[AV.all]);cases U3 with
  |gG _ _ A c _=>exact .gG _ _ _ _ (fun e=>by cases e)
  |sl _ _ _ a c vs hn hc hx Uu hb hH D' hr=>exact .sl _ _ _ a c vs hn hc (fun e=>by cases e) Uu hb hH D' hr
 |agg cs ds hl _ ih=>
  intro v hv;cases hv with
  |agg _ vs VY hr=>
   refine .agg ds vs jB fun i d v hd hv=>?_
   have hi:i<cs.length:=by rw[hl];exact(List.getElem?_eq_some_iff.1 hd).1
   have hc:cs[i]?=some cs[i]:=List.getElem?_eq_getElem hi;exact ih i _ d hc hd (hr i _ v hc hv)
 |aQ cs ds hl _ ih=>
  intro v hv;cases hv with
  |aQ _ vs VY hr=>
   refine .aQ ds vs jB fun i d v hd hv=>?_
   have hi:i<cs.length:=by rw[hl];exact(List.getElem?_eq_some_iff.1 hd).1
   have hc:cs[i]?=some cs[i]:=List.getElem?_eq_getElem hi;exact ih i _ d hc hd (hr i _ v hc hv)
 |yn dd i sz m n e css dss hD hi hm hn hd Xt Ur _ ih=>
  intro v hv;subst hm;cases hv with
  |iJ _ _ _ A US=> have:dss=[]:=List.length_eq_zero_iff.1 jB;rw[this];exact .gG _ _ _ _ (fun h=>by cases h)
  |rs _ _ _ _ b t c US hc Uq V4=>
   by_cases h0:n=0
   ·have:dss=[]:=List.length_eq_zero_iff.1 jB;rw[this,h0];exact .gG _ _ _ _ (fun h=>by cases h)
   ·have hsz0:0<sz:=V4;have:=ax.sl (w:=w.cS D) (d:=dd) false sz dss ⟨b,0,none⟩ c (fun k=>(w.cell? ⟨b,k,none⟩).getD undef) jB jB (fun h=>by cases h) Xt (hw.lt US) (fun h=>h.2 i _ t sz hD US) (fun k j hk hj=>by
     obtain⟨_,_,_,v,h1,h2⟩:=tz hw hi US (k:=k) (j:=j) jB hj;show w.cell? _=_;rw[jq,Nat.zero_add,h1];rfl) (fun k j u hk hu=>by
     have hj:j<sz:=by have:=(List.getElem?_eq_some_iff.1 hu).1;rwa [vy Xt hk]at this
     obtain⟨_,UX,_,v,h1,h2⟩:=tz hw hi US (k:=k) (j:=j) jB hj;have hlc:=vy UX (show k<css.length from jB);have hc:(css.getD k [])[j]?=some ((css.getD k [])[j]' jB):=List.getElem?_eq_getElem jB;rw[h1];have Vl:dss.getD k []∈dss:=by
      have:dss.getD k []=dss[k]:=by simp[hk]
      rw[this];exact List.getElem_mem _
     exact(ih k j _ u jB hc hu (h2 _ hc)).lb (lK (Ur _ Vl) hu))
    rw[hd]at this;exact this
 |pt i k j t cs ds hD hi hl Ur _ ih=>
  intro v hv;cases hv with
  |pt _ _ _ _ b t' s US=>
   obtain⟨hok,z,hz,UU⟩:=hw.rows i _ hi;have:z=.at b t' s:=by have hz:w.nm i 0=some z:=hz;rw[US]at hz;cases hz;rfl
   subst this;obtain⟨rfl,cur,hh,⟨hs,Uq⟩,hr⟩:=UU;have V4:(Row.var t cs).bB=0:=rfl;have Uq:cs.length<=t':=Uq;have e0:k*(Row.var t cs).bB+j=j:=by rw[V4];omega
   rw[e0];refine .ip ds ⟨b,j,none⟩ (fun q=>cur.getD (j+q) undef) (hw.lt US) (fun h=>h.2 i 0 _ _ hD US) (fun q hq=>?_) (fun q u hu=>?_)
   ·show w.cell? _=_;simp only[List.length_drop]at hl;have:j+q<cur.size:=jB;rw[jq,tp b _ cur _ (0,0) hh];simp[this]
   ·have YS:q<(cs.drop j).length:=by rw[hl];exact(List.getElem?_eq_some_iff.1 hu).1
    have hc:(cs.drop j)[q]?=some (cs.drop j)[q]:=List.getElem?_eq_getElem YS;simp only[List.length_drop]at YS;have:j+q<cur.size:=jB;refine(ih q _ u hc hu (hr (j+q) _ _ (by rw[<-List.getElem?_drop];exact hc) ?_)).lb (lK Ur hu);simp[this]
theorem cY.rs{D:UO}{H:Hp}(dd:UE)(i sz n:Nat)(e:UJ)(css:UC)(dss:UC)(hD:D i=true)(hi:H.get i=some (.aG e sz css))(hn:n=css.length)(hd:dss.length=css.length)(Xt:∀ds∈dss,ds.length=sz)(Ur:QL eu dss)
  (h:∀k (j:Nat) c d,k<css.length->(css.getD k [])[j]?=some c->(dss.getD k [])[j]?=some d->cY D H c d):cY D H (.rs i n sz n) (.sl false sz dss dd):=
 .yn dd i sz n n e css dss hD hi hn jl jB Xt Ur fun k j c d hk=>h k j c d jB
def cY.row{dd:UE}{i:Nat}{e:UJ}{enc:α->UE}[he:bH enc sz](l:List α)(hD:D i=true)(hi:H.get i=some (.aG e sz (l.map enc)))(hn:n=l.length):cY D H (.rs i n sz n) (.sl false sz (l.map enc) dd):=
 .rs dd i sz n e _ _ hD hi (by simpa using hn) rfl (fun ds Xt=>by obtain⟨x,_,rfl⟩:=List.mem_map.1 Xt;exact he.len x) (nG l) fun k j c d hk h1 h2=>by
  rw[h1]at h2;cases h2;have UY:k<l.length:=by simpa using hk
  have e1:(l.map enc).getD k []=enc l[k]:=by simp[UY]
  rw[e1]at h1;exact .same c (qe (fun _ h=>by cases h) _ (lK (he.free _) h1))
def iD.free{r r':AV}(D:UO)(hB:H.B.all (gZ D)=true)(hl:iL D H.l)(hv:cY D H r r'):iD r H r' ⟨H.B,fy D H.l⟩:=fun w v h1 h2=>by obtain⟨a,b⟩:=J9 h1 hB hl;exact⟨w.cS D,rfl,a,hv.sound h1 h2,b⟩
def bt(D:UO)(H:Hp):UE->UE->Prop
 |[],[]=>True
 |a::l,b::m=>cY D H a b/\bt D H l m
 |_,_=>False
theorem bt.get{D:UO}{H:Hp}:∀{l m:UE},bt D H l m->l.length=m.length/\∀(i:Nat) a b,l[i]?=some a->m[i]?=some b->cY D H a b
 |[],[],_=>⟨rfl,fun i a b h=>by simp at h⟩
 |x::l,y::m,h=>by
  have ih:=bt.get h.2;refine⟨by simp[ih.1],fun i a b ha hb=>?_⟩;cases i with
  |zero=>simp at ha hb;subst ha hb;exact h.1
  |succ i=>exact ih.2 i a b (by simpa using ha) (by simpa using hb)
theorem bt.agg{D:UO}{H:Hp}{cs ds:UE}(h:bt D H cs ds):cY D H (.agg cs) (.agg ds):=.agg cs ds h.get.1 h.get.2
theorem bt.aQ{D:UO}{H:Hp}{cs ds:UE}(h:bt D H cs ds):cY D H (.aQ cs) (.aQ ds):=.aQ cs ds h.get.1 h.get.2
def dV.free{F F':UE}(D:UO)(hB:H.B.all (gZ D)=true)(hl:iL D H.l)(hv:bt D H F F'):dV F H F' ⟨H.B,fy D H.l⟩:=fun w tm h1 h2=>by
 obtain⟨a,b⟩:=J9 h1 hB hl;obtain⟨VY,hg⟩:=hv.get;refine⟨w.cS D,rfl,a,⟨by rw[<-VY];exact h2.1,fun i c v hc hv=>?_⟩,b⟩;have hi:i<F.length:=by rw[VY];exact(List.getElem?_eq_some_iff.1 hc).1
 exact(hg i F[i] c (List.getElem?_eq_getElem hi) hc).sound h1 (h2.2 i _ v (List.getElem?_eq_getElem hi) hv)
-- what is lent: a function that is ZC nothing of one's own but to read
mutual
def AV.flat:AV->Bool
 |.raw _=>true
 |.any=>true
 |.agg cs=>zC cs
 |.aQ cs=>zC cs
 |.gd _ v=>v.flat
 |_=>false
def zC:UE->Bool
 |[]=>true
 |a::l=>a.flat && zC l
end
-- a slot that holds nothing yet, as a row of one's own without elements
theorem dV.nil{F:UE}{H:Hp}(i slot:Nat)(e:UJ){sz:Nat}(hi:H.get i=none)(h0:0<sz)(hs:F[slot]?=some (.raw (.slice none 0 0))\/∃x s d,F[slot]?=some (.sl true s x d)/\x=[]):dV F H (F.set slot (.rs i 0 sz 0)) (H.put i (.aG e sz [])):=fun w tm h1 h2=>by
 obtain⟨a,b⟩:=xy h1 hi e h0;refine⟨w.name i 0 .nil,rfl,a,⟨by rw[List.length_set];exact h2.1,fun k c v hc hv=>?_⟩,b.pB⟩;rw[List.getElem?_set]at hc;by_cases hk:slot=k
 ·subst hk;rw[if_pos rfl]at hc;split at hc
  ·cases hc;have U3:∃A,v=.slice A 0 0:=by
    rcases hs with hs|⟨x,s,d,hs,rfl⟩
    ·exact⟨none,by have:=h2.2 slot _ v hs hv;cases this;rfl⟩
    ·have:=h2.2 slot _ v hs hv;cases this with
     |gG _ _ A c hx=>have:=hx rfl;subst this;exact⟨A,rfl⟩
     |sl _ _ _ _ _ _ hn=>simp at hn
   obtain⟨A,rfl⟩:=U3;exact .iJ _ _ _ _ (NW.cz _ _ _ _)
  ·cases hc
 ·rw[if_neg hk]at hc;exact(h2.2 k c v hc hv).ext b
def nth{α:Type}[Inhabited α](l:List α)(i:Nat):α:=l.getD i default
variable{α:Type}{i:Nat}
def fO[Inhabited α]{l:List α}(h:i<l.length):nth l i=l[i]:=by simp[nth,h]
def tS[Inhabited α]{l:List α}(h:i<l.length):l.take (i+1)=l.take i++[nth l i]:=by rw[fO h,List.take_succ_eq_append_getElem h]
@[reducible] def aP{α:Type}[Inhabited α](enc:α->UE)(sz:Nat)(l:List α):AV:=.sl false sz (l.map enc) (enc default)
@[go_sem] def jxD:(∀(next:UA) (Q:Exit->UA) (F:UE) (H:Hp),uG next Q .normal F H=next F H)/\(∀(next:UA) (Q:Exit->UA) (F:UE) (H:Hp),uG next Q .ret F H=Q .ret F H)/\(∀(next:UA) (Q:Exit->UA) (id:Nat) (F:UE) (H:Hp),uG next Q (.exit id) F H=Q (.exit id) F H)/\(∀(id:Nat) (Q:Exit->UA) (F:UE) (H:Hp),su id Q .normal F H=Q .normal F H)/\(∀(id:Nat) (Q:Exit->UA) (F:UE) (H:Hp),su id Q .ret F H=Q .ret F H):=by and_intros<;>(intros;rfl)
@[go_sem] def jyP(id:Nat)(Q:Exit->UA)(F:UE)(H:Hp):su id Q (.exit id) F H=Q .normal F H:=by simp[su]
def AP(K:UB)(_:iw K):UB:=K
def uN(K:AV->Prop)(_:iw K):AV->Prop:=K
@[go_sem] def j5H:(∀(K:UB) (d:iw K) (r:AV) (H:Hp),AP K d r H=K r H)/\(∀(K:AV->Prop) (d:iw K) (r:AV),uN K d r=K r):=by and_intros<;>(intros;rfl)
variable{r:AV}{H:Hp}
def L9{K:UB}{d:iw K}(h:K r H):AP K d r H:=h
def qV(o:Option Bool)(A:Bool->Prop)(_:iw A):Prop:=match o with
 |some b=>A b
 |none=>False
@[go_sem] def j1f(b:Bool)(A:Bool->Prop)(d:iw A):qV (some b) A d=A b:=(rfl)
def pg(q:Bool)(A B:Prop)(_:iw A)(_:iw B):Prop:=if q=true then A else B
@[go_sem] def j6X:(∀(A B:Prop) (d:iw A) (e:iw B),pg true A B d e=A)/\(∀(A B:Prop) (d:iw A) (e:iw B),pg false A B d e=B)/\(∀{P:UP} {ops:Array Oper} {K:UA} (F:UE) (H:Hp),ld P ops K [] F H=K F H):=by and_intros<;>(intros;rfl)
variable{P:UP}{ops:Array Oper}{K:UA}
@[go_sem] def j7g(dst:Option Tmp)(op:Op)(ty:UJ)(pos:String)(after:Array Edge)(rest:List Oper)(F:UE)(H:Hp) :
  ld P ops K (⟨dst,op,ty,pos,after,none⟩::rest) F H=vc P (cr F) H ty (AP (fun r H'=>ld P ops K rest (cO F dst r) H') .mk) op:=(rfl)
@[go_sem] def j5s(dst:Option Tmp)(op:Op)(ty:UJ)(pos:String)(after:Array Edge)(j:Nat)(want:Bool)(rest:List Oper)(F:UE)(H:Hp) :
  ld P ops K (⟨dst,op,ty,pos,after,some (j,want)⟩::rest) F H=qV (lZ ops F j want) (fun b=>pg (ja op || iM op) (fa P F H b (uN (fun r=>ld P ops K rest (cO F dst r) H) .mk) op)
    ((b=true->vc P (cr F) H ty (AP (fun r H'=>ld P ops K rest (cO F dst r) H') .mk) op)/\(b=false->ld P ops K rest (cO F dst .any) H)) .mk .mk) .mk:=by
 unfold qV pg;rfl
@[go_sem] def j2n(a:Nat):((a:Int)+1).toNat=a+1:=jB
@[go_sem] def j2o(a b:Nat):((a:Int)-(b:Int)).toNat=a-b:=jB
@[go_sem] def j2p(a:Nat):((a:Int)-1).toNat=a-1:=jB
attribute [go_sem] Int.cast_ofNat_Int
def tC{n:Int}(h:-9223372036854775808<=n/\n<=9223372036854775807):IntKind.i64.wrap n=n:=by have h1:(2:Int) ^ 64=18446744073709551616:=jC;have h2:(2:Int) ^ (64-1)=9223372036854775808:=jC;simp only[IntKind.wrap,IntKind.bits,IntKind.signed,Bool.true_and,h1,h2,decide_eq_true_eq];split<;>omega
variable{fn:Func}{F:UE}
def KE{f:FuncId}{c:Code}{args:UE}(hf:P.funcs[f]?=some fn)(hb:fn.body=some c)(hF:args++List.replicate (fn.ntmps-args.length) .any=F)
  (h:dI P c (lD P fn fun r' l'=>r'=r/\l'=[]) F ⟨[],[]⟩):aC P f args r:=IN hf hb (by rw[hF];exact h)
variable{l:UD}{R:AV->List UR->Prop}
def Oc{f:FuncId}{c:Code}{args:UE}(hf:P.funcs[f]?=some fn)(hb:fn.body=some c)(hF:args++List.replicate (fn.ntmps-args.length) .any=F){L:UH}(hL:ids l=L)
  (h:dI P c (lD P fn R) F ⟨L,l⟩):ab P f args l R:=IN hf hb (by rw[hF];subst hL;exact h)
section
variable {P:UP}{ev:UK}{H:Hp}{ty:UJ}{K:UB}
@[go_sem] def j85(x:Operand):vc P ev H ty K (.move x)=K (ev x) H:=by simp[vc,du,vq]
@[go_sem] def j5m(x:Operand):vc P ev H ty K (.assign x)=K (ev x) H:=by simp[vc,du,vq]
@[go_sem] def j86(c a b:Operand):vc P ev H ty K (.pick c a b)=((nU (ev c) (ev a) (ev b)).1/\K (nU (ev c) (ev a) (ev b)).2 H):=by simp[vc,du,vq]
@[go_sem] def j1o(x:Operand):vc P ev H ty K (.nilCheck x)=((qG P (ev x)).1/\K (qG P (ev x)).2 H):=by simp[vc,du,vq]
@[go_sem] def j87(op:UnOp)(t:UJ)(x:Operand):vc P ev H ty K (.unOp op t x)=((sf op (ev x)).1/\K (sf op (ev x)).2 H):=by simp[vc,du,vq]
@[go_sem] def j84(t:UJ)(x:Operand):vc P ev H ty K (.load t x)=((o5 P H t (ev x)).1/\K (o5 P H t (ev x)).2 H):=by simp[vc,du,vq]
@[go_sem] def jyA(t:UJ)(x:Operand)(f:Nat):vc P ev H ty K (.fieldAddr t x f)=((sD P t (ev x) f).1/\K (sD P t (ev x) f).2 H):=by simp[vc,du,vq]
@[go_sem] def j7a(t:UJ)(x:Operand)(f:Nat):vc P ev H ty K (.field t x f)=((uW P t (ev x) f).1/\K (uW P t (ev x) f).2 H):=by simp[vc,du,vq]
@[go_sem] def jyB(t:UJ)(x i:Operand):vc P ev H ty K (.indexAddr t x i)=((tc P t (ev x) (ev i)).1/\K (tc P t (ev x) (ev i)).2 H):=by simp[vc,du,vq]
@[go_sem] def j7b(t:UJ)(x i:Operand):vc P ev H ty K (.index t x i)=((sX P t (ev x) (ev i)).1/\K (sX P t (ev x) (ev i)).2 H):=by simp[vc,du,vq]
@[go_sem] def j2v(x:Operand)(i:Nat):vc P ev H ty K (.extract x i)=((vO (ev x) i).1/\K (vO (ev x) i).2 H):=by simp[vc,du,vq]
@[go_sem] def j7c(t:UJ)(a:Operand)(lo hi mx:Option Operand):vc P ev H ty K (.slice t a lo hi mx)=((tu P t (ev a) (lo.map ev) (hi.map ev) (mx.map ev)).1/\K (tu P t (ev a) (lo.map ev) (hi.map ev) (mx.map ev)).2 H):=by simp[vc,du,vq]
@[go_sem] def j1n(fn:Fn)(a b:Array Operand):vc P ev H ty K (.makeFunc fn a b)=((uS fn (a.toList.map ev) (b.toList.map ev)).1/\K (uS fn (a.toList.map ev) (b.toList.map ev)).2 H):=by simp[vc,du,vq]
@[go_sem] def jyC(t:UJ)(x:Operand):vc P ev H ty K (.makeInterface t x)=((ve P t (ev x)).1/\K (ve P t (ev x)).2 H):=by simp[vc,du,vq]
@[go_sem] def j68(t:UJ)(ps:Array (Nat×Operand)):vc P ev H ty K (.build t ps)=((vh P t (ps.toList.map fun p=>(p.1,ev p.2))).1/\K (vh P t (ps.toList.map fun p=>(p.1,ev p.2))).2 H):=by simp[vc,du,vq]
@[go_sem] def qcp(as:Array Operand)(ts:Array UJ):vc P ev H ty K (.call ⟨.builtin .len,as,ts⟩)=((mD P H .len ts.toList (as.toList.map ev)).1/\K (mD P H .len ts.toList (as.toList.map ev)).2 H):=by simp[vc,du,vq]
@[go_sem] def qcl(as:Array Operand)(ts:Array UJ):vc P ev H ty K (.call ⟨.builtin .cap,as,ts⟩)=((mD P H .cap ts.toList (as.toList.map ev)).1/\K (mD P H .cap ts.toList (as.toList.map ev)).2 H):=by simp[vc,du,vq]
@[go_sem] def qcs(as:Array Operand)(ts:Array UJ):vc P ev H ty K (.call ⟨.builtin .max,as,ts⟩)=((mD P H .max ts.toList (as.toList.map ev)).1/\K (mD P H .max ts.toList (as.toList.map ev)).2 H):=by simp[vc,du,vq]
@[go_sem] def qct(as:Array Operand)(ts:Array UJ):vc P ev H ty K (.call ⟨.builtin .min,as,ts⟩)=((mD P H .min ts.toList (as.toList.map ev)).1/\K (mD P H .min ts.toList (as.toList.map ev)).2 H):=by simp[vc,du,vq]
@[go_sem] def qcj(t:UJ)(x y:Operand)(t':UJ):vc P ev H ty K (.binOp .add t x y t')=((fI P .add t (ev x) (ev y)).1/\K (fI P .add t (ev x) (ev y)).2 H):=by simp[vc,du,vq]
@[go_sem] def qcy(t:UJ)(x y:Operand)(t':UJ):vc P ev H ty K (.binOp .sub t x y t')=((fI P .sub t (ev x) (ev y)).1/\K (fI P .sub t (ev x) (ev y)).2 H):=by simp[vc,du,vq]
@[go_sem] def qcu(t:UJ)(x y:Operand)(t':UJ):vc P ev H ty K (.binOp .mul t x y t')=((fI P .mul t (ev x) (ev y)).1/\K (fI P .mul t (ev x) (ev y)).2 H):=by simp[vc,du,vq]
@[go_sem] def qcw(t:UJ)(x y:Operand)(t':UJ):vc P ev H ty K (.binOp .quo t x y t')=((fI P .quo t (ev x) (ev y)).1/\K (fI P .quo t (ev x) (ev y)).2 H):=by simp[vc,du,vq]
@[go_sem] def qcx(t:UJ)(x y:Operand)(t':UJ):vc P ev H ty K (.binOp .rem t x y t')=((fI P .rem t (ev x) (ev y)).1/\K (fI P .rem t (ev x) (ev y)).2 H):=by simp[vc,du,vq]
@[go_sem] def qcr(t:UJ)(x y:Operand)(t':UJ):vc P ev H ty K (.binOp .lss t x y t')=((fI P .lss t (ev x) (ev y)).1/\K (fI P .lss t (ev x) (ev y)).2 H):=by simp[vc,du,vq]
@[go_sem] def qcq(t:UJ)(x y:Operand)(t':UJ):vc P ev H ty K (.binOp .leq t x y t')=((fI P .leq t (ev x) (ev y)).1/\K (fI P .leq t (ev x) (ev y)).2 H):=by simp[vc,du,vq]
@[go_sem] def qco(t:UJ)(x y:Operand)(t':UJ):vc P ev H ty K (.binOp .gtr t x y t')=((fI P .gtr t (ev x) (ev y)).1/\K (fI P .gtr t (ev x) (ev y)).2 H):=by simp[vc,du,vq]
@[go_sem] def qcn(t:UJ)(x y:Operand)(t':UJ):vc P ev H ty K (.binOp .geq t x y t')=((fI P .geq t (ev x) (ev y)).1/\K (fI P .geq t (ev x) (ev y)).2 H):=by simp[vc,du,vq]
@[go_sem] def qcm:(∀(t:UJ) (x y:Operand) (t':UJ),vc P ev H ty K (.binOp .eql t x y t')=qC P false t (ev x) (ev y) H K)/\(∀(t:UJ) (x y:Operand) (t':UJ),vc P ev H ty K (.binOp .neq t x y t')=qC P true t (ev x) (ev y) H K)/\(∀(t:UJ) (x:Operand),vc P ev H ty K (.box t x)=qI H t (ev x) K)/\(∀(t:UJ),vc P ev H ty K (.alloc t)=ob P H t K)/\(∀(t:UJ) (a x:Operand),vc P ev H ty K (.store t a x)=u6 P H t (ev a) (ev x) K)/\(∀(t:UJ) (n:Nat) (ps:Array (Nat×Operand)),vc P ev H ty K (.buildSlice t n ps)=oE P H t n (ps.toList.map fun p=>(p.1,ev p.2)) K)/\(∀(f:Operand) (as:Array Operand) (ts:Array UJ),vc P ev H ty K (.call ⟨.value f,as,ts⟩)=fg P (ev f) (as.toList.map ev) H K)/\(∀(f:Operand) (m:String) (as:Array Operand) (ts:Array UJ),vc P ev H ty K (.call ⟨.invoke f m,as,ts⟩)=qo P (ev f) m (as.toList.map ev) H K):=by and_intros<;>(intros;rfl)
@[go_sem] def j1g(t:UJ)(v:AV)(m:String)(args:UE):qo P (.iK t v) m args H K=match oK P t m with|some f=>fg P (.raw (.func (.func f) #[] #[])) (v::args) H K|none=>False:=(rfl)
@[go_sem] def j5l(t:UJ)(a x:Operand):vc P ev H ty K (.call ⟨.builtin .append,#[a,x],#[t,t]⟩)=qn P t t (ev a) (ev x) H K:=by simp[vc]
@[go_sem] def j1m(t t':UJ)(a x:Operand):vc P ev H ty K (.call ⟨.builtin .append,#[a,x],#[t,t']⟩)=qn P t t' (ev a) (ev x) H K:=by simp[vc]
@[go_sem] def j83(as:Array Operand)(ts:Array UJ):vc P ev H ty K (.call ⟨.builtin .copy,as,ts⟩)=pG P .copy ts.toList (as.toList.map ev) H K:=by simp[vc,du]
@[go_sem] def j69(as:Array Operand)(ts:Array UJ):vc P ev H ty K (.call ⟨.builtin .clear,as,ts⟩)=pG P .clear ts.toList (as.toList.map ev) H K:=by simp[vc,du]
end
section
variable {P:UP}{F:UE}{H:Hp}{g:Bool}{K:AV->Prop}
@[go_sem] def j9c(c a b:Operand):fa P F H g K (.pick c a b)=((g=true->(jK (cr F c)).1=true/\(nU (bO F c) (cr F a) (cr F b)).1)/\K (.gd g (nU (bO F c) (cr F a) (cr F b)).2)):=(rfl)
@[go_sem] def j1r(x:Operand):fa P F H g K (.nilCheck x)=((g=true->gp F (.nilCheck x)=true/\(qG P (bO F x)).1)/\K (.gd g (qG P (bO F x)).2)):=by simp[fa,iM,du,vq]
@[go_sem] def j9d(op:UnOp)(t:UJ)(x:Operand):fa P F H g K (.unOp op t x)=((g=true->gp F (.unOp op t x)=true/\(sf op (bO F x)).1)/\K (.gd g (sf op (bO F x)).2)):=by simp[fa,iM,du,vq]
@[go_sem] def j9a(t:UJ)(x:Operand):fa P F H g K (.load t x)=((g=true->gp F (.load t x)=true/\(o5 P H t (bO F x)).1)/\K (.gd g (o5 P H t (bO F x)).2)):=by simp[fa,iM,du,vq]
@[go_sem] def jyD(t:UJ)(x:Operand)(f:Nat):fa P F H g K (.fieldAddr t x f)=((g=true->gp F (.fieldAddr t x f)=true/\(sD P t (bO F x) f).1)/\K (.gd g (sD P t (bO F x) f).2)):=by simp[fa,iM,du,vq]
@[go_sem] def jyE(t:UJ)(x i:Operand):fa P F H g K (.indexAddr t x i)=((g=true->gp F (.indexAddr t x i)=true/\(tc P t (bO F x) (bO F i)).1)/\K (.gd g (tc P t (bO F x) (bO F i)).2)):=by simp[fa,iM,du,vq]
@[go_sem] def j7h(t:UJ)(x i:Operand):fa P F H g K (.index t x i)=((g=true->gp F (.index t x i)=true/\(sX P t (bO F x) (bO F i)).1)/\K (.gd g (sX P t (bO F x) (bO F i)).2)):=by simp[fa,iM,du,vq]
@[go_sem] def j7i(t:UJ)(a:Operand)(lo hi mx:Option Operand):fa P F H g K (.slice t a lo hi mx)=((g=true->gp F (.slice t a lo hi mx)=true/\(tu P t (bO F a) (lo.map (bO F)) (hi.map (bO F)) (mx.map (bO F))).1)/\K (.gd g (tu P t (bO F a) (lo.map (bO F)) (hi.map (bO F)) (mx.map (bO F))).2)):=by simp[fa,iM,du,vq]
@[go_sem] def qcD(as:Array Operand)(ts:Array UJ):fa P F H g K (.call ⟨.builtin .len,as,ts⟩)=((g=true->gp F (.call ⟨.builtin .len,as,ts⟩)=true/\(mD P H .len ts.toList (as.toList.map (bO F))).1)/\K (.gd g (mD P H .len ts.toList (as.toList.map (bO F))).2)):=by simp[fa,iM,du,vq]
@[go_sem] def qcz(t:UJ)(x y:Operand)(t':UJ):fa P F H g K (.binOp .add t x y t')=((g=true->gp F (.binOp .add t x y t')=true/\(fI P .add t (bO F x) (bO F y)).1)/\K (.gd g (fI P .add t (bO F x) (bO F y)).2)):=by simp[fa,iM,du,vq]
@[go_sem] def qcF(t:UJ)(x y:Operand)(t':UJ):fa P F H g K (.binOp .lss t x y t')=((g=true->gp F (.binOp .lss t x y t')=true/\(fI P .lss t (bO F x) (bO F y)).1)/\K (.gd g (fI P .lss t (bO F x) (bO F y)).2)):=by simp[fa,iM,du,vq]
@[go_sem] def qcE(t:UJ)(x y:Operand)(t':UJ):fa P F H g K (.binOp .leq t x y t')=((g=true->gp F (.binOp .leq t x y t')=true/\(fI P .leq t (bO F x) (bO F y)).1)/\K (.gd g (fI P .leq t (bO F x) (bO F y)).2)):=by simp[fa,iM,du,vq]
@[go_sem] def qcC(t:UJ)(x y:Operand)(t':UJ):fa P F H g K (.binOp .gtr t x y t')=((g=true->gp F (.binOp .gtr t x y t')=true/\(fI P .gtr t (bO F x) (bO F y)).1)/\K (.gd g (fI P .gtr t (bO F x) (bO F y)).2)):=by simp[fa,iM,du,vq]
@[go_sem] def qcB(t:UJ)(x y:Operand)(t':UJ):fa P F H g K (.binOp .geq t x y t')=((g=true->gp F (.binOp .geq t x y t')=true/\(fI P .geq t (bO F x) (bO F y)).1)/\K (.gd g (fI P .geq t (bO F x) (bO F y)).2)):=by simp[fa,iM,du,vq]
@[go_sem] def j9b(x:Operand):fa P F H g K (.move x)=((g=true->gp F (.move x)=true)/\K (.gd g (bO F x))):=by simp[fa,iM,du,vq]
@[go_sem] def qcA(t:UJ)(x y:Operand)(t':UJ):fa P F H g K (.binOp .eql t x y t')=((g=true->gp F (.binOp .eql t x y t')=true/\(fI P .eql t (bO F x) (bO F y)).1)/\K (.gd g (fI P .eql t (bO F x) (bO F y)).2)):=by simp[fa,iM,vq]
@[go_sem] def qcG(t:UJ)(x y:Operand)(t':UJ):fa P F H g K (.binOp .neq t x y t')=((g=true->gp F (.binOp .neq t x y t')=true/\(fI P .neq t (bO F x) (bO F y)).1)/\K (.gd g (fI P .neq t (bO F x) (bO F y)).2)):=by simp[fa,iM,vq]
@[go_sem] def j5t:(∀(f:Operand) (m:String) (as:Array Operand) (ts:Array UJ),fa P F H g K (.call ⟨.invoke f m,as,ts⟩)=∃r,(g=true->gp F (.call ⟨.invoke f m,as,ts⟩)=true/\qo P (bO F f) m (as.toList.map (bO F)) H fun r' H'=>r'=r/\H'=H)/\K (.gd g r))/\(∀(f:Operand) (as:Array Operand) (ts:Array UJ),fa P F H g K (.call ⟨.value f,as,ts⟩)=∃r,(g=true->gp F (.call ⟨.value f,as,ts⟩)=true/\fg P (bO F f) (as.toList.map (bO F)) H fun r' H'=>r'=r/\H'=H)/\K (.gd g r)):=by and_intros<;>(intros;rfl)
@[go_sem] def j7E:(∀(t:Tmp),cr F (.tmp t)=F.getD t .any)/\(∀(v:Value),cr F (.const v)=.raw v)/\(∀(f:FuncId),cr F (.func f)=.raw (.func (.func f) #[] #[]))/\(∀(d:Tmp) (a:AV),cO F (some d) a=F.set d a)/\(∀(a:AV),cO F none a=F):=by and_intros<;>(intros;rfl)
end
attribute [go_sem] bO gp jK lZ ja iM du nU qG yk zv wV fI sf o5 px sD uW yI tc sX vO rT tu Hb uS ve zw uB yC xI mD qJ vh u6 qC oE kJ
attribute [go_sem] cM Op.operands Call.operands xt
section
@[go_sem] def j2X:(∀(cs:UE),(AV.agg cs).cells=cs)/\(∀(k:IntKind) (n:Int),(AV.raw (.int k n)).cells=[.raw (.int k n)])/\(∀(s:UI),(AV.raw (.string s)).cells=[.raw (.string s)])/\(∀(a:Option Addr) (n c:Nat),(AV.raw (.slice a n c)).cells=[.raw (.slice a n c)])/\(∀(x:Bool) (sz:Nat) (css:UC) (d:UE),(AV.sl x sz css d).cells=[.sl x sz css d])/\(∀(i m k j:Nat),(AV.pt i m k j).cells=[.pt i m k j])/\(∀(i m k j:Nat),(AV.rs i m k j).cells=[.rs i m k j])/\(∀(k:IntKind) (n:Int),(AV.raw (.int k n)).one=true)/\(∀(s:UI),(AV.raw (.string s)).one=true)/\(∀(a:Option Addr) (n c:Nat),(AV.raw (.slice a n c)).one=true)/\(∀(x:Bool) (sz:Nat) (css:UC) (d:UE),(AV.sl x sz css d).one=true)/\(∀(i m k j:Nat),(AV.pt i m k j).one=true)/\(∀(i m k j:Nat),(AV.rs i m k j).one=true):=by and_intros<;>(intros;rfl)
end
attribute [go_sem] Hp.get Hp.put aA bj pz gF entry ids tP Cf yy room yz Bj mg
attribute [go_sem] AV.all aY eu AV.flat zC xS rQ rY oo iL fy gZ Ht Ie bt
@[go_sem] def j3T(sz:Nat):Good sz []=True:=by simp[P6]
@[go_sem] def j18(sz:Nat)(cs:UE)(css:UC):Good sz (cs::css)=((cs.length=sz/\cM cs=true)/\Good sz css):=by simp[Good]
@[go_sem] def j3S(enc:α->UE)(sz:Nat)[bH enc sz](l:List α):Good sz (l.map enc)=True:=by simp[Qn]
@[go_sem] def j8M(q:UO):QL q []=True:=by simp[Re]
@[go_sem] def j6S(q:UO)(cs:UE)(css:UC):QL q (cs::css)=(aY q cs=true/\QL q css):=by simp[QL]
@[go_sem] def j2l(q:UO)(a b:UC):QL q (a++b)=(QL q a/\QL q b):=by apply propext;exact⟨fun h=>⟨fun c hc=>h c (List.mem_append_left _ hc),fun c hc=>h c (List.mem_append_right _ hc)⟩,fun h=>PT h.1 h.2⟩
variable{sz:Nat}
@[go_sem] def j8L(q:UO)(enc:α->UE)[bH enc sz](l:List α):QL q (l.map enc)=True:=by simp[nG]
@[go_sem] def j3Q[Inhabited α](enc:α->UE)(l:List α)(k:Nat)(h:k<l.length):(l.map enc).getD k []=enc (nth l k):=by simp[nth,h]
@[go_sem] def j17[Inhabited α](enc:α->UE)(l:List α)(k:Nat):(l.map enc).getD k (enc default)=enc (nth l k):=by unfold nth;rcases Nat.lt_or_ge k l.length with h|h<;>simp[h]
@[go_sem] def j4v(enc:α->UE)(l:List α)(k:Nat):(l.map enc).drop k=(l.drop k).map enc:=jE
@[go_sem] def j4w(enc:α->UE)(l:List α)(k:Nat):(l.map enc).take k=(l.take k).map enc:=jE
@[go_sem] def j47(l:List α):l.take l.length=l:=jE
@[go_sem] def j0m{β:Type}(f:α->β)(l:List α):(l.map f).length=l.length:=jE
@[go_sem] def jva(a b:List α):(a++b).length=a.length+b.length:=jE
@[go_sem] def j0r{β:Type}(f:α->β)(a b:List α):(a++b).map f=a.map f++b.map f:=jE
@[go_sem] def jvR(i:Nat):([]:UH).contains i=false:=(rfl)
@[go_sem] def ju6(i j:Nat)(l:UH):(j::l).contains i=(i == j || l.contains i):=List.contains_cons
@[go_sem] def j0R(e e':UJ)(sz sz':Nat)(a b:UC):(Row.aG e sz a=Row.aG e' sz' b)=(e=e'/\sz=sz'/\a=b):=jE
@[go_sem] def j0Q(e e':UJ)(a b:UE):(Row.var e a=Row.var e' b)=(e=e'/\a=b):=jE
attribute [go_sem] List.getD_cons_zero List.getD_cons_succ List.getD_nil List.set_cons_zero List.set_cons_succ List.set_nil List.map_nil List.map_cons List.getElem?_cons_zero List.getElem?_cons_succ List.getElem?_nil List.getElem?_toArray List.all_nil List.all_cons List.append_nil List.nil_append List.cons_append List.length_cons List.length_nil List.take_succ_cons List.take_zero List.take_nil List.drop_succ_cons List.drop_zero List.drop_nil List.flatten_nil List.flatten_cons
def KP(b:Bool):(b == true)=b:=by cases b<;>rfl
def PS(b:Bool):(b == false)=!b:=by cases b<;>rfl
attribute [go_sem] if_true if_false true_and and_true false_and and_false Option.map_some Option.map_none Option.getD_some Option.getD_none Option.bind_some Option.bind_none Option.isSome_some Option.isNone_some Option.isNone_none Option.some.injEq Bool.and_true Bool.true_and Bool.and_self Bool.not_true Bool.not_false KP PS Bool.false_eq_true Bool.true_eq_false reduceCtorEq imp_self implies_true forall_const or_true true_or or_self or_false false_or not_true_eq_false not_false_eq_true eq_self ne_eq and_self List.foldl_cons List.foldl_nil Bool.not_eq_true' Bool.or_true Bool.or_false Bool.true_or Bool.false_or decide_true decide_false Nat.zero_add Nat.add_zero Nat.le_refl Int.toNat_natCast
@[go_sem] def j1F(c x:Bool):xE c x false=(c && x):=by cases c<;>rfl
@[go_sem] def j2W(c y:Bool):xE c true y=(c || y):=by cases c<;>rfl
@[go_sem] def j2C(b:Bool):(false ^^ b)=b:=by cases b<;>rfl
@[go_sem] def j5E(b:Bool):(true ^^ b)=!b:=by cases b<;>rfl
@[go_sem] def ju4(id id':Nat)(Q:Exit->UA)(F:UE)(H:Hp):su id Q (.exit id') F H=if id'=id then Q .normal F H else Q (.exit id') F H:=(rfl)
def mM(J:List (Nat×AV))(F:UE):UE:=J.foldl (fun F p=>F.set p.1 p.2) F
attribute [go_sem] mM nn Eg List.replicate_succ List.replicate_zero
def Next(n:Nat){S:Type}(W:List (Nat×Nat))(ok:S->Prop)(J:S->List (Nat×AV))(G:S->Hp)(μ:S->Nat)(F₀ F:UE)(H:Hp):Prop:=∃s,μ s<n/\dV F H (mM (J s) (nn W F₀)) (G s)/\ok s
variable{n:Nat}{W:List (Nat×Nat)}{F₀:UE}
def eQ{S:Type}{ok:S->Prop}{J:S->List (Nat×AV)}{G:S->Hp}{μ:S->Nat}(s:S)(h1:ok s)(h2:μ s<n)(h4:H=G s)(h3:lj F (mM (J s) (nn W F₀))):Next n W ok J G μ F₀ F H:=⟨s,h2,by rw[<-h4];exact dV.pt H h3,h1⟩
def DT{S:Type}{ok:S->Prop}{J:S->List (Nat×AV)}{G:S->Hp}{μ:S->Nat}(D:UO)(s:S)(h1:ok s)(h2:μ s<n)(hB:H.B.all (gZ D)=true)(hl:iL D H.l)(h4:⟨H.B,fy D H.l⟩=G s)(h3:bt D H F (mM (J s) (nn W F₀))):Next n W ok J G μ F₀ F H:=⟨s,h2,by rw[<-h4];exact dV.free D hB hl h3,h1⟩
def eN{c:Code}{Q:Exit->UA}{S:Type}(W:List (Nat×Nat))(ok:S->Prop)(J:S->List (Nat×AV))(G:S->Hp)(μ:S->Nat)(s₀:S)(h0:ok s₀)(Uq:dV F H (mM (J s₀) (nn W F)) (G s₀))
  (round:∀s,ok s->∀K:UA,(∀F' H',Next (μ s) W ok J G μ F F' H'->K F' H')->dI P c (uG K Q) (mM (J s) (nn W F)) (G s)):dI P (.loop c) Q F H:=by
 refine LC (S:=S) (fun s F' H'=>F'=mM (J s) (nn W F)/\H'=G s/\ok s) μ s₀ Uq ⟨rfl,rfl,h0⟩ ?_;rintro s F' H' ⟨rfl,rfl,hok⟩;refine round s hok _ ?_;rintro F'' Vx ⟨s',h1,h2,h3⟩;exact⟨s',_,_,h1,h2,rfl,rfl,h3⟩
def eR{F':UE}{H':Hp}(h1:H=H')(h2:lj F F'):dV F H F' H':=by rw[<-h1];exact dV.pt H h2
variable{out:UE}
def uO{e:Exit}(he:e=.normal\/e=.ret)(ho:jU P H F fn.results.toList=some out)(hok:kG P H F fn.results.toList)(r:AV)(H':Hp)(Uq:iD (kz out) H r H')(hR:R r H'.l):lD P fn R e F H:=by rcases he with rfl|rfl<;>exact⟨out,r,H',ho,hok,Uq,hR⟩
variable{t:UJ}{K:UB}{zs:UM}
def Ak(i:Nat)(hz:dR P t=some zs)(hi:H.get i=none)(h:K (.pt i 0 0 0) (H.put i (.var t (zs.map .raw)))):ob P H t K:=by unfold ob;rw[hz];exact⟨i,hi,h⟩
def yP{x:AV}(i:Nat)(ho:cM x.cells=true)(hi:H.get i=none)(h:K (.pt i 0 0 0) (H.put i (.var t x.cells))):qI H t x K:=⟨ho,i,hi,h⟩
def yM:List UR->Nat->Nat
 |[],m=>m
 |(i,_)::l,m=>yM l (if m<=i then i+1 else m)
def nx(l:UD):Nat:=yM l 0
theorem J0:∀(l:UD) (m i:Nat),yM l m<=i->aA l i=none/\m<=i
 |[],m,i,h=>⟨rfl,h⟩
 |(j,r)::l,m,i,h=>by
  obtain⟨h1,h2⟩:=J0 l _ i h;simp only[aA];split at h2
  ·rw[jN];exact⟨h1,jB⟩
  ·rw[jN];exact⟨h1,h2⟩
def y6(l:UD)(i:Nat)(h:nx l<=i):aA l i=none:=(J0 l 0 i h).1
attribute [go_sem] yM
attribute [go_sem] nx
@[go_sem] def j0D:((none:Option Operand).toArray.toList=[])/\(∀(x:Operand),(some x).toArray.toList=[x]):=by and_intros<;>(intros;rfl)
def TM{A:Nat->Prop}{d:iw A}(h:A (nx H.l)):vC H A d:=⟨_,y6 _ _ jl,h⟩
def M1(hz:dR P t=some zs)(h:K (.pt (nx H.l) 0 0 0) (H.put (nx H.l) (.var t (zs.map .raw)))):ob P H t K:=Ak _ hz (y6 _ _ jl) h
def KB{x:AV}(ho:cM x.cells=true)(h:K (.pt (nx H.l) 0 0 0) (H.put (nx H.l) (.var t x.cells))):qI H t x K:=yP _ ho (y6 _ _ jl) h
variable{css:UC}
def Nw{e:UJ}(h1:aY eu css.flatten=true)(h2:K (.sl true sz css []) H):sn e sz css H K:=.inl ⟨h1,h2⟩
def Ec{e:UJ}(i:Nat)(h0:0<sz)(hi:H.get i=none)(h2:K (.rs i css.length sz css.length) (H.put i (.aG e sz css))):sn e sz css H K:=.inr ⟨h0,i,hi,h2⟩
def Pe{e:UJ}(h0:0<sz)(h2:K (.rs (nx H.l) css.length sz css.length) (H.put (nx H.l) (.aG e sz css))):sn e sz css H K:=Ec _ h0 (y6 _ _ jl) h2
def N9{e:UJ}(h0:0<sz)(h2:K (.rs (nx H.l) 0 sz 0) (H.put (nx H.l) (.aG e sz []))):sn e sz [] H K:=Pe h0 h2
def gN(a a':AV):Prop:=∀(w:NW) v,ax w a v->ax w a' v
def gN.refl(a:AV):gN a a:=fun _ _ h=>h
theorem gN.sl{x:Bool}{sz:Nat}{css:UC}{d d':UE}:gN (.sl x sz css d) (.sl false sz css d'):=fun w v hr=>by
 cases hr with
 |gG _ _ A c _=>exact .gG _ _ _ _ (fun e=>by cases e)
 |sl _ _ _ a c vs hn hc hx Uu hb hH D' hr=>exact .sl _ _ _ a c vs hn hc (fun e=>by cases e) Uu hb hH D' hr
def gN.nil{d:UE}:gN (.raw (.slice none 0 0)) (.sl false sz [] d):=fun w v hr=>by have:=db hr;subst this;exact .gG _ _ _ _ (fun e=>by cases e)
def pS:UE->UE->Prop
 |[],[]=>True
 |a::l,b::m=>gN a b/\pS l m
 |_,_=>False
theorem pS.get:∀{l m:UE},pS l m->l.length=m.length/\∀(i:Nat) a b,l[i]?=some a->m[i]?=some b->gN a b
 |[],[],_=>⟨rfl,fun i a b h=>by simp at h⟩
 |x::l,y::m,h=>by
  have ih:=pS.get h.2;refine⟨by simp[ih.1],fun i a b ha hb=>?_⟩;cases i with
  |zero=>simp at ha hb;subst ha hb;exact h.1
  |succ i=>exact ih.2 i a b (by simpa using ha) (by simpa using hb)
attribute [go_sem] kz
@[go_sem] def j16(l:UE)(n m:Nat):(l.drop n).getD m .any=l.getD (n+m) .any:=by simp[List.getD_eq_getElem?_getD]
attribute [go_sem] List.drop_drop List.length_drop Array.toList_append
def TR{e:Exit}(he:e=.normal\/e=.ret)(ho:jU P H F fn.results.toList=some out)(hok:kG P H F fn.results.toList)(h1:kz out=r)(h2:H.l=l):lD P fn (fun r' l'=>r'=r/\l'=l) e F H:=
 uO he ho hok r H (iD.of_eq H h1) ⟨rfl,h2⟩
def HR{e:Exit}(D:UO)(he:e=.normal\/e=.ret)(ho:jU P H F fn.results.toList=some out)(hok:kG P H F fn.results.toList)(hB:H.B.all (gZ D)=true)(hl:iL D H.l)(hv:cY D H (kz out) r)(h2:fy D H.l=l):lD P fn (fun r' l'=>r'=r/\l'=l) e F H:=
 uO he ho hok r _ (iD.free D hB hl hv) ⟨rfl,h2⟩
def zz{D:UO}{a a':AV}(h:a=a')(hq:a.all (gZ D)=true):cY D H a a':=by subst h;exact .same _ hq
def mL(B:UH):UO:=fun i=>!(B.contains i)
def Ru{e:Exit}(he:e=.normal\/e=.ret)(ho:jU P H F fn.results.toList=some out)(hok:kG P H F fn.results.toList)(hl:iL (mL H.B) H.l)(hv:cY (mL H.B) H (kz out) r)(h2:fy (mL H.B) H.l=l):lD P fn (fun r' l'=>r'=r/\l'=l) e F H:=
 HR (mL H.B) he ho hok (by rw[List.all_eq_true];intro x hx;simp[gZ,mL,hx]) hl hv h2
attribute [go_sem] jU kG
def Hf{e:Exit}(rs:List ResultVar)(W0:fn.results.toList=rs)(he:e=.normal\/e=.ret)(ho:jU P H F rs=some out)(hok:kG P H F rs)(hl:iL (mL H.B) H.l)(hv:cY (mL H.B) H (kz out) r)(h2:fy (mL H.B) H.l=l):lD P fn (fun r' l'=>r'=r/\l'=l) e F H:=by subst W0;exact Ru he ho hok hl hv h2
def Mn{e:Exit}(rs:List ResultVar)(W0:fn.results.toList=rs)(he:e=.normal\/e=.ret)(ho:jU P H F rs=some out)(hok:kG P H F rs)(h1:kz out=r)(h2:H.l=l):lD P fn (fun r' l'=>r'=r/\l'=l) e F H:=by subst W0;exact TR he ho hok h1 h2
attribute [go_sem] mL cond_true cond_false uh
def py{S:Type}{ok:S->Prop}{J:S->List (Nat×AV)}{G:S->Hp}{μ:S->Nat}(L:UH)(s:S)(h1:ok s)(h2:μ s<n)(hB:H.B.all (gZ fun i=>L.contains i)=true)(hl:iL (fun i=>L.contains i) H.l)(h4:⟨H.B,fy (fun i=>L.contains i) H.l⟩=G s)(h3:bt (fun i=>L.contains i) H F (mM (J s) (nn W F₀))):Next n W ok J G μ F₀ F H:=DT _ s h1 h2 hB hl h4 h3
def RR{D:UO}(a:AV):cY D H a .any:=.drop a
@[go_sem] def j1d(i:Nat)(e:UJ)(m sz:Nat)(css ys:UC)(H:Hp)(K:UB):uj i e m sz m css ys H K=K (.rs i (m+ys.length) sz (m+ys.length)) (H.put i (.aG e sz (css++ys))):=if_pos rfl
def NB{enc:α->UE}(vars more ys:List α){e:UJ}{m:Nat}{yss:UC}(hm:m=vars.length+more.length)(hn:n=vars.length)(hc:css=(vars++more).map enc)(hy:yss=ys.map enc)
  (h:K (.rs i (vars.length+ys.length+(more.drop ys.length).length) sz (vars.length+ys.length)) (H.put i (.aG e sz ((vars++ys++more.drop ys.length).map enc)))):uj i e m sz n css yss H K:=by
 subst hm hn hc hy;unfold uj;split
 ·rename_i h';have:more=[]:=List.length_eq_zero_iff.1 jB;subst this;simpa using h
 ·have e1:max (vars.length+more.length) (vars.length+(ys.map enc).length)=vars.length+ys.length+(more.drop ys.length).length:=by simp;omega
  have e2:dx ((vars++more).map enc) vars.length (ys.map enc)=(vars++ys++more.drop ys.length).map enc:=by
   unfold dx;rw[<-List.map_take,List.take_left',<-List.map_drop,List.length_map,List.drop_append,List.drop_eq_nil_of_le jB,List.nil_append]
   ·simp
   ·rfl
  rw[e1,e2];simpa using h
def Fl{b c:Bool}(h:b=c):AV.raw (.bool b)=AV.raw (.bool c):=by rw[h]
def R9{k:IntKind}{b c:Int}(h:b=c):AV.raw (.int k b)=AV.raw (.int k c):=by rw[h]
section
variable {P:UP}{ops:Array Oper}{H:Hp}
def xK(ops:Array Oper)(o:Oper)(F G:UE):Prop:=(∀x∈o.op.operands.toList,cr G x=cr F x)/\∀j b,o.guard=some (j,b)->lZ ops G j b=lZ ops F j b
def QV(P:UP)(ops:Array Oper)(o:Oper)(F:UE)(H:Hp)(r:AV):Prop:=∀G,xK ops o F G->mR P ops o G H fun F' H'=>F'=cO G o.dst r/\H'=H
variable{K:UB}
def Ab{f:AV}{args:UE}{K':UB}(h:fg P f args H K)(hk:∀r H,K r H->K' r H):fg P f args H K':=by
 unfold fg at*;split at h
 ·rcases h with h|h
  ·exact .inl ⟨h.1,h.2.mono hk⟩
  ·exact .inr fun w vs h1 h2=>by obtain⟨v,w',r,H',e,k,g⟩:=h w vs h1 h2;exact⟨v,w',r,H',e,hk _ _ k,g⟩
 ·exact h.elim
def ph(P:UP)(t:UJ)(n:Nat)(parts:List (Nat×AV))(K:AV->Prop):Prop:=match ir P t with
 |some e=>match dc P e with
  |some sz=>((parts.length=n/\xt sz 0 parts/\n*sz<=16777216/\(n*sz=0\/(dR P e).isSome=true))/\aY eu (mg parts).flatten=true)/\K (.sl true sz (mg parts) [])
  |none=>False
 |none=>False
variable{t:UJ}{n:Nat}{parts:List (Nat×AV)}
def Qd(h:ph P t n parts fun r=>K r H):oE P H t n parts K:=by
 unfold ph at h;unfold oE;split at h
 ·rename_i e he;split at h
  ·rename_i sz hs;try simp only[he,hs]
   exact⟨h.1.1,.inl ⟨h.1.2,h.2⟩⟩
  ·exact h.elim
 ·exact h.elim
variable{K:AV->Prop}
def AU(h:ph P t n parts K):∃r,K r/\∀K':AV->Prop,K' r->ph P t n parts K':=by
 unfold ph at h;split at h
 ·rename_i e he;split at h
  ·rename_i sz hs;exact⟨_,h.2,fun K' hk=>by unfold ph;rw[he];simp only[hs];exact⟨h.1,hk⟩⟩
  ·exact h.elim
 ·exact h.elim
def oD:Op->Bool
 |.binOp .eql ..=>true
 |.binOp .neq ..=>true
 |_=>false
variable{o:Oper}{F:UE}
def Kx{K:UA}(hg:o.guard=none)(hq:(vq P (cr F) H o.op).1)(hk:K (cO F o.dst (vq P (cr F) H o.op).2) H):mR P ops o F H K:=
 Sf hg (Mm (K:=fun r H'=>K (cO F o.dst r) H') hq hk)
def vw(hg:o.guard=none)(hq:(vq P (cr F) H o.op).1):QV P ops o F H (vq P (cr F) H o.op).2:=fun G hG=>by have e:vq P (cr G) H o.op=vq P (cr F) H o.op:=tQ _ hG.1;exact Kx hg (by rw[e];exact hq) ⟨by rw[e],rfl⟩
variable{dst:Option Tmp}{after:Array Edge}
def HL{f:Operand}{args:Array Operand}{ts:Array UJ}{ty:UJ}{pos:String}{r:AV}(h:fg P (cr F f) (args.toList.map (cr F)) H fun r' H'=>r'=r/\H'=H) :
  QV P ops ⟨dst,.call ⟨.value f,args,ts⟩,ty,pos,after,none⟩ F H r:=fun G hG=>by
 refine qv (K:=fun F' H'=>F'=cO G dst r/\H'=H) rfl ?_;show fg P (cr G f) (args.toList.map (cr G)) H _;rw[hG.1 f (by simp[Op.operands,Call.operands]),List.map_congr_left (g:=cr F) (fun x hx=>hG.1 x (by simp[Op.operands,Call.operands]at hx ⊢;exact .inr hx))];exact Ab h fun r' H' ⟨e1,e2⟩=>⟨by rw[e1],e2⟩
def Ca{parts:Array (Nat×Operand)}{ty:UJ}{pos:String}{r:AV}(h:ph P t n (parts.toList.map fun p=>(p.1,cr F p.2)) fun r'=>r'=r) :
  QV P ops ⟨dst,.buildSlice t n parts,ty,pos,after,none⟩ F H r:=fun G hG=>by
 refine qv (K:=fun F' H'=>F'=cO G dst r/\H'=H) rfl ?_;show oE P H t n (parts.toList.map fun p=>(p.1,cr G p.2)) (fun r_1 H'=>cO G dst r_1=cO G dst r/\H'=H);rw[List.map_congr_left (g:=fun p=>(p.1,cr F p.2)) (fun x hx=>by rw[hG.1 x.2 (by simp[Op.operands]at hx ⊢;exact⟨_,hx⟩)])];refine Qd ?_;obtain⟨r',e,hk⟩:=AU h;subst e;exact hk _ ⟨rfl,rfl⟩
variable{G:UE}
def Ba(o:Op)(h:∀x∈o.operands.toList,cr G x=cr F x):gp G o=gp F o:=by unfold gp;rw[Bool.eq_iff_iff,List.all_eq_true,List.all_eq_true];constructor<;>intro hh x hx<;>have:=hh x hx<;>rw[h x hx]at*<;>exact this
def xl:Op->Bool
 |.pick ..=>true
 |.call { callee:=.invoke ..,.. }=>true
 |_=>false
def Ag{g:Bool}(o:Op)(h:ja o=false)(hp:xl o=false):fa P F H g K o=if iM o then(g=true->gp F o=true/\(vq P (bO F) H o).1)/\K (.gd g (vq P (bO F) H o).2)else False:=by
 cases o
 case call c=>
  obtain⟨callee,args,ts⟩:=c;cases callee
  case value f=>cases h
  case invoke f m=>cases hp
  all_goals rfl
 case pick=>cases hp
 all_goals rfl
def Bv{g:Bool}{o:Op}(h:fa P F H g K o):∃r,K (.gd g r)/\∀(G:UE) (K':AV->Prop),(∀x∈o.operands.toList,cr G x=cr F x)->K' (.gd g r)->fa P G H g K' o:=by
 cases hc:ja o with
 |false=>
  by_cases hp:xl o=true
  ·cases o<;>try cases hp
   case call c=>
    obtain⟨callee,args,ts⟩:=c;cases callee<;>try cases hp
    rename_i f m;obtain⟨r,h1,h2⟩:=h;refine⟨r,h2,fun G K' hG hk=>⟨r,fun hg=>⟨Ba _ hG ▸ (h1 hg).1,?_⟩,hk⟩⟩;have he:∀x∈(Op.call ⟨.invoke f m,args,ts⟩).operands.toList,bO G x=bO F x:=fun x hx=>by unfold bO;rw[hG x hx]
    rw[he f (by simp[Op.operands,Call.operands]),List.map_congr_left (g:=bO F) (fun x hx=>he x (by simp[Op.operands,Call.operands]at hx ⊢;exact .inr hx))];exact(h1 hg).2
   rename_i c a b;refine⟨_,h.2,fun G K' hG hk=>?_⟩;have he:∀x∈(Op.pick c a b).operands.toList,bO G x=bO F x:=fun x hx=>by unfold bO;rw[hG x hx]
   show(g=true->(jK (cr G c)).1=true/\(nU (bO G c) (cr G a) (cr G b)).1)/\K' (.gd g (nU (bO G c) (cr G a) (cr G b)).2);rw[hG c (by simp[Op.operands]),hG a (by simp[Op.operands]),hG b (by simp[Op.operands]),he c (by simp[Op.operands])];exact⟨h.1,hk⟩
  have hp:xl o=false:=by simpa using hp
  rw[Ag o hc hp]at h;split at h
  ·rename_i hq;refine⟨_,h.2,fun G K' hG hk=>?_⟩;have he:∀x∈o.operands.toList,bO G x=bO F x:=fun x hx=>by unfold bO;rw[hG x hx]
   rw[Ag o hc hp,if_pos hq,tQ _ he,Ba o hG];exact⟨h.1,hk⟩
  ·exact h.elim
 |true=>
  cases o<;>try cases hc
  rename_i c;obtain⟨callee,args,ts⟩:=c;cases callee<;>try cases hc
  rename_i f;obtain⟨r,h1,h2⟩:=h;refine⟨r,h2,fun G K' hG hk=>⟨r,fun hg=>⟨Ba _ hG ▸ (h1 hg).1,?_⟩,hk⟩⟩;have he:∀x∈(Op.call ⟨.value f,args,ts⟩).operands.toList,bO G x=bO F x:=fun x hx=>by unfold bO;rw[hG x hx]
  rw[he f (by simp[Op.operands,Call.operands]),List.map_congr_left (g:=bO F) (fun x hx=>he x (by simp[Op.operands,Call.operands]at hx ⊢;exact .inr hx))];exact(h1 hg).2
def CK{j:Nat}{want b:Bool}{r:AV}(hg:o.guard=some (j,want))(hb:lZ ops F j want=some b)(hq:(ja o.op || iM o.op)=true)(h:fa P F H b (fun r'=>r'=r) o.op):QV P ops o F H r:=fun G hG=>by
 have hv:ld P ops (fun F' H'=>F'=cO G o.dst r/\H'=H) [o] G H:=by simp only[ld,hg,hG.2 j want hg,hb,hq,if_true];obtain⟨r',h1,h2⟩:=Bv h;exact h2 G _ hG.1 ⟨by rw[h1],trivial⟩
 have hs:=yb [o] G H hv;intro w tm Q next h1 h2 hn;have:=hs w tm (fun e a w=>match e with|.normal=>next a w|e=>Q e a w) h1 h2 hn;simp only[wpList]at this;unfold tH;split
 ·rename_i hw;rw[if_pos hw]at this;rcases this with h|⟨ha,hl⟩
  ·refine .inl ?_;unfold Oper.wp at*;generalize (execOp (Act.mk tm []).eval o).run P w=res at*;cases res with
   |ok n w'=>
    cases n<;>simp only[Oper.upon]at h ⊢
    case enter f args=>exact Calls.mono h fun e w'' he=>by cases e<;>exact he
    all_goals exact h
   |halt x w'=>cases x<;>simp only[Oper.upon]at h ⊢;exact h
  ·exact .inr ⟨ha,hl⟩
 ·rename_i hw;rw[if_neg hw]at this;exact this
def qa(P:UP)(ops:Array Oper)(H:Hp)(K:UE->Prop):List Oper->UE->Prop
 |[],F=>K F
 |o::rest,F=>match o.guard with
  |none=>match o.op with
   |.call { callee:=.value f,args,.. }=>∃r,(fg P (cr F f) (args.toList.map (cr F)) H fun r' H'=>r'=r/\H'=H)/\qa P ops H K rest (cO F o.dst r)
   |.buildSlice t n parts=>ph P t n (parts.toList.map fun p=>(p.1,cr F p.2)) fun r=>qa P ops H K rest (cO F o.dst r)
   |op=>(vq P (cr F) H op).1/\qa P ops H K rest (cO F o.dst (vq P (cr F) H op).2)
  |some (j,want)=>match lZ ops F j want with
   |some b=>(ja o.op || iM o.op)=true/\fa P F H b (fun r=>qa P ops H K rest (cO F o.dst r)) o.op
   |none=>False
def yB(P:UP)(ops:Array Oper)(H:Hp)(K:UE->Prop):List Oper->UE->UE->Prop
 |[],F,rs=>rs=[]/\K F
 |o::rest,F,rs=>∃r VC,rs=r::VC/\QV P ops o F H r/\yB P ops H K rest (cO F o.dst r) VC
theorem Jn{K:UE->Prop}:∀(l:List Oper) (F:UE),qa P ops H K l F->∃rs,yB P ops H K l F rs
 |[],F,h=>⟨[],rfl,h⟩
 |o::rest,F,h=>by
  have mk:∀r,QV P ops o F H r->qa P ops H K rest (cO F o.dst r)->∃rs,yB P ops H K (o::rest) F rs:=fun r h1 h2=>by obtain⟨rs,h3⟩:=Jn rest _ h2;exact⟨r::rs,r,rs,rfl,h1,h3⟩
  obtain⟨dst,op,ty,pos,after,guard⟩:=o;cases guard with
  |none=>
   unfold qa at h;simp only at h;split at h
   ·obtain⟨r,h1,h2⟩:=h;exact mk r (HL h1) h2
   ·rename_i t n parts;obtain⟨r,h1,h2⟩:=AU h;exact mk r (Ca (h2 _ rfl)) h1
   ·exact mk _ (vw rfl h.1) h.2
  |some g=>
   obtain⟨j,want⟩:=g;unfold qa at h;simp only at h;split at h
   ·rename_i b hb;obtain⟨hq,hv⟩:=h;obtain⟨r,h1,h2⟩:=Bv hv;exact mk _ (CK rfl hb hq (r:=.gd b r) (h2 F _ (fun _ _=>rfl) rfl)) h1
   ·exact h.elim
-- the order
def FL(os:List Oper)(rs:UE)(L:UO)(F:UE):Nat->UE
 |0=>F
 |m+1=>if L m then cO (FL os rs L F m) ((os[m]?).bind (·.dst)) (rs.getD m .any)else FL os rs L F m
def lG(os:List Oper)(rs:UE)(L:UO)(F:UE)(s:Nat):Nat->AV
 |0=>F.getD s .any
 |m+1=>if L m=true/\(os[m]?).bind (·.dst)=some s then rs.getD m .any else lG os rs L F s m
theorem lM(os:List Oper)(rs:UE)(L:UO)(F:UE):∀m,(FL os rs L F m).length=F.length
 |0=>rfl
 |m+1=>by
  unfold FL;split
  ·rw[<-lM os rs L F m];cases(os[m]?).bind (·.dst)<;>simp[cO]
  ·exact lM os rs L F m
theorem sx(os:List Oper)(rs:UE)(L:UO)(F:UE){s:Nat}(hs:s<F.length):∀m,(FL os rs L F m).getD s .any=lG os rs L F s m
 |0=>rfl
 |m+1=>by
  have ih:=sx os rs L F hs m;have hl:=lM os rs L F m;unfold FL lG;cases hd:(os[m]?).bind (·.dst)with
  |none=>
   have Ur:¬(L m=true/\(none:Option Tmp)=some s):=fun h=>by have:=h.2;cases this
   rw[if_neg Ur];cases hL:L m
   ·exact ih
   ·exact ih
  |some d=>
   cases hL:L m
   ·simpa using ih
   ·simp only[if_true,cO,true_and,Option.some.injEq];by_cases e:d=s
    ·subst e;simp[hl,hs]
    ·rw[if_neg e];have:(List.set (FL os rs L F m) d (rs.getD m .any)).getD s .any=(FL os rs L F m).getD s .any:=by simp[List.getElem?_set,e]
     rw[this,ih]
variable{os:List Oper}
def Gi{rs:UE}{L L':UO}{m m':Nat}(hG:G.length=F.length)(h:∀s,s<F.length->G.getD s .any=lG os rs L F s m):G=FL os rs L F m:=by
 refine List.ext_getElem? fun s=>?_
 rcases Nat.lt_or_ge s F.length with hs|hs
 ·have h1:=h s hs;rw[<-sx os rs L F hs m]at h1;have h2:G[s]?=some (G.getD s .any):=by simp[hG,hs]
  have h3:(FL os rs L F m)[s]?=some ((FL os rs L F m).getD s .any):=by simp[lM,hs]
  rw[h2,h3,h1]
 ·rw[List.getElem?_eq_none jB,List.getElem?_eq_none (by rw[lM];omega)]
def looks(os:List Oper)(o:Oper):UH:=
 (o.op.operands.toList.filterMap fun|.tmp t=>some t|_=>none)++
 (match o.guard with
   |some (g,_)=>((os[g]?).bind (·.dst)).toList
   |none=>[])
def ql:UH->UH
 |[]=>[]
 |x::l=>if(ql l).contains x then ql l else x::ql l
theorem CX{x:Nat}:∀{l:UH},x∈ql l<->x∈l
 |[]=>Iff.rfl
 |y::l=>by
  have ih:x∈ql l<->x∈l:=CX;unfold ql;split
  ·rename_i h;rw[ih,List.mem_cons];refine⟨.inr,fun h'=>h'.elim (fun e=>?_) id⟩;subst e;exact ih.1 (List.contains_iff_mem.1 h)
  ·rw[List.mem_cons,List.mem_cons,ih]
def nh(VZ:List UH)(o:Oper):List UH:=VZ++[ql ((o.after.toList.filter (Region.binds .any)).flatMap fun e=>e.on::VZ.getD e.on [])]
def kP(os:List Oper):List UH:=os.foldl nh []
def ue(os:List Oper)(a b:Oper):Bool:=
 (match a.dst with
   |some d=>(looks os b).contains d || b.dst == some d
   |none=>false) ||
 (match b.dst with
   |some d=>(looks os a).contains d
   |none=>false)
def uw(os:List Oper):Bool:=
 let ps:=kP os
 (List.range os.length).all fun j=>match os[j]? with
  |some b=>(b.after.toList.all fun e=>!Region.binds .any e || decide (e.on<j)) &&
   (List.range j).all fun i=>match os[i]? with
    |some a=>!ue os a b || (ps.getD j []).contains i
    |none=>true
  |none=>true
theorem BL:∀(os:List Oper) (VZ:List UH) (j:Nat),j<VZ.length->(os.foldl nh VZ)[j]?=VZ[j]?
 |[],VZ,j,_=>rfl
 |o::os,VZ,j,h=>by simp only[List.foldl_cons];rw[BL os _ j (by simp[nh];omega)];unfold nh;rw[List.getElem?_append_left h]
theorem JY:∀(os:List Oper) (VZ:List UH) (j:Nat) (o:Oper),os[j]?=some o->(os.foldl nh VZ).getD (VZ.length+j) []=ql ((o.after.toList.filter (Region.binds .any)).flatMap fun e=>e.on::(if e.on<VZ.length+j then(os.foldl nh VZ).getD e.on []else[]))
 |[],VZ,j,o,h=>by simp at h
 |o'::os,VZ,0,o,h=>by
  simp only[List.getElem?_cons_zero,Option.some.injEq]at h;subst h;simp only[List.foldl_cons,Nat.add_zero];have h1:(os.foldl nh (nh VZ o')).getD VZ.length []=ql ((o'.after.toList.filter (Region.binds .any)).flatMap fun e=>e.on::VZ.getD e.on []):=by rw[List.getD_eq_getElem?_getD,BL os _ _ (by simp[nh])];unfold nh;rw[List.getElem?_append_right jl];simp
  rw[h1];congr 2
  funext e
  congr 1
  split
  ·rename_i O';rw[List.getD_eq_getElem?_getD,List.getD_eq_getElem?_getD,BL os _ _ (by simp[nh];omega)];unfold nh;rw[List.getElem?_append_left O']
  ·rename_i hge;rw[List.getD_eq_getElem?_getD,List.getElem?_eq_none jB];rfl
 |o'::os,VZ,j+1,o,h=>by
  simp only[List.foldl_cons];have:=JY os (nh VZ o') j o (by simpa using h);have e:(nh VZ o').length+j=VZ.length+(j+1):=by simp[nh];omega
  rw[e]at this;exact this
def II{j:Nat}(h:os[j]?=some o):(kP os).getD j []=ql ((o.after.toList.filter (Region.binds .any)).flatMap fun e=>e.on::(if e.on<j then(kP os).getD e.on []else[])):=by have:=JY os [] j o h;simp only[List.length_nil,Nat.zero_add]at this;exact this
def n8(os:List Oper)(L:UO):Prop:=∀j o,os[j]?=some o->L j=true->∀e∈o.after.toList,Region.binds .any e=true->L e.on=true
def vM{L:UO}(hc:n8 os L)(O':∀j o,os[j]?=some o->∀e∈o.after.toList,Region.binds .any e=true->e.on<j):∀n j,j<n->∀o,os[j]?=some o->(∀e∈o.after.toList,Region.binds .any e=true->L e.on=true)->∀i∈(kP os).getD j [],L i=true:=by
 intro n;induction n with
 |zero=>intro j hj;omega
 |succ n ih=>
  intro j hj o ho hL i hi;rw[II ho,CX]at hi;obtain⟨e,he,hi⟩:=List.mem_flatMap.1 hi;obtain⟨Xm,Zo⟩:=List.mem_filter.1 he;have Zp:=hL e Xm Zo;rcases List.mem_cons.1 hi with rfl|hi
  ·exact Zp
  ·rw[if_pos (O' j o ho e Xm Zo)]at hi;have hlt':=O' j o ho e Xm Zo;have hjlen:=(List.getElem?_eq_some_iff.1 ho).1;have WM:os[e.on]?=some (os[e.on]' jB):=List.getElem?_eq_getElem jB;exact ih e.on jB _ WM (fun e' h1 h2=>hc _ _ WM Zp e' h1 h2) i hi
theorem AK(o:Oper)(os:List Oper)(r:AV)(rs:UE)(F:UE):∀m,FL (o::os) (r::rs) (fun _=>true) F (m+1)=FL os rs (fun _=>true) (cO F o.dst r) m
 |0=>by simp[FL]
 |m+1=>by have ih:=AK o os r rs F m;rw[FL,if_pos rfl,ih,FL,if_pos rfl];simp
theorem GP{K:UE->Prop}:∀(l:List Oper) (F:UE) (rs:UE),yB P ops H K l F rs->(∀i o,l[i]?=some o->QV P ops o (FL l rs (fun _=>true) F i) H (rs.getD i .any))/\K (FL l rs (fun _=>true) F l.length)
 |[],F,rs,h=>⟨fun i o hi=>by simp at hi,h.2⟩
 |o::l,F,rs,h=>by
  obtain⟨r,VC,rfl,h1,h2⟩:=h;obtain⟨g1,g2⟩:=GP l _ VC h2;refine⟨fun i o' hi=>?_,by rw[List.length_cons,AK];exact g2⟩;cases i with
  |zero=> simp only[List.getElem?_cons_zero,Option.some.injEq]at hi;subst hi;exact h1
  |succ i=> rw[AK];exact g1 i o' (by simpa using hi)
def uP(h:uw os=true):(∀j o,os[j]?=some o->∀e∈o.after.toList,Region.binds .any e=true->e.on<j)/\
  ∀i j a b,i<j->os[i]?=some a->os[j]?=some b->ue os a b=true->i∈(kP os).getD j []:=by
 simp only[uw,List.all_eq_true,List.mem_range]at h;constructor
 ·intro j o ho e he hb;have:=h j (List.getElem?_eq_some_iff.1 ho).1;rw[ho]at this;simp only[Bool.and_eq_true,List.all_eq_true]at this;have:=this.1 e he;simpa[hb]using this
 ·intro i j a b hij ha hb hc;have:=h j (List.getElem?_eq_some_iff.1 hb).1;rw[hb]at this;simp only[Bool.and_eq_true,List.all_eq_true,List.mem_range]at this;have:=this.2 i hij;rw[ha]at this;simp only[hc,Bool.not_true,Bool.false_or]at this;simpa using this
theorem Ib{os:List Oper}{rs F:UE}{L:UO}{i s:Nat}(hw:∀k o,os[k]?=some o->o.dst=some s->L k=decide (k<i)):∀m,lG os rs L F s m=lG os rs (fun _=>true) F s (min m i)
 |0=>by simp[lG]
 |m+1=>by
  have ih:=Ib (rs:=rs) (F:=F) hw m;rw[lG];by_cases hd:(os[m]?).bind (·.dst)=some s
  ·obtain⟨o,ho,hs⟩:=Option.bind_eq_some_iff.1 hd;have hL:=hw m o ho hs;by_cases hm:m<i
   ·rw[if_pos ⟨by rw[hL];simpa using hm,hd⟩,show min (m+1) i=m+1 from jB,lG,if_pos ⟨rfl,hd⟩]
   ·rw[if_neg (by rw[hL];simp[hm]),ih,show min (m+1) i=min m i from jB]
  ·rw[if_neg (by simp[hd]),ih];by_cases hm:m<i
   ·rw[show min (m+1) i=m+1 from jB,show min m i=m from jB,lG,if_neg (by simp[hd])]
   ·rw[show min (m+1) i=min m i from jB]
theorem C0{os:List Oper}{rs F:UE}{L L':UO}{i s:Nat}{o:Oper}(ho:os[i]?=some o)(WN:∀k,L' k=(L k || k == i))(hw:∀k o',os[k]?=some o'->o'.dst=some s->L k=decide (k<i))(hs:o.dst=some s):∀m,i<m->lG os rs L' F s m=rs.getD i .any
 |0,h=>by omega
 |m+1,h=>by
  rw[lG];by_cases hm:m=i
  ·subst hm;rw[if_pos ⟨by rw[WN];simp,by rw[ho];exact hs⟩]
  ·rw[if_neg]
   ·exact C0 ho WN hw hs m jB
   ·rintro⟨h1,h2⟩;obtain⟨o',WM,XZ⟩:=Option.bind_eq_some_iff.1 h2;rw[WN,hw m o' WM XZ]at h1;simp at h1;omega
theorem AG{os:List Oper}{rs F:UE}{L L':UO}{i s:Nat}{o:Oper}(ho:os[i]?=some o)(WN:∀k,L' k=(L k || k == i))(hs:o.dst≠some s):∀m,lG os rs L' F s m=lG os rs L F s m
 |0=>rfl
 |m+1=>by
  have ih:=AG (rs:=rs) (F:=F) ho WN hs m;rw[lG,lG,ih,WN];by_cases hm:m=i
  ·subst hm;rw[ho];simp[hs]
  ·simp[hm]
def OV{t:Nat}(h:Operand.tmp t∈o.op.operands.toList):t∈looks os o:=
 List.mem_append_left _ (List.mem_filterMap.2 ⟨_,h,rfl⟩)
def Jw(hl:F.length=G.length)(h:∀s∈looks os o,s<F.length->G.getD s .any=F.getD s .any):xK os.toArray o F G:=by
 have Vq:∀s∈looks os o,G[s]?=F[s]?:=fun s hs=>by
  rcases Nat.lt_or_ge s F.length with h1|h1
  ·have:=h s hs h1;have e1:G[s]?=some (G.getD s .any):=by simp[<-hl,h1]
   have e2:F[s]?=some (F.getD s .any):=by simp[h1]
   rw[e1,e2,this]
  ·rw[List.getElem?_eq_none jB,List.getElem?_eq_none h1]
 constructor
 ·intro x hx;cases x with
  |tmp t=>simp only[cr,List.getD_eq_getElem?_getD,Vq t (OV hx)]
  |const v=>rfl
  |global g=>rfl
  |func f=>rfl
 ·intro j b hg;unfold lZ;cases hd:(os.toArray[j]?).bind (·.dst)with
  |none=>rfl
  |some d=> simp only;rw[Vq d (List.mem_append_right _ (by rw[hg];simp at hd ⊢;simpa using hd))]
variable{Q:Exit->UA}
def Mu{l:List Oper}{rs:UE}(hok:uw l=true)(ZN:∀i o,l[i]?=some o->QV P l.toArray o (FL l rs (fun _=>true) F i) H (rs.getD i .any))(hK:Q .normal (FL l rs (fun _=>true) F l.length) H)(w0:NW) :
  ∀(fuel:Nat) (listed:Array Bool),listed.size=l.length->n8 l (fun i=>listed.getD i false)->(List.range l.length).countP (fun i=>!listed.getD i false)=fuel->
   ∀(w:NW) tm,aJ w H->bs w (FL l rs (fun i=>listed.getD i false) F l.length) tm->Ext w0 H w H->wpAny P .any l.toArray (gX Q w0 H) fuel listed ⟨tm,[]⟩ w.toWorld:=by
 obtain⟨O',Uo⟩:=uP hok
 -- when all are done
 have fin:∀(listed:Array Bool),(∀i,i<l.length->listed.getD i false=true)->∀(w:NW) tm,aJ w H->bs w (FL l rs (fun i=>listed.getD i false) F l.length) tm->Ext w0 H w H->gX Q w0 H .normal ⟨tm,[]⟩ w.toWorld:=by
  intro listed UX w tm h1 h2 h3;have e:FL l rs (fun i=>listed.getD i false) F l.length=FL l rs (fun _=>true) F l.length:=by
   have gen:∀m,m<=l.length->FL l rs (fun i=>listed.getD i false) F m=FL l rs (fun _=>true) F m:=by
    intro m;induction m with
    |zero=>intro _;rfl
    |succ m ih=>intro hm;rw[FL,FL,ih jB,UX m jB]
   exact gen _ jl
  rw[e]at h2;exact⟨tm,_,H,w,rfl,rfl,hK,h1,h2,h3.pB⟩
 intro fuel;induction fuel with
 |zero=>
  intro listed Uu W4 Yu w tm h1 h2 h3;have UX:∀i,i<l.length->listed.getD i false=true:=fun i hi=>by have:=(List.countP_eq_zero.1 Yu) i (List.mem_range.2 hi);simpa using this
  refine⟨?_,fin listed UX w tm h1 h2 h3⟩;rw[List.eq_nil_iff_forall_not_mem];intro j hj;obtain⟨ZO,o,ho,_⟩:=mem_ready.1 hj;have Y0:j<l.length:=by have:=(Array.getElem?_eq_some_iff.1 ho).1;simpa using this
  have:=UX j Y0;simp[Uu,Y0]at this ZO;rw[this]at ZO;cases ZO
 |succ fuel ih=>
  intro listed Uu W4 Yu w tm h1 h2 h3;refine⟨fun ZP=>?_,fun i hi=>?_⟩
  ·-- some operation is ready
   exfalso;have hex:∃i,i<l.length/\listed.getD i false=false:=by have VU:0<(List.range l.length).countP (fun i=>!listed.getD i false):=jB;obtain⟨i,hi,hp⟩:=List.countP_pos_iff.1 VU;exact⟨i,List.mem_range.1 hi,by simpa using hp⟩
   obtain⟨i,⟨hi,hf⟩,Xx⟩:=exists_least hex;have ho:l[i]?=some l[i]:=List.getElem?_eq_getElem hi;have:i∈Region.ready .any l.toArray listed:=mem_ready.2 ⟨by simp[Uu,hi]at hf ⊢;exact hf,l[i],by simp[hi],fun e he hb=>by
    have h4:=O' i _ ho e (by simpa using he) hb;cases hv:listed.getD e.on false with
    |true=>rfl
    |false=>have:=Xx e.on ⟨jB,hv⟩;omega⟩
   rw[ZP]at this;cases this
  ·obtain⟨WU,o,ho,VP⟩:=mem_ready.1 hi;have WM:l[i]?=some o:=by simpa using ho
   have Wc:=(List.getElem?_eq_some_iff.1 WM).1;have X4:listed.getD i false=false:=by simp[Uu,Wc]at WU ⊢;exact WU
   have V5:∀e∈o.after.toList,Region.binds .any e=true->listed.getD e.on false=true:=fun e he hb=>VP e (by simpa using he) hb
   have Vd:=vM W4 O' (i+1) i jB o WM V5
   -- who writes where o touches
   have hwr:∀k o' s,l[k]?=some o'->o'.dst=some s->(s∈looks l o\/o.dst=some s)->listed.getD k false=decide (k<i):=by
    intro k o' s hk hs Vj;rcases Nat.lt_trichotomy k i with h|h|h
    ·rw[decide_eq_true h];refine Vd k (Uo k i o' o h hk WM ?_);unfold ue;rw[hs];rcases Vj with h5|h5
     ·simp[h5]
     ·simp[h5]
    ·subst h;simpa using X4
    ·rw[decide_eq_false jB];cases hv:listed.getD k false with
     |false=>rfl
     |true=>
      have Wg:i∈(kP l).getD k []:=Uo i k o o' h WM hk (by
       unfold ue;rw[hs];rcases Vj with h5|h5
       ·simp[h5]
       ·simp[h5])
      have:=vM W4 O' (k+1) k jB o' hk (fun e he hb=>W4 k o' hk hv e he hb) i Wg;rw[X4]at this;cases this
   have Wd:xK l.toArray o (FL l rs (fun _=>true) F i) (FL l rs (fun i=>listed.getD i false) F l.length):=by
    refine Jw (by rw[lM,lM]) fun s hs I'=>?_
    rw[lM]at I';rw[sx _ _ _ _ I',sx _ _ _ _ I',Ib (fun k o' hk hd=>hwr k o' s hk hd (.inl hs)),show min l.length i=i from jB]
   have WE:=ZN i o WM _ Wd;have WN:∀k,(listed.setIfInBounds i true).getD k false=(listed.getD k false || k == i):=fun k=>by
    by_cases hk:k=i
    ·subst hk;simp[Uu,Wc]
    ·simp[Array.getElem?_setIfInBounds_ne (Ne.symm hk),hk]
   have XK:cO (FL l rs (fun i=>listed.getD i false) F l.length) o.dst (rs.getD i .any)=FL l rs (fun k=>(listed.setIfInBounds i true).getD k false) F l.length:=by
    refine Gi (m':=0) (L':=fun _=>true) (by cases o.dst<;>simp[cO,lM]) fun s hs=>?_
    by_cases hd:o.dst=some s
    ·rw[C0 (L:=fun i=>listed.getD i false) WM WN (fun k o' hk ZQ=>hwr k o' s hk ZQ (.inr hd)) hd _ Wc,hd];simp[cO,lM,hs]
    ·rw[AG (L:=fun i=>listed.getD i false) WM WN hd,<-sx _ _ _ _ hs];cases ZQ:o.dst with
     |none=>rfl
     |some d=>
      have:d≠s:=fun e=>hd (by rw[ZQ,e])
      simp[cO,List.getElem?_set,this]
   have:=WE w tm (gX Q w0 H) (wpAny P .any l.toArray (gX Q w0 H) fuel (listed.setIfInBounds i true)) h1 h2 (by
    rintro Vk w' F' H' ⟨rfl,rfl⟩ g1 g2 g3;refine ih (listed.setIfInBounds i true) (by simpa using Uu) ?_ ?_ w' Vk g1 (by rw[<-XK];exact g2) (h3.trans g3)
    ·intro j o' hj Wy e he hb;simp only[WN]at Wy ⊢;rcases Bool.or_eq_true_iff.1 Wy with h6|h6
     ·have h7:listed.getD e.on false=true:=W4 j o' hj h6 e he hb;rw[h7];rfl
     ·obtain rfl:j=i:=by simpa using h6
      rw[WM]at hj;cases hj;rw[V5 e he hb];rfl
    ·have:∀(n:Nat),i<n->(List.range n).countP (fun k=>!(listed.setIfInBounds i true).getD k false)+1=(List.range n).countP (fun k=>!listed.getD k false):=by
      intro n;induction n with
      |zero=>intro h;omega
      |succ n ihn=>
       intro h;rw[List.range_succ,List.countP_append,List.countP_append];by_cases hn:n=i
       ·subst hn;have:(List.range n).countP (fun k=>!(listed.setIfInBounds n true).getD k false)=(List.range n).countP (fun k=>!listed.getD k false):=by
         refine List.countP_congr fun k hk=>?_
         rw[WN];have:k≠n:=by have:=List.mem_range.1 hk;omega
         simp[this]
        rw[this];simp only[List.countP_singleton,WN,X4];simp
       ·rw[<-ihn jB];simp only[List.countP_singleton,WN];have:(n == i)=false:=by simpa using hn
        rw[this,Bool.or_false];omega
     have:=this l.length Wc;omega)
   unfold wpOp;rw[ho];exact this
def KS{id:Nat}{l:List Oper}(hm:P.follows .mixedOrders=true)(hok:uw l=true)(h:qa P l.toArray H (fun F'=>Q .normal F' H) l F):dI P (.region id l.toArray true) Q F H:=fun w tm h1 h2=>by
 obtain⟨rs,B'⟩:=Jn l F h;obtain⟨ZN,hK⟩:=GP l F rs B';have hz:∀i,(Array.replicate l.toArray.size false).getD i false=false:=fun i=>by by_cases hi:i<l.length<;>simp[Array.getElem?_replicate,hi]
 refine wp_region_any hm ?_;have e0:FL l rs (fun i=>(Array.replicate l.toArray.size false).getD i false) F l.length=F:=by
  have gen:∀m,FL l rs (fun i=>(Array.replicate l.toArray.size false).getD i false) F m=F:=by
   intro m;induction m with
   |zero=>rfl
   |succ m ih=>rw[FL,hz,if_neg jE,ih]
  exact gen _
 exact Mu hok ZN hK w l.toArray.size (Array.replicate l.toArray.size false) jE (fun j o _ hj=>by have:=(hz j).symm.trans hj;cases this) (by rw[List.countP_eq_length.2 (fun i _=>by rw[hz];rfl)];simp) (w.to w.drew) tm h1.drew (by rw[e0];exact h2.ext (Ext.drew w H)) (Ext.drew w H)
end
end Go.Gd